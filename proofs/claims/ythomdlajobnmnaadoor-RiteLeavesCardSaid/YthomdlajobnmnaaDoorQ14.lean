/- part 14 of the proof -/
import Derived.Test.YthomdlajobnmnaaDoorQ10
import Derived.Test.YthomdlajobnmnaaDoorQ12
import Derived.Test.YthomdlajobnmnaaDoorQ13
set_option linter.unusedSimpArgs false
set_option linter.unusedVariables false
namespace Go.Proofs.YthomdlajobnmnaaDoor
open Go.Rex
def Nv:kP:=[(iZ,oC,uN),(gU,wD,pG),(jJ,xN,xO),(jH,uO,xP)]
theorem VD:∀k pre post,(k,pre,post)∈Nv→jD k=true∧bF Tryd.prog k pre post:=by
 intro k pre post h
 simp only [Nv,List.mem_cons,List.not_mem_nil,or_false,Prod.mk.injEq] at h
 rcases h with ⟨rfl,rfl,rfl⟩ | ⟨rfl,rfl,rfl⟩ | ⟨rfl,rfl,rfl⟩ | ⟨rfl,rfl,rfl⟩
 ·exact ⟨by kernel_rfl,GD⟩
 ·exact ⟨by kernel_rfl,Cf⟩
 ·exact ⟨by kernel_rfl,JU⟩
 ·exact ⟨by kernel_rfl,Nu⟩
noncomputable def UA:Ex:={sched:=sched,loops:=[],cons:=[iZ,gU,jJ,jH],fin:=l7}
def Fu:Out :=
 .br (.aC (.var 4) (.lit 1))
 (.br (.or (.aC (.var 0) (.lit 4)) (.aC (.var 0) (.lit 5)))
  (.fin {lo:=71,az:=4,iv:=yo [(137,yv 70)]<|yr 132 65 7<|yo [(124,yv 57),(123,yv 56),(120,yv 53),(119,yv 52),(136,yv 69),(117,yv 50),(116,yv 49),(114,yv 47)]<|yr 112 45 4<|yr 107 40 4<|yo [(102,.lit 0),(101,.lit 0),(100,.lit 0),(99,.lit 0),(97,.lit 0),(96,.lit 0),(95,.lit 0),(94,.lit 0),(93,.lit 24),(92,.lit 0),(91,.lit 0),(90,.lit 1),(89,.lit 3)]<|yr 88 21 4<|yr 83 16 4<|yr 78 11 8 [],bv:=[(134,yw 67),(133,yw 66),(125,yw 58),(122,yw 55),(118,yw 51),(115,yw 48),(113,yw 46),(108,yw 41),(103,.lit false),(98,.lit false),(84,yw 17),(79,yw 12)],ct:=[(137,yu 70 59 7 yN 0),(136,yu 69 70 7 yN 0),(135,yu 68 49 5 yW 0),(121,yl 54 9 5 50 yW 0)],bk:=[(6,yc 3 7),(5,yc 2 7),(4,yc 1 5)]})
  (.fin {lo:=71,az:=4,iv:=yo [(132,.lit 0),(131,.lit 0),(130,.lit 0),(129,.lit 0)]<|yr 128 61 3<|[(124,yv 57),(123,yv 56),(120,.lit 0),(119,.lit 0),(117,.lit 0),(116,.lit 0),(114,.lit 0),(112,.lit 0),(111,.lit 0),(110,.lit 0),(109,.lit 0),(107,.lit 0),(106,.lit 0),(105,.lit 0),(104,.lit 0),(102,.lit 0),(101,.lit 0),(100,.lit 0),(99,.lit 0),(97,.lit 0),(96,.lit 0),(95,.lit 0),(94,.lit 0),(93,.lit 0),(92,.lit 0),(91,.lit 0),(90,.lit 0),(89,.lit 0),(88,.lit 0),(87,.lit 0),(86,.lit 0),(85,.lit 0),(83,.lit 0),(82,.lit 0),(81,.lit 0),(80,.lit 0),(78,.lit 0),(77,.lit 0),(76,.lit 0),(75,.lit 0),(74,.lit 0),(73,.lit 0),(72,.lit 0),(71,.lit 0)],bv:=[(134,.lit true),(133,.lit false),(125,yw 58),(122,yw 55),(118,.lit true),(115,.lit true),(113,.lit false),(108,.lit false),(103,.lit false),(98,.lit false),(84,.lit false),(79,.lit false)],ct:=[(137,yu 70 59 7 yN 0),(121,yl 54 9 5 50 yW 0)],bk:=[(6,yc 3 7)],nb:=[5,4,5,4]}))
 (.br (.aC (.var 4) (.lit 2))
  (.call 0 {lo:=0,az:=0,iv:=yo [(70,yv 70)]<|yr 65 65 7<|yo [(57,yv 57),(56,yv 56)]<|yr 3 3 4<|yo [(53,yv 53),(52,yv 52),(69,yv 69),(50,yv 50),(49,yv 49),(47,yv 47)]<|yr 45 45 4<|yr 40 40 4<|yr 35 35 4<|yr 30 30 13<|yr 16 16 4<|yr 11 11 8<|[(71,.lit 0)],bv:=[(67,yw 67),(66,yw 66),(58,yw 58),(55,yw 55),(51,yw 51),(48,yw 48),(46,yw 46),(41,yw 41),(36,yw 36),(31,yw 31),(17,yw 17),(12,yw 12)],ct:=[(70,yu 70 59 7 yN 0),(69,yu 69 70 7 yN 0),(68,yu 68 49 5 yW 0),(54,yl 54 9 5 50 yW 0)],bk:=[(3,yc 3 7),(2,yc 2 7),(1,yc 1 5),(0,yb 0)]} 71 <|
   .fin {lo:=71,az:=4,iv:=yo [(137,yv 137)]<|yr 132 132 7<|yo [(124,yv 124),(123,yv 123),(120,yv 120),(119,yv 119),(136,yv 136),(117,yv 117),(116,yv 116),(114,yv 114)]<|yr 112 112 4<|yr 107 107 4<|yr 102 102 4<|yr 97 97 13<|yr 83 83 4<|yr 78 78 8 [],bv:=[(134,yw 134),(133,yw 133),(125,yw 125),(122,yw 122),(118,yw 118),(115,yw 115),(113,yw 113),(108,yw 108),(103,yw 103),(98,yw 98),(84,yw 84),(79,yw 79)],ct:=[(137,yu 137 126 7 yN 0),(136,yu 136 137 7 yN 0),(135,yu 135 116 5 yW 0),(121,yl 121 9 5 50 yW 0)],bk:=[(6,yc 7 7),(5,yc 6 7),(4,yc 5 5)]})
  (.br (.aC (.var 4) (.lit 3))
   (.fin {lo:=71,az:=4,iv:=yo [(137,yv 70)]<|yr 132 65 7<|yo [(124,yv 57),(123,yv 56),(120,yv 53),(119,yv 52),(136,yv 69),(117,yv 50),(116,yv 49),(114,yv 47)]<|yr 112 45 4<|yr 107 40 4<|yo [(102,.lit 0),(101,.lit 0),(100,.lit 0),(99,.lit 0),(97,.lit 0),(96,.lit 0),(95,.lit 0),(94,.lit 0)]<|yr 93 7 3<|yo [(90,.lit 1),(89,.lit 1)]<|yr 88 21 4<|yr 83 16 4<|yr 78 11 8 [],bv:=[(134,yw 67),(133,yw 66),(125,yw 58),(122,yw 55),(118,yw 51),(115,yw 48),(113,yw 46),(108,yw 41),(103,.lit false),(98,.lit false),(84,yw 17),(79,yw 12)],ct:=[(137,yu 70 59 7 yN 0),(136,yu 69 70 7 yN 0),(135,yu 68 49 5 yW 0),(121,yl 54 9 5 50 yW 0)],bk:=[(6,yc 3 7),(5,yc 2 7),(4,yc 1 5)]})
   (.br (.aC (.var 4) (.lit 4))
    (.fin {lo:=71,az:=4,iv:=yo [(137,yv 70)]<|yr 132 65 7<|yo [(124,yv 57),(123,yv 56),(120,yv 53),(119,yv 52),(136,yv 69),(117,yv 50),(116,yv 49),(114,yv 47)]<|yr 112 45 4<|yr 107 40 4<|yr 102 16 4<|yr 97 11 7<|yo [(90,.lit 2),(89,.lit 1)]<|yr 88 21 4<|yr 83 16 4<|yr 78 11 8 [],bv:=[(134,yw 67),(133,yw 66),(125,yw 58),(122,yw 55),(118,yw 51),(115,yw 48),(113,yw 46),(108,yw 41),(103,yw 17),(98,yw 12),(84,yw 17),(79,yw 12)],ct:=[(137,yu 70 59 7 yN 0),(136,yu 69 70 7 yN 0),(135,yu 68 49 5 yW 0),(121,yl 54 9 5 50 yW 0)],bk:=[(6,yc 3 7),(5,yc 2 7),(4,yc 1 5)]})
    (.br (.aC (.var 4) (.lit 5))
     (.fin {lo:=71,az:=4,iv:=yo [(137,yv 70)]<|yr 132 65 7<|yo [(124,yv 57),(123,yv 56),(120,yv 53),(119,yv 52),(136,yv 69),(117,yv 50),(116,yv 49),(114,yv 47)]<|yr 112 45 4<|yr 107 40 4<|yr 102 16 4<|yr 97 11 7<|yo [(90,.lit 3),(89,.lit 1)]<|yr 88 21 4<|yr 83 16 4<|yr 78 11 8 [],bv:=[(134,yw 67),(133,yw 66),(125,yw 58),(122,yw 55),(118,yw 51),(115,yw 48),(113,yw 46),(108,yw 41),(103,yw 17),(98,yw 12),(84,yw 17),(79,yw 12)],ct:=[(137,yu 70 59 7 yN 0),(136,yu 69 70 7 yN 0),(135,yu 68 49 5 yW 0),(121,yl 54 9 5 50 yW 0)],bk:=[(6,yc 3 7),(5,yc 2 7),(4,yc 1 5)]})
     (.br (.aC (.var 4) (.lit 6))
      (.fin {lo:=71,az:=4,iv:=yo [(137,yv 70)]<|yr 132 65 7<|yo [(124,yv 57),(123,yv 56),(120,yv 53),(119,yv 52),(136,yv 69),(117,yv 50),(116,yv 49),(114,yv 47)]<|yr 112 45 4<|yr 107 40 4<|yo [(102,.lit 0),(101,.lit 0),(100,.lit 0),(99,.lit 0),(97,.lit 0),(96,.lit 0),(95,.lit 0),(94,.lit 0)]<|yr 93 7 3<|yo [(90,.lit 1),(89,.lit 5)]<|yr 88 21 4<|yr 83 16 4<|yr 78 11 8 [],bv:=[(134,yw 67),(133,yw 66),(125,yw 58),(122,yw 55),(118,yw 51),(115,yw 48),(113,yw 46),(108,yw 41),(103,.lit false),(98,.lit false),(84,yw 17),(79,yw 12)],ct:=[(137,yu 70 59 7 yN 0),(136,yu 69 70 7 yN 0),(135,yu 68 49 5 yW 0),(121,yl 54 9 5 50 yW 0)],bk:=[(6,yc 3 7),(5,yc 2 7),(4,yc 1 5)]})
      (.br (.aC (.var 4) (.lit 7))
       (.ob (.or (.not (.or (.aC (.var 0) (.lit 2)) (.aC (.var 0) (.lit 3)))) (.aA (.lit 0) (.var 18))) <|
        .ob (.or (.not (.or (.aC (.var 0) (.lit 2)) (.aC (.var 0) (.lit 3)))) (.bS (.var 18) (.lit 9))) <|
        .ob (.or (.not (.or (.aC (.var 0) (.lit 2)) (.aC (.var 0) (.lit 3)))) (.aA (.lit 0) (.var 19))) <|
        .ob (.or (.not (.or (.aC (.var 0) (.lit 2)) (.aC (.var 0) (.lit 3)))) (.bS (.var 19) (.lit 9))) <|
        .br (.and (.or (.aC (.var 0) (.lit 2)) (.aC (.var 0) (.lit 3))) (.not (.and (.aC (.cell 54 (.var 18) (.lit 0) 0) (.cell 54 (.var 19) (.lit 0) 0)) (.and (.aC (.cell 54 (.var 18) (.lit 0) 1) (.cell 54 (.var 19) (.lit 0) 1)) (.and (.aC (.cell 54 (.var 18) (.lit 0) 2) (.cell 54 (.var 19) (.lit 0) 2)) (.and (.aC (.cell 54 (.var 18) (.lit 0) 3) (.cell 54 (.var 19) (.lit 0) 3)) (.beq (.cell 54 (.var 18) (.lit 0) 4) (.cell 54 (.var 19) (.lit 0) 4))))))))
        (.ob (.aA (.lit 0) (.var 19)) <|
         .ob (.bS (.var 19) (.lit 9)) <|
         .ob (.aA (.lit 0) (.var 18)) <|
         .ob (.bS (.var 18) (.lit 9)) <|
         .call 1 {lo:=0,az:=0,iv:=[(1,yv 18),(0,yv 1)]} 71 <|
         .fin {lo:=71,az:=4,iv:=yo [(137,yv 70)]<|yr 132 65 7<|yo [(124,yv 57),(123,yv 56),(120,yv 53),(119,yv 52),(136,yv 69),(117,yv 50),(116,yv 49),(114,yv 47)]<|yr 112 45 4<|yr 107 40 4<|yo [(102,.cell 54 (.var 19) (.lit 0) 3),(101,.cell 54 (.var 19) (.lit 0) 2),(100,.cell 54 (.var 19) (.lit 0) 1),(99,.cell 54 (.var 19) (.lit 0) 0),(97,.lit 0),(96,.lit 0),(95,.lit 0),(94,.lit 0),(93,.add (.add (.lit 25) (.mul (.var 1) (.lit 9))) (.var 18)),(92,.lit 0),(91,.lit 0),(90,.lit 2),(89,.lit 2)]<|yr 88 21 4<|yr 83 16 4<|yr 78 11 8 [],bv:=[(134,yw 67),(133,yw 66),(125,yw 58),(122,yw 55),(118,yw 51),(115,yw 48),(113,yw 46),(108,yw 41),(103,.cell 54 (.var 19) (.lit 0) 4),(98,.lit false),(84,yw 17),(79,yw 12)],ct:=[(137,yu 70 59 7 yN 0),(136,yu 69 70 7 yN 0),(135,yu 68 49 5 yW 0),(121,.up {r:=54,n1:=.lit 9,s1:=5,lo:=50,ks:=yW} 0 [⟨0,(.var 18),(.lit 0),4,.bool (.cell 54 (.var 19) (.lit 0) 4)⟩,⟨0,(.var 18),(.lit 0),3,.int .i64 (.cell 54 (.var 19) (.lit 0) 3)⟩,⟨0,(.var 18),(.lit 0),2,.int .i64 (.cell 54 (.var 19) (.lit 0) 2)⟩,⟨0,(.var 18),(.lit 0),1,.int .i64 (.cell 54 (.var 19) (.lit 0) 1)⟩,⟨0,(.var 18),(.lit 0),0,.int .i64 (.cell 54 (.var 19) (.lit 0) 0)⟩] (.lit 0))],bk:=[(6,yc 3 7),(5,yc 2 7),(4,yc 1 5)]})
        (.fin {lo:=71,az:=4,iv:=yo [(132,.lit 0),(131,.lit 0),(130,.lit 0),(129,.lit 0)]<|yr 128 61 3<|[(124,yv 57),(123,yv 56),(120,.lit 0),(119,.lit 0),(117,.lit 0),(116,.lit 0),(114,.lit 0),(112,.lit 0),(111,.lit 0),(110,.lit 0),(109,.lit 0),(107,.lit 0),(106,.lit 0),(105,.lit 0),(104,.lit 0),(102,.lit 0),(101,.lit 0),(100,.lit 0),(99,.lit 0),(97,.lit 0),(96,.lit 0),(95,.lit 0),(94,.lit 0),(93,.lit 0),(92,.lit 0),(91,.lit 0),(90,.lit 0),(89,.lit 0),(88,.lit 0),(87,.lit 0),(86,.lit 0),(85,.lit 0),(83,.lit 0),(82,.lit 0),(81,.lit 0),(80,.lit 0),(78,.lit 0),(77,.lit 0),(76,.lit 0),(75,.lit 0),(74,.lit 0),(73,.lit 0),(72,.lit 0),(71,.lit 0)],bv:=[(134,.lit true),(133,.lit false),(125,yw 58),(122,yw 55),(118,.lit true),(115,.lit true),(113,.lit false),(108,.lit false),(103,.lit false),(98,.lit false),(84,.lit false),(79,.lit false)],ct:=[(137,yu 70 59 7 yN 0),(121,yl 54 9 5 50 yW 0)],bk:=[(6,yc 3 7)],nb:=[5,4,5,4]}))
       (.br (.aC (.var 4) (.lit 8))
        (.br (.or (.aC (.var 0) (.lit 3)) (.aC (.var 0) (.lit 5)))
         (.fin {lo:=71,az:=4,iv:=yo [(137,yv 70)]<|yr 132 65 7<|yo [(124,yv 57),(123,yv 56),(120,yv 53),(119,yv 52),(136,yv 69),(117,yv 50),(116,yv 49),(114,yv 47)]<|yr 112 45 4<|yr 107 40 4<|yo [(102,.lit 0),(101,.lit 0),(100,.lit 0),(99,.lit 0),(97,.lit 0),(96,.lit 0),(95,.lit 0),(94,.lit 0),(93,.lit 24),(92,.lit 0),(91,.lit 0),(90,.lit 1),(89,.lit 8)]<|yr 88 21 4<|yr 83 16 4<|yr 78 11 8 [],bv:=[(134,yw 67),(133,yw 66),(125,yw 58),(122,yw 55),(118,yw 51),(115,yw 48),(113,yw 46),(108,yw 41),(103,.lit false),(98,.lit false),(84,yw 17),(79,yw 12)],ct:=[(137,yu 70 59 7 yN 0),(136,yu 69 70 7 yN 0),(135,yu 68 49 5 yW 0),(121,yl 54 9 5 50 yW 0)],bk:=[(6,yc 3 7),(5,yc 2 7),(4,yc 1 5)]})
         (.fin {lo:=71,az:=4,iv:=yo [(137,yv 70)]<|yr 132 65 7<|yo [(124,yv 57),(123,yv 56),(120,yv 53),(119,yv 52),(136,yv 69),(117,yv 50),(116,yv 49),(114,yv 47)]<|yr 112 45 4<|yr 107 40 4<|yo [(102,.lit 0),(101,.lit 0),(100,.lit 0),(99,.lit 0),(97,.lit 0),(96,.lit 0),(95,.lit 0),(94,.lit 0),(93,.lit 0),(92,.lit 0),(91,.lit 0),(90,.lit 4),(89,.lit 1)]<|yr 88 21 4<|yr 83 16 4<|yr 78 11 8 [],bv:=[(134,yw 67),(133,yw 66),(125,yw 58),(122,yw 55),(118,yw 51),(115,yw 48),(113,yw 46),(108,yw 41),(103,.lit false),(98,.lit false),(84,yw 17),(79,yw 12)],ct:=[(137,yu 70 59 7 yN 0),(136,yu 69 70 7 yN 0),(135,yu 68 49 5 yW 0),(121,yl 54 9 5 50 yW 0)],bk:=[(6,yc 3 7),(5,yc 2 7),(4,yc 1 5)]}))
        (.br (.aC (.var 4) (.lit 9))
         (.fin {lo:=71,az:=4,iv:=yo [(137,yv 70)]<|yr 132 65 7<|yo [(124,yv 57),(123,yv 56),(120,yv 53),(119,yv 52),(136,yv 69),(117,yv 50),(116,yv 49),(114,yv 47)]<|yr 112 45 4<|yr 107 40 4<|yo [(102,.lit 0),(101,.lit 0),(100,.lit 0),(99,.lit 0)]<|yr 97 11 4<|yo [(93,.lit 0),(92,.lit 0),(91,.lit 0),(90,.lit 5),(89,.lit 2)]<|yr 88 21 4<|yr 83 16 4<|yr 78 11 8 [],bv:=[(134,yw 67),(133,yw 66),(125,yw 58),(122,yw 55),(118,yw 51),(115,yw 48),(113,yw 46),(108,yw 41),(103,.lit false),(98,yw 12),(84,yw 17),(79,yw 12)],ct:=[(137,yu 70 59 7 yN 0),(136,yu 69 70 7 yN 0),(135,yu 68 49 5 yW 0),(121,yl 54 9 5 50 yW 0)],bk:=[(6,yc 3 7),(5,yc 2 7),(4,yc 1 5)]})
         (.br (.aC (.var 4) (.lit 10))
          (.call 3 {lo:=0,az:=0,iv:=yo [(70,yv 70)]<|yr 65 65 7<|yo [(57,yv 57),(56,yv 56)]<|yr 3 3 4<|yo [(53,yv 53),(52,yv 52),(69,yv 69),(50,yv 50),(49,yv 49),(47,yv 47)]<|yr 45 45 4<|yr 40 40 4<|yr 35 35 4<|yr 30 30 13<|yr 16 16 4<|yr 11 11 8 [],bv:=[(67,yw 67),(66,yw 66),(58,yw 58),(55,yw 55),(51,yw 51),(48,yw 48),(46,yw 46),(41,yw 41),(36,yw 36),(31,yw 31),(17,yw 17),(12,yw 12)],ct:=[(70,yu 70 59 7 yN 0),(69,yu 69 70 7 yN 0),(68,yu 68 49 5 yW 0),(54,yl 54 9 5 50 yW 0)],bk:=[(3,yc 3 7),(2,yc 2 7),(1,yc 1 5),(0,yb 0)]} 71 <|
           .fin {lo:=71,az:=4,iv:=yo [(137,yv 137)]<|yr 132 132 7<|yo [(124,yv 124),(123,yv 123),(120,yv 120),(119,yv 119),(136,yv 136),(117,yv 117),(116,yv 116),(114,yv 114)]<|yr 112 112 4<|yr 107 107 4<|yr 102 102 4<|yr 97 97 13<|yr 83 83 4<|yr 78 78 8 [],bv:=[(134,yw 134),(133,yw 133),(125,yw 125),(122,yw 122),(118,yw 118),(115,yw 115),(113,yw 113),(108,yw 108),(103,yw 103),(98,yw 98),(84,yw 84),(79,yw 79)],ct:=[(137,yu 137 126 7 yN 0),(136,yu 136 137 7 yN 0),(135,yu 135 116 5 yW 0),(121,yl 121 9 5 50 yW 0)],bk:=[(6,yc 7 7),(5,yc 6 7),(4,yc 5 5)]})
          (.br (.aC (.var 4) (.lit 11))
           (.call 2 {lo:=0,az:=0,iv:=yo [(70,yv 70)]<|yr 65 65 7<|yo [(57,yv 57),(56,yv 56)]<|yr 3 3 4<|yo [(53,yv 53),(52,yv 52),(69,yv 69),(50,yv 50),(49,yv 49),(47,yv 47)]<|yr 45 45 4<|yr 40 40 4<|yr 35 35 4<|yr 30 30 13<|yr 16 16 4<|yr 11 11 8 [],bv:=[(67,yw 67),(66,yw 66),(58,yw 58),(55,yw 55),(51,yw 51),(48,yw 48),(46,yw 46),(41,yw 41),(36,yw 36),(31,yw 31),(17,yw 17),(12,yw 12)],ct:=[(70,yu 70 59 7 yN 0),(69,yu 69 70 7 yN 0),(68,yu 68 49 5 yW 0),(54,yl 54 9 5 50 yW 0)],bk:=[(3,yc 3 7),(2,yc 2 7),(1,yc 1 5),(0,yb 0)]} 71 <|
            .fin {lo:=71,az:=4,iv:=yo [(137,yv 137)]<|yr 132 132 7<|yo [(124,yv 124),(123,yv 123),(120,yv 120),(119,yv 119),(136,yv 136),(117,yv 117),(116,yv 116),(114,yv 114)]<|yr 112 112 4<|yr 107 107 4<|yr 102 102 4<|yr 97 97 13<|yr 83 83 4<|yr 78 78 8 [],bv:=[(134,yw 134),(133,yw 133),(125,yw 125),(122,yw 122),(118,yw 118),(115,yw 115),(113,yw 113),(108,yw 108),(103,yw 103),(98,yw 98),(84,yw 84),(79,yw 79)],ct:=[(137,yu 137 126 7 yN 0),(136,yu 136 137 7 yN 0),(135,yu 135 116 5 yW 0),(121,yl 121 9 5 50 yW 0)],bk:=[(6,yc 7 7),(5,yc 6 7),(4,yc 5 5)]})
           (.fin {lo:=71,az:=4,iv:=yo [(137,yv 70)]<|yr 132 65 7<|yo [(124,yv 57),(123,yv 56),(120,yv 53),(119,yv 52),(136,yv 69),(117,yv 50),(116,yv 49),(114,yv 47)]<|yr 112 45 4<|yr 107 40 4<|yr 102 35 4<|yr 97 30 13<|yr 83 16 4<|yr 78 11 8 [],bv:=[(134,yw 67),(133,yw 66),(125,yw 58),(122,yw 55),(118,yw 51),(115,yw 48),(113,yw 46),(108,yw 41),(103,yw 36),(98,yw 31),(84,yw 17),(79,yw 12)],ct:=[(137,yu 70 59 7 yN 0),(136,yu 69 70 7 yN 0),(135,yu 68 49 5 yW 0),(121,yl 54 9 5 50 yW 0)],bk:=[(6,yc 3 7),(5,yc 2 7),(4,yc 1 5)]})))))))))))
theorem R9:exec tab UA 8000 [] (gI l7.f l7.nv [] l7.gl l7.hp l7.args)=Fu:=by kernel_rfl
def Av (ρ:Env):Prop:=bJ ρ 4∧wF ρ∧JV ρ 4∧(0≤ρ.iv 18∧ρ.iv 18<9)∧0≤ρ.iv 19∧ρ.iv 19<9
def Cn (ρ:Env):Prop:=bJ ρ 71∧ae ρ 0 71=(ae ρ 0 4).opened
set_option maxHeartbeats 4000000 in
theorem Sa (ρ:Env) (hpre:Av ρ.num):Sat Cn Nv [] ρ Fu:=by
 replace hpre:Av ρ:=hpre
 obtain ⟨⟨o1,o2,o3⟩,hs,hf,⟨n1,n2⟩,m1,m2⟩:=hpre
 unfold Fu
 refine Sat.br (fun c1=>?_) (fun c1=>?_)
 ·simp only [Da] at c1
  have h0:(ae ρ 0 4).opened=if (ae ρ 0 4).bI then (ae ρ 0 4).era 3 else (ae ρ 0 4).done:=if_pos c1
  refine Sat.br (fun c=>?_) (fun c=>?_)
  ·simp only [Da] at c
   have hm:(ae ρ 0 4).opened=(ae ρ 0 4).era 3:=h0.trans (if_pos c)
   exact Sat.fin ⟨⟨(by first | exact o1 | exact o2 | exact o3 | exact ak rfl rfl | assumption),(by first | exact o2 | exact ⟨ak rfl rfl,Int.le_refl 0,.inl rfl⟩ | assumption),(by first | exact o1 | exact o2 | exact o3 | exact ak rfl rfl | assumption)⟩,Eq.trans (b:=(ae ρ 0 4).era 3) (RS.ext' rfl rfl rfl rfl rfl rfl bA bE rfl rfl rfl rfl bH rfl bB rfl rfl) (Eq.symm (hm))⟩
  ·simp only [Da] at c
   have hm:(ae ρ 0 4).opened=(ae ρ 0 4).done:=h0.trans (if_neg (fun h:ρ.iv 0=4∨ρ.iv 0=5=>by omega))
   exact Sat.fin ⟨⟨(by first | exact o1 | exact o2 | exact o3 | exact ak rfl rfl | assumption),(by first | exact o2 | exact ⟨ak rfl rfl,Int.le_refl 0,.inl rfl⟩ | assumption),(by first | exact o1 | exact o2 | exact o3 | exact ak rfl rfl | assumption)⟩,Eq.trans (b:=(ae ρ 0 4).done) (RS.ext' rfl rfl rfl rfl rfl rfl bA bE rfl rfl rfl rfl bH rfl bB rfl rfl) (Eq.symm (hm))⟩
 simp only [Da] at c1
 refine Sat.br (fun c2=>?_) (fun c2=>?_)
 ·simp only [Da] at c2
  have hm:(ae ρ 0 4).opened=(ae ρ 0 4).leave 0:=(if_neg c1).trans (if_pos c2)
  refine fw (c:=iZ) rfl (ae ρ 0 4) ((ae ρ 0 4).leave 0) (by decide) (by decide) (jT rfl rfl rfl rfl) ⟨⟨o1,o2,o3⟩,hs,Int.le_refl 0,(show (0:Int)≤9 by decide)⟩ (RS.ext' rfl rfl rfl rfl rfl rfl bA bE rfl rfl rfl rfl bH rfl bB rfl rfl) (fun e hq hr=>⟨hq.1,by rw [←hr];exact hq.2⟩) (fun u=>(bJ u 71)∧ae u 0 71=(ae u 0 4).opened) (fun e h1 h2=>⟨h1,h2.trans hm.symm⟩) fun u hu=>?_
  obtain ⟨⟨o1,o2,o3⟩,hm⟩:=hu
  exact Sat.fin ⟨⟨(by first | exact o1 | exact o2 | exact o3 | exact ak rfl rfl | assumption),(by first | exact o2 | exact ⟨ak rfl rfl,Int.le_refl 0,.inl rfl⟩ | assumption),(by first | exact o1 | exact o2 | exact o3 | exact ak rfl rfl | assumption)⟩,Eq.trans (b:=(ae u 0 71)) (RS.ext' rfl rfl rfl rfl rfl rfl bA bE rfl rfl rfl rfl bH rfl bB rfl rfl) (Eq.symm (hm.symm))⟩
 simp only [Da] at c2
 refine Sat.br (fun c3=>?_) (fun c3=>?_)
 ·simp only [Da] at c3
  have hm:(ae ρ 0 4).opened=(ae ρ 0 4).load 1 (ρ.iv 5) (ρ.iv 6) (ρ.iv 7):=(if_neg c1).trans ((if_neg c2).trans (if_pos c3))
  exact Sat.fin ⟨⟨(by first | exact o1 | exact o2 | exact o3 | exact ak rfl rfl | assumption),(by first | exact o2 | exact ⟨ak rfl rfl,Int.le_refl 0,.inl rfl⟩ | assumption),(by first | exact o1 | exact o2 | exact o3 | exact ak rfl rfl | assumption)⟩,Eq.trans (b:=(ae ρ 0 4).load 1 (ρ.iv 5) (ρ.iv 6) (ρ.iv 7)) (RS.ext' rfl rfl rfl rfl rfl rfl bA bE rfl rfl rfl rfl bH rfl bB rfl rfl) (Eq.symm (hm))⟩
 simp only [Da] at c3
 refine Sat.br (fun c4=>?_) (fun c4=>?_)
 ·simp only [Da] at c4
  have hm:(ae ρ 0 4).opened=(ae ρ 0 4).ask 1 ⟨2,ρ.iv 5,ρ.iv 6,ρ.iv 7,av ρ 8,av ρ 13⟩:=(if_neg c1).trans ((if_neg c2).trans ((if_neg c3).trans (if_pos c4)))
  exact Sat.fin ⟨⟨(by first | exact o1 | exact o2 | exact o3 | exact ak rfl rfl | assumption),(by first | exact o2 | exact ⟨ak rfl rfl,Int.le_refl 0,.inl rfl⟩ | assumption),(by first | exact o1 | exact o2 | exact o3 | exact ak rfl rfl | assumption)⟩,Eq.trans (b:=(ae ρ 0 4).ask 1 ⟨2,ρ.iv 5,ρ.iv 6,ρ.iv 7,av ρ 8,av ρ 13⟩) (RS.ext' rfl rfl rfl rfl rfl rfl bA bE rfl rfl rfl rfl bH rfl bB rfl rfl) (Eq.symm (hm))⟩
 simp only [Da] at c4
 refine Sat.br (fun c5=>?_) (fun c5=>?_)
 ·simp only [Da] at c5
  have hm:(ae ρ 0 4).opened=(ae ρ 0 4).ask 1 ⟨3,ρ.iv 5,ρ.iv 6,ρ.iv 7,av ρ 8,av ρ 13⟩:=(if_neg c1).trans ((if_neg c2).trans ((if_neg c3).trans ((if_neg c4).trans (if_pos c5))))
  exact Sat.fin ⟨⟨(by first | exact o1 | exact o2 | exact o3 | exact ak rfl rfl | assumption),(by first | exact o2 | exact ⟨ak rfl rfl,Int.le_refl 0,.inl rfl⟩ | assumption),(by first | exact o1 | exact o2 | exact o3 | exact ak rfl rfl | assumption)⟩,Eq.trans (b:=(ae ρ 0 4).ask 1 ⟨3,ρ.iv 5,ρ.iv 6,ρ.iv 7,av ρ 8,av ρ 13⟩) (RS.ext' rfl rfl rfl rfl rfl rfl bA bE rfl rfl rfl rfl bH rfl bB rfl rfl) (Eq.symm (hm))⟩
 simp only [Da] at c5
 refine Sat.br (fun c6=>?_) (fun c6=>?_)
 ·simp only [Da] at c6
  have hm:(ae ρ 0 4).opened=(ae ρ 0 4).load 5 (ρ.iv 5) (ρ.iv 6) (ρ.iv 7):=(if_neg c1).trans ((if_neg c2).trans ((if_neg c3).trans ((if_neg c4).trans ((if_neg c5).trans (if_pos c6)))))
  exact Sat.fin ⟨⟨(by first | exact o1 | exact o2 | exact o3 | exact ak rfl rfl | assumption),(by first | exact o2 | exact ⟨ak rfl rfl,Int.le_refl 0,.inl rfl⟩ | assumption),(by first | exact o1 | exact o2 | exact o3 | exact ak rfl rfl | assumption)⟩,Eq.trans (b:=(ae ρ 0 4).load 5 (ρ.iv 5) (ρ.iv 6) (ρ.iv 7)) (RS.ext' rfl rfl rfl rfl rfl rfl bA bE rfl rfl rfl rfl bH rfl bB rfl rfl) (Eq.symm (hm))⟩
 simp only [Da] at c6
 have hB:∀X:RS,(if ρ.iv 4=7 then (if (ae ρ 0 4).aZ∧(ae ρ 0 4).holds (ρ.iv 18).toNat≠(ae ρ 0 4).holds (ρ.iv 19).toNat then (ae ρ 0 4).post 2 (ρ.iv 18) ((ae ρ 0 4).holds (ρ.iv 19).toNat) else (ae ρ 0 4).done)
     else if ρ.iv 4=8 then (if (ae ρ 0 4).aY then (ae ρ 0 4).era 8 else (ae ρ 0 4).ask 1 ⟨4,0,0,0,Wd.zero,Wd.zero⟩)
     else if ρ.iv 4=9 then (ae ρ 0 4).ask 2 ⟨5,0,0,0,av ρ 8,Wd.zero⟩ else if ρ.iv 4=10 then (ae ρ 0 4).fu else if ρ.iv 4=11 then (ae ρ 0 4).scan else ae ρ 0 4)=X→(ae ρ 0 4).opened=X :=
  fun X h=>((if_neg c1).trans ((if_neg c2).trans ((if_neg c3).trans ((if_neg c4).trans ((if_neg c5).trans (if_neg c6)))))).trans h
 refine Sat.br (fun c7=>?_) (fun c7=>?_)
 ·simp only [Da] at c7
  refine Sat.ob (by simp only [Da];omega) (Sat.ob (by simp only [Da];omega) (Sat.ob (by simp only [Da];omega) (Sat.ob (by simp only [Da];omega) (Sat.br (fun c=>?_) (fun c=>?_)))))
  ·simp only [Da] at c
   have hne:(ae ρ 0 4).holds (ρ.iv 18).toNat≠(ae ρ 0 4).holds (ρ.iv 19).toNat:=fun h=>by
    have h':=pF.1 h
    simp only [ae,aF] at h'
    simp_all
   have hm:(ae ρ 0 4).opened=(ae ρ 0 4).post 2 (ρ.iv 18) ((ae ρ 0 4).holds (ρ.iv 19).toNat):=hB _ ((if_pos c7).trans (if_pos ⟨c.1,hne⟩))
   refine Sat.ob (decide_eq_true m1) (Sat.ob (by simp only [Da];omega) (Sat.ob (decide_eq_true n1) (Sat.ob (by simp only [Da];omega) (Sat.iF (c:=gU) rfl ⟨⟨hs.1,hs.2.1⟩,n1,n2⟩ (fun r=>((bJ r 4)∧0≤r.iv 18)∧(ae r 0 4).opened=(ae r 0 4).post 2 (r.iv 18) ((ae r 0 4).holds (r.iv 19).toNat)) (fun e _=>⟨⟨⟨o1,o2,o3⟩,n1⟩,hm⟩) fun r hr=>?_))))
   obtain ⟨⟨⟨o1,o2,o3⟩,i1⟩,hm⟩:=hr
   refine Sat.fin ⟨⟨(by first | exact o1 | exact o2 | exact o3 | exact ak rfl rfl | assumption),(by first | exact o2 | exact ⟨ak rfl rfl,Int.le_refl 0,.inl rfl⟩ | assumption),(by first | exact o1 | exact o2 | exact o3 | exact ak rfl rfl | assumption)⟩,Eq.trans (b:=(ae r 0 4).post 2 (r.iv 18) ((ae r 0 4).holds (r.iv 19).toNat)) (RS.ext' rfl rfl rfl rfl rfl rfl bA bE rfl rfl rfl rfl ?_ rfl bB rfl rfl) (Eq.symm (hm))⟩
   intro i
   show _=if i=(r.iv 18).toNat then aF (r.ic 54 (r.iv 19).toNat 0) (r.bc 54 (r.iv 19).toNat 0) else aF (r.ic 54 i 0) (r.bc 54 i 0)
   by_cases h:i=(r.iv 18).toNat
   ·subst h
    simp [ae,aF,Wd.dz,av,-Int.pred_toNat,Sub.af,assoc,CV.I,CV.B,ah,ai,aa.I,aa.B,SC.I,SC.B,IE.den,BE.den]
   ·simp [ae,aF,-Int.pred_toNat,Sub.af,assoc,CV.I,CV.B,ah,ai,aa.I,aa.B,SC.I,SC.B,IE.den,BE.den,h,Ne.symm h]
  ·simp only [Da] at c
   have he:¬((ae ρ 0 4).aZ∧(ae ρ 0 4).holds (ρ.iv 18).toNat≠(ae ρ 0 4).holds (ρ.iv 19).toNat):=by
    rintro ⟨h1,h2⟩
    have h1:ρ.iv 0=2∨ρ.iv 0=3:=h1
    apply h2
    apply pF.2
    simp only [ae,aF]
    rcases c with c | c
    ·omega
    ·exact c
   have hm:(ae ρ 0 4).opened=(ae ρ 0 4).done:=hB _ ((if_pos c7).trans (if_neg he))
   exact Sat.fin ⟨⟨(by first | exact o1 | exact o2 | exact o3 | exact ak rfl rfl | assumption),(by first | exact o2 | exact ⟨ak rfl rfl,Int.le_refl 0,.inl rfl⟩ | assumption),(by first | exact o1 | exact o2 | exact o3 | exact ak rfl rfl | assumption)⟩,Eq.trans (b:=(ae ρ 0 4).done) (RS.ext' rfl rfl rfl rfl rfl rfl bA bE rfl rfl rfl rfl bH rfl bB rfl rfl) (Eq.symm (hm))⟩
 simp only [Da] at c7
 refine Sat.br (fun c8=>?_) (fun c8=>?_)
 ·simp only [Da] at c8
  refine Sat.br (fun c=>?_) (fun c=>?_)
  ·simp only [Da] at c
   have hm:(ae ρ 0 4).opened=(ae ρ 0 4).era 8:=hB _ ((if_neg c7).trans ((if_pos c8).trans (if_pos c)))
   exact Sat.fin ⟨⟨(by first | exact o1 | exact o2 | exact o3 | exact ak rfl rfl | assumption),(by first | exact o2 | exact ⟨ak rfl rfl,Int.le_refl 0,.inl rfl⟩ | assumption),(by first | exact o1 | exact o2 | exact o3 | exact ak rfl rfl | assumption)⟩,Eq.trans (b:=(ae ρ 0 4).era 8) (RS.ext' rfl rfl rfl rfl rfl rfl bA bE rfl rfl rfl rfl bH rfl bB rfl rfl) (Eq.symm (hm))⟩
  ·simp only [Da] at c
   have hm:(ae ρ 0 4).opened=(ae ρ 0 4).ask 1 ⟨4,0,0,0,Wd.zero,Wd.zero⟩:=hB _ ((if_neg c7).trans ((if_pos c8).trans (if_neg (fun h:ρ.iv 0=3∨ρ.iv 0=5=>by omega))))
   exact Sat.fin ⟨⟨(by first | exact o1 | exact o2 | exact o3 | exact ak rfl rfl | assumption),(by first | exact o2 | exact ⟨ak rfl rfl,Int.le_refl 0,.inl rfl⟩ | assumption),(by first | exact o1 | exact o2 | exact o3 | exact ak rfl rfl | assumption)⟩,Eq.trans (b:=(ae ρ 0 4).ask 1 ⟨4,0,0,0,Wd.zero,Wd.zero⟩) (RS.ext' rfl rfl rfl rfl rfl rfl bA bE rfl rfl rfl rfl bH rfl bB rfl rfl) (Eq.symm (hm))⟩
 simp only [Da] at c8
 refine Sat.br (fun c9=>?_) (fun c9=>?_)
 ·simp only [Da] at c9
  have hm:(ae ρ 0 4).opened=(ae ρ 0 4).ask 2 ⟨5,0,0,0,av ρ 8,Wd.zero⟩:=hB _ ((if_neg c7).trans ((if_neg c8).trans (if_pos c9)))
  exact Sat.fin ⟨⟨(by first | exact o1 | exact o2 | exact o3 | exact ak rfl rfl | assumption),(by first | exact o2 | exact ⟨ak rfl rfl,Int.le_refl 0,.inl rfl⟩ | assumption),(by first | exact o1 | exact o2 | exact o3 | exact ak rfl rfl | assumption)⟩,Eq.trans (b:=(ae ρ 0 4).ask 2 ⟨5,0,0,0,av ρ 8,Wd.zero⟩) (RS.ext' rfl rfl rfl rfl rfl rfl bA bE rfl rfl rfl rfl bH rfl bB rfl rfl) (Eq.symm (hm))⟩
 simp only [Da] at c9
 refine Sat.br (fun c10=>?_) (fun c10=>?_)
 ·simp only [Da] at c10
  have hm:(ae ρ 0 4).opened=(ae ρ 0 4).fu:=hB _ ((if_neg c7).trans ((if_neg c8).trans ((if_neg c9).trans (if_pos c10))))
  refine fw (c:=jH) rfl (ae ρ 0 4) (ae ρ 0 4).fu (by decide) (by decide) (jT rfl rfl rfl rfl) ⟨⟨o1,o2,o3⟩,hs,hf⟩ (RS.ext' rfl rfl rfl rfl rfl rfl bA bE rfl rfl rfl rfl bH rfl bB rfl rfl) (fun e hq hr=>⟨hq.1,by rw [←hr];exact hq.2⟩) (fun u=>(bJ u 71)∧ae u 0 71=(ae u 0 4).opened) (fun e h1 h2=>⟨h1,h2.trans hm.symm⟩) fun u hu=>?_
  obtain ⟨⟨o1,o2,o3⟩,hm⟩:=hu
  exact Sat.fin ⟨⟨(by first | exact o1 | exact o2 | exact o3 | exact ak rfl rfl | assumption),(by first | exact o2 | exact ⟨ak rfl rfl,Int.le_refl 0,.inl rfl⟩ | assumption),(by first | exact o1 | exact o2 | exact o3 | exact ak rfl rfl | assumption)⟩,Eq.trans (b:=(ae u 0 71)) (RS.ext' rfl rfl rfl rfl rfl rfl bA bE rfl rfl rfl rfl bH rfl bB rfl rfl) (Eq.symm (hm.symm))⟩
 simp only [Da] at c10
 refine Sat.br (fun c11=>?_) (fun c11=>?_)
 ·simp only [Da] at c11
  have hm:(ae ρ 0 4).opened=(ae ρ 0 4).scan:=hB _ ((if_neg c7).trans ((if_neg c8).trans ((if_neg c9).trans ((if_neg c10).trans (if_pos c11)))))
  refine fw (c:=jJ) rfl (ae ρ 0 4) (ae ρ 0 4).scan (by decide) (by decide) (jT rfl rfl rfl rfl) ⟨⟨o1,o2,o3⟩,hs⟩ (RS.ext' rfl rfl rfl rfl rfl rfl bA bE rfl rfl rfl rfl bH rfl bB rfl rfl) (fun e hq hr=>⟨hq.1,by rw [←hr];exact hq.2⟩) (fun u=>(bJ u 71)∧ae u 0 71=(ae u 0 4).opened) (fun e h1 h2=>⟨h1,h2.trans hm.symm⟩) fun u hu=>?_
  obtain ⟨⟨o1,o2,o3⟩,hm⟩:=hu
  exact Sat.fin ⟨⟨(by first | exact o1 | exact o2 | exact o3 | exact ak rfl rfl | assumption),(by first | exact o2 | exact ⟨ak rfl rfl,Int.le_refl 0,.inl rfl⟩ | assumption),(by first | exact o1 | exact o2 | exact o3 | exact ak rfl rfl | assumption)⟩,Eq.trans (b:=(ae u 0 71)) (RS.ext' rfl rfl rfl rfl rfl rfl bA bE rfl rfl rfl rfl bH rfl bB rfl rfl) (Eq.symm (hm.symm))⟩
 ·simp only [Da] at c11
  have hm:(ae ρ 0 4).opened=ae ρ 0 4:=hB _ ((if_neg c7).trans ((if_neg c8).trans ((if_neg c9).trans ((if_neg c10).trans (if_neg c11)))))
  exact Sat.fin ⟨⟨(by first | exact o1 | exact o2 | exact o3 | exact ak rfl rfl | assumption),(by first | exact o2 | exact ⟨ak rfl rfl,Int.le_refl 0,.inl rfl⟩ | assumption),(by first | exact o1 | exact o2 | exact o3 | exact ak rfl rfl | assumption)⟩,Eq.trans (b:=(ae ρ 0 4)) (RS.ext' rfl rfl rfl rfl rfl rfl bA bE rfl rfl rfl rfl bH rfl bB rfl rfl) (Eq.symm (hm))⟩
theorem Sb:bF Tryd.prog l7 Av Cn :=
 dP fC (E:=UA) (cs:=Nv) rfl VD df rfl R9 (by kernel_rfl) (fun ρ _ p hp=>by cases hp) Sa
end Go.Proofs.YthomdlajobnmnaaDoor
namespace Go.Proofs.YthomdlajobnmnaaDoor
open Go.Rex
structure Lo where
 aj:Int
 me:Int
 threads:Int
 most:Int
 h:Nat→Wd
 s:Sp
 notes:List Nt
 freed:Int
namespace Lo
variable (l:Lo)
def aZ:Prop:=l.aj=2∨l.aj=3
def aY:Prop:=l.aj=3∨l.aj=5
def bI:Prop:=l.aj=4∨l.aj=5
instance:Decidable l.aZ:=by unfold aZ;exact inferInstance
instance:Decidable l.aY:=by unfold aY;exact inferInstance
instance:Decidable l.bI:=by unfold bI;exact inferInstance
def hold (n:Int) (w:Wd):Lo:={l with h:=fun i=>if i=n.toNat then w else l.h i}
def all:Int:=if l.aZ then l.threads * 9 else l.threads
def base:Int:=if l.aZ then 25 else 79
end Lo
inductive RT where
 | idle (x:Rp)
 | one (a:Ac)
 | fin (a:Ac)
 | nN
 | jg (i:Int)
 | fH (c:Ca)
 | jc (c:Ca) (w:Wd)
 | eT (c:Ca) (a:Ac)
 | nO
 | jk (old:Wd)
 | dR (old:Wd) (b:Int)
 | jP (clock:Wd)
 | iT
 | bL (clock:Wd) (seen:List Wd)
 | iC (clock:Wd)
 | dN
 | bV (d:Nt) (l:List Nt)
def Ac.load (slot gen field:Int):Ac:=⟨1,slot,gen,field,Wd.zero,Wd.zero⟩
def Ac.era:Ac:=Ac.load 0 0 24
def Ac.eO (clock:Wd):Ac:=⟨3,0,0,24,clock,⟨0,0,clock.tag+1,clock.num+1,false⟩⟩
def Ac.store (slot gen field:Int) (w:Wd):Ac:=⟨2,slot,gen,field,Wd.zero,w⟩
def RT.acc (l:Lo):RT→Ac
 | .idle _=>Ac.zero
 | .one a=>a
 | .fin a=>a
 | .nN=>Ac.era
 | .jg i=>Ac.store 0 0 (25+l.me * 9+i) Wd.zero
 | .fH c=>Ac.load c.slot c.gen c.field
 | .jc _ _=>Ac.era
 | .eT _ a=>a
 | .nO=>Ac.era
 | .jk old=>Ac.load old.slot old.gen 9
 | .dR _ _=>Ac.era
 | .jP clock=>Ac.eO clock
 | .iT=>Ac.era
 | .bL _ seen=>Ac.load 0 0 (l.base+seen.length)
 | .iC clock=>Ac.eO clock
 | .dN=>Ac.era
 | .bV d _=>⟨5,0,0,0,d.ref,Wd.zero⟩
def RT.bg:RT→Int
 | .idle _=>0
 | .one _=>1
 | .fin _=>2
 | .nN=>3
 | .jg _=>4
 | .fH _=>5
 | .jc _ _=>6
 | .eT _ _=>7
 | .nO=>8
 | .jk _=>9
 | .dR _ _=>10
 | .jP _=>11
 | .iT=>12
 | .bL _ _=>13
 | .iC _=>14
 | .dN=>15
 | .bV _ _=>16
def Rp.yes:Rp:=⟨Wd.zero,true⟩
abbrev LR:=Lo × RT
namespace RT
def fT (l:Lo) (s:Sp):Ac:=Ac.store 0 0 (79+l.me) (RS.lQ s)
def leave (l:Lo) (start:Int):LR :=
 if l.bI∧l.s≠Sp.zero then ({l with s:=Sp.zero},.fin (fT l Sp.zero))
 else if l.aZ then
  match RS.first l.h start.toNat (9-start.toNat) with
  | some n=>(l.hold n Wd.zero,.jg n)
  | none=>(l,.idle Rp.yes)
 else (l,.idle Rp.yes)
def scan (l:Lo):LR :=
 if l.aj=1 then (l,.idle Rp.yes)
 else if l.aj=4 then (l,.iT)
 else (l,.bL Wd.zero [])
def cK (l:Lo):LR:=if l.notes.length≥l.most then scan l else (l,.idle Rp.yes)
def note (l:Lo) (old:Wd) (b d:Int):Lo:={l with notes:=l.notes ++ [⟨old.dz,b,d⟩]}
def fu (l:Lo) (old:Wd):LR :=
 if l.aj=2 then cK (note l old 0 0)
 else if l.aj=4 then (l,.dR old 0)
 else if l.aj=3∨l.aj=5 then (l,.jk old)
 else (l,.idle Rp.yes)
def begin (l:Lo) (c:Ca):LR :=
 if c.kind=1 then (if l.bI then (l,.nN) else (l,.idle Rp.yes))
 else if c.kind=2 then leave l 0
 else if c.kind=3 then (l,.one (Ac.load c.slot c.gen c.field))
 else if c.kind=4 then (l,.one ⟨2,c.slot,c.gen,c.field,c.old,c.new⟩)
 else if c.kind=5 then (l,.one ⟨3,c.slot,c.gen,c.field,c.old,c.new⟩)
 else if c.kind=6 then (l,.fH c)
 else if c.kind=7 then (if l.aZ∧l.h c.i.toNat≠l.h c.j.toNat then (l.hold c.i (l.h c.j.toNat),.fin (Ac.store 0 0 (25+l.me * 9+c.i) (l.h c.j.toNat))) else (l,.idle Rp.yes))
 else if c.kind=8 then (if l.aY then (l,.nO) else (l,.one ⟨4,0,0,0,Wd.zero,Wd.zero⟩))
 else if c.kind=9 then (l,.fin ⟨5,0,0,0,c.old,Wd.zero⟩)
 else if c.kind=10 then fu l c.old
 else scan l
def bY (l:Lo) (i now:Int):Prop :=
 if l.aj=3 then l.h i.toNat≠Wd.zero∧(l.h i.toNat).num=now
 else l.s.is=true∧l.s.high=now
instance (l:Lo) (i now:Int):Decidable (bY l i now):=by unfold bY;exact inferInstance
def kept (l:Lo) (clock:Wd) (seen:List Wd) (n:Nt):Bool :=
 if l.aj=2 then seen.any fun w=>RS.ow w n
 else if l.aj=3 then seen.any fun w=>RS.qy w.num n
 else if l.aj=5 then seen.any fun w=>RS.oz (RS.gN w) n
 else RS.mM clock.num n
def eY (l:Lo):List Nt→LR
 | []=>(l,.idle Rp.yes)
 | d :: r=>(l,.bV d r)
def dQ (l:Lo) (clock:Wd) (seen:List Wd):LR:=eY l (l.notes.filter fun n=>!kept l clock seen n)
def aJ (l:Lo):RT→Rp→LR
 | .idle x,_=>(l,.idle x)
 | .one _,x=>(l,.idle x)
 | .fin _,_=>(l,.idle Rp.yes)
 | .nN,x=>({l with s:=⟨true,x.word.num,x.word.num⟩},.fin (fT l ⟨true,x.word.num,x.word.num⟩))
 | .jg i,_=>leave l (i+1)
 | .fH c,x =>
  if l.aY then (l,.jc c x.word)
  else if l.aj=2∧x.word.slot≠0∧l.h c.i.toNat≠x.word.dz then (l.hold c.i x.word.dz,.eT c (Ac.store 0 0 (25+l.me * 9+c.i) x.word.dz))
  else (l,.idle ⟨x.word,true⟩)
 | .jc c w,x =>
  if bY l c.i x.word.num then (l,.idle ⟨w,true⟩)
  else if l.aj=3 then (l.hold c.i (Wd.dI x.word.num),.eT c (Ac.store 0 0 (25+l.me * 9+c.i) (Wd.dI x.word.num)))
  else ({l with s:=⟨true,if l.s.is=true then l.s.low else x.word.num,x.word.num⟩},.eT c (fT l ⟨true,if l.s.is=true then l.s.low else x.word.num,x.word.num⟩))
 | .eT c _,_=>(l,.fH c)
 | .nO,x=>(l,.one ⟨4,0,0,0,Wd.zero,Wd.dI x.word.num⟩)
 | .jk old,x=>(l,.dR old x.word.num)
 | .dR old b,x=>if l.aY then (note l old b x.word.num,.jP x.word) else cK (note l old b x.word.num)
 | .jP _,_=>cK l
 | .iT,x=>(l,.bL x.word [])
 | .bL clock seen,x =>
  if (seen.length:Int)+1<l.all then (l,.bL clock (seen ++ [x.word]))
  else if l.aj≠4 then dQ l clock (seen ++ [x.word])
  else if RS.may clock.num ((seen ++ [x.word]).map RS.gN)=true then (l,.iC clock)
  else (l,.dN)
 | .iC _,_=>(l,.dN)
 | .dN,x=>dQ l x.word []
 | .bV d r,_=>eY {l with notes:=l.notes.erase d,freed:=l.freed+1} r
end RT
structure iP (l:Lo) (t:RT) (r:RS):Prop where
 aj:r.aj=l.aj
 me:r.me=l.me
 threads:r.threads=l.threads
 most:r.most=l.most
 holds:r.holds=l.h
 span:r.span=l.s
 notes:r.notes=l.notes
 freed:r.freed=l.freed
 step:r.step=t.bg
 acc:t.bg≠0→r.acc=t.acc l
 more:match t with
  | .idle x=>r.gW=x
  | .jg i=>r.index=i
  | .fH c=>r.call=c
  | .jc c w=>r.call=c∧r.word=w
  | .eT c _=>r.call=c
  | .jk old=>r.call.old=old∧r.seen=[]
  | .dR old b=>r.call.old=old∧r.word.num=b∧r.seen=[]
  | .jP _=>r.seen=[]
  | .iT=>r.seen=[]
  | .bL clock seen=>(l.aj=4→r.clock=clock)∧r.seen=seen∧r.index=seen.length
  | .bV d rest=>r.bN=d :: rest
  | _=>True
structure Lo.OK (l:Lo):Prop where
 aj:1≤l.aj∧l.aj≤5
 me:0≤l.me∧l.me<l.threads
 threads:1≤l.threads∧l.threads≤6
 most:1≤l.most
section
variable {l:Lo} {r:RS}
theorem iP.aZ {t:RT} (h:iP l t r):r.aZ↔l.aZ:=by simp only [RS.aZ,Lo.aZ,h.aj]
theorem iP.aY {t:RT} (h:iP l t r):r.aY↔l.aY:=by simp only [RS.aY,Lo.aY,h.aj]
theorem iP.bI {t:RT} (h:iP l t r):r.bI↔l.bI:=by simp only [RS.bI,Lo.bI,h.aj]
end
structure bW (l:Lo) (r:RS):Prop where
 aj:r.aj=l.aj
 me:r.me=l.me
 threads:r.threads=l.threads
 most:r.most=l.most
 holds:r.holds=l.h
 span:r.span=l.s
 notes:r.notes=l.notes
 freed:r.freed=l.freed
theorem iP.keeps {l:Lo} {t:RT} {r:RS} (h:iP l t r):bW l r:=⟨h.aj,h.me,h.threads,h.most,h.holds,h.span,h.notes,h.freed⟩
section
variable {l:Lo} {r:RS}
theorem bW.aZ (h:bW l r):r.aZ↔l.aZ:=by simp only [RS.aZ,Lo.aZ,h.aj]
theorem bW.aY (h:bW l r):r.aY↔l.aY:=by simp only [RS.aY,Lo.aY,h.aj]
theorem bW.bI (h:bW l r):r.bI↔l.bI:=by simp only [RS.bI,Lo.bI,h.aj]
theorem bW.fin (h:bW l r) (x:Rp):iP l (.idle x) (r.finish x) :=
 ⟨h.aj,h.me,h.threads,h.most,h.holds,h.span,h.notes,h.freed,rfl,fun h=>absurd rfl h,rfl⟩
theorem bW.done (h:bW l r):iP l (.idle Rp.yes) r.done:=h.fin _
theorem bW.ask (h:bW l r) {t:RT} {a:Ac} (h0:t.bg≠0) (ha:a=t.acc l) (hm:match t with
    | .idle x=>r.gW=x
    | .jg i=>r.index=i
    | .fH c=>r.call=c
    | .jc c w=>r.call=c∧r.word=w
    | .eT c _=>r.call=c
    | .jk old=>r.call.old=old∧r.seen=[]
    | .dR old b=>r.call.old=old∧r.word.num=b∧r.seen=[]
    | .jP _=>r.seen=[]
    | .iT=>r.seen=[]
    | .bL clock seen=>(l.aj=4→r.clock=clock)∧r.seen=seen∧r.index=seen.length
    | .bV d rest=>r.bN=d :: rest
    | _=>True):iP l t (r.ask t.bg a):=by
 refine ⟨h.aj,h.me,h.threads,h.most,h.holds,h.span,h.notes,h.freed,rfl,fun _=>ha,?_⟩
 cases t <;> exact hm
theorem bW.hold (h:bW l r) (n:Int) (w:Wd):bW (l.hold n w) (r.hold n w) :=
 ⟨h.aj,h.me,h.threads,h.most,by simp only [RS.hold,Lo.hold,h.holds],h.span,h.notes,h.freed⟩
theorem bW.leave (h:bW l r) (n:Int):iP (RT.leave l n).1 (RT.leave l n).2 (r.leave n):=by
 have c1:(r.bI∧r.span≠Sp.zero)↔(l.bI∧l.s≠Sp.zero):=by rw [h.bI,h.span]
 unfold RS.leave RT.leave
 by_cases hA:l.bI∧l.s≠Sp.zero
 ·rw [if_pos (c1.2 hA),if_pos hA]
  refine bW.ask (l:={l with s:=Sp.zero}) (r:={r with span:=Sp.zero}) (t:=.fin (RT.fT l Sp.zero)) ⟨h.aj,h.me,h.threads,h.most,h.holds,rfl,h.notes,h.freed⟩ (show (2:Int)≠0 by decide) ?_ trivial
  show (⟨2,0,0,79+r.me,Wd.zero,RS.lQ Sp.zero⟩:Ac)=_
  rw [h.me];rfl
 ·rw [if_neg (fun x=>hA (c1.1 x)),if_neg hA]
  by_cases hB:l.aZ
  ·rw [if_pos (h.aZ.2 hB),if_pos hB]
   have e:RS.first r.holds n.toNat (9-n.toNat)=RS.first l.h n.toNat (9-n.toNat):=by rw [h.holds]
   rw [e]
   cases RS.first l.h n.toNat (9-n.toNat) with
   | some k =>
    refine bW.ask (l:=l.hold k Wd.zero) (r:=({r with index:=k}:RS).hold k Wd.zero) (t:=.jg k) (bW.hold (r:={r with index:=k}) ⟨h.aj,h.me,h.threads,h.most,h.holds,h.span,h.notes,h.freed⟩ _ _) (show (4:Int)≠0 by decide) ?_ rfl
    show (⟨2,0,0,25+r.me * 9+k,Wd.zero,Wd.zero⟩:Ac)=_
    rw [h.me];rfl
   | none=>exact h.done
  ·rw [if_neg (fun x=>hB (h.aZ.1 x)),if_neg hB]
   exact h.done
theorem bW.look (h:bW l r) (n:Int) {clock:Wd} {seen:List Wd} (hn:n=seen.length) (hc:l.aj=4→r.clock=clock) (hs:r.seen=seen) :
  if n<l.all then ∃q,r.look n=some q∧iP l (.bL clock seen) q else r.look n=none:=by
 unfold RS.look Lo.all
 by_cases hB:l.aZ
 ·rw [if_pos hB,if_pos (h.aZ.2 hB)]
  have ht:=h.threads
  by_cases hn':n<l.threads * 9
  ·rw [if_pos hn',if_neg (by omega)]
   refine ⟨_,rfl,⟨h.aj,h.me,h.threads,h.most,h.holds,h.span,h.notes,h.freed,rfl,fun _=>?_,hc,hs,hn⟩⟩
   show (⟨1,0,0,25+n,Wd.zero,Wd.zero⟩:Ac)=Ac.load 0 0 (l.base+seen.length)
   rw [hn,Lo.base,if_pos hB];rfl
  ·rw [if_neg hn',if_pos (by omega)]
 ·rw [if_neg hB,if_neg (fun x=>hB (h.aZ.1 x))]
  have ht:=h.threads
  by_cases hn':n<l.threads
  ·rw [if_pos hn',if_neg (by omega)]
   refine ⟨_,rfl,⟨h.aj,h.me,h.threads,h.most,h.holds,h.span,h.notes,h.freed,rfl,fun _=>?_,hc,hs,hn⟩⟩
   show (⟨1,0,0,79+n,Wd.zero,Wd.zero⟩:Ac)=Ac.load 0 0 (l.base+seen.length)
   rw [hn,Lo.base,if_neg hB];rfl
  ·rw [if_neg hn',if_pos (by omega)]
theorem Lo.OK.all {l:Lo} (h:l.OK):0<l.all:=by
 have:=h.threads
 unfold Lo.all
 split <;> omega
theorem bW.UB (h:bW l r) (ho:l.OK) {clock:Wd} (hc:l.aj=4→r.clock=clock) (hs:r.seen=[]):iP l (.bL clock []) ((r.look 0).getD r):=by
 have:=h.look 0 (clock:=clock) (seen:=[]) rfl hc hs
 rw [if_pos ho.all] at this
 obtain ⟨q,h1,h2⟩:=this
 rw [h1]
 exact h2
theorem bW.scan (h:bW l r) (ho:l.OK) (hs:r.seen=[]):iP (RT.scan l).1 (RT.scan l).2 r.scan:=by
 unfold RS.scan RT.scan
 rw [h.aj]
 by_cases h1:l.aj=1
 ·rw [if_pos h1,if_pos h1];exact h.done
 ·rw [if_neg h1,if_neg h1]
  by_cases h4:l.aj=4
  ·rw [if_pos h4,if_pos h4]
   exact h.ask (t:=.iT) (show (12:Int)≠0 by decide) rfl hs
  ·rw [if_neg h4,if_neg h4]
   exact h.UB ho (fun h=>absurd h h4) hs
theorem bW.cK (h:bW l r) (ho:l.OK) (hs:r.seen=[]):iP (RT.cK l).1 (RT.cK l).2 r.cK:=by
 unfold RS.cK RT.cK
 rw [h.notes,h.most]
 split
 ·exact h.scan ho hs
 ·exact h.done
theorem bW.note (h:bW l r) (b d:Int):bW (RT.note l r.call.old b d) (r.note b d) :=
 ⟨h.aj,h.me,h.threads,h.most,h.holds,h.span,by simp only [RS.note,RT.note,h.notes],h.freed⟩
theorem Lo.OK.note {l:Lo} (h:l.OK) (w:Wd) (b d:Int):(RT.note l w b d).OK:=⟨h.aj,h.me,h.threads,h.most⟩
theorem bW.fu (h:bW l r) (ho:l.OK) (hs:r.seen=[]) (hw:r.word.num=0):iP (RT.fu l r.call.old).1 (RT.fu l r.call.old).2 r.fu:=by
 unfold RS.fu RT.fu
 rw [h.aj]
 by_cases h2:l.aj=2
 ·rw [if_pos h2,if_pos h2]
  exact (h.note 0 0).cK (ho.note _ _ _) hs
 rw [if_neg h2,if_neg h2]
 by_cases h4:l.aj=4
 ·rw [if_pos h4,if_pos h4]
  exact h.ask (t:=.dR r.call.old 0) (show (10:Int)≠0 by decide) rfl ⟨rfl,hw,hs⟩
 rw [if_neg h4,if_neg h4]
 by_cases LH:l.aj=3∨l.aj=5
 ·rw [if_pos LH,if_pos LH]
  exact h.ask (t:=.jk r.call.old) (show (9:Int)≠0 by decide) rfl ⟨rfl,hs⟩
 rw [if_neg LH,if_neg LH]
 exact h.done
def Ca.OK (c:Ca):Prop:=1≤c.kind∧c.kind≤11∧0≤c.i∧c.i<9∧0≤c.j∧c.j<9
theorem bW.opened (h:bW l r) (ho:l.OK) (hs:r.seen=[]) (hw:r.word.num=0) (hc:r.call.OK):iP (RT.begin l r.call).1 (RT.begin l r.call).2 r.opened:=by
 unfold RS.opened RT.begin
 simp only
 by_cases k1:r.call.kind=1
 ·rw [if_pos k1,if_pos k1]
  by_cases g:l.bI
  ·rw [if_pos g,if_pos (h.bI.2 g)]
   exact h.ask (t:=.nN) (show (3:Int)≠0 by decide) rfl trivial
  ·rw [if_neg g,if_neg (fun x=>g (h.bI.1 x))]
   exact h.done
 rw [if_neg k1,if_neg k1]
 by_cases k2:r.call.kind=2
 ·rw [if_pos k2,if_pos k2]
  exact h.leave 0
 rw [if_neg k2,if_neg k2]
 by_cases k3:r.call.kind=3
 ·rw [if_pos k3,if_pos k3]
  exact h.ask (t:=.one (Ac.load r.call.slot r.call.gen r.call.field)) (show (1:Int)≠0 by decide) rfl trivial
 rw [if_neg k3,if_neg k3]
 by_cases k4:r.call.kind=4
 ·rw [if_pos k4,if_pos k4]
  exact h.ask (t:=.one ⟨2,r.call.slot,r.call.gen,r.call.field,r.call.old,r.call.new⟩) (show (1:Int)≠0 by decide) rfl trivial
 rw [if_neg k4,if_neg k4]
 by_cases k5:r.call.kind=5
 ·rw [if_pos k5,if_pos k5]
  exact h.ask (t:=.one ⟨3,r.call.slot,r.call.gen,r.call.field,r.call.old,r.call.new⟩) (show (1:Int)≠0 by decide) rfl trivial
 rw [if_neg k5,if_neg k5]
 by_cases k6:r.call.kind=6
 ·rw [if_pos k6,if_pos k6]
  exact h.ask (t:=.fH r.call) (show (5:Int)≠0 by decide) rfl rfl
 rw [if_neg k6,if_neg k6]
 by_cases k7:r.call.kind=7
 ·rw [if_pos k7,if_pos k7]
  have e:(r.aZ∧r.holds r.call.i.toNat≠r.holds r.call.j.toNat)↔(l.aZ∧l.h r.call.i.toNat≠l.h r.call.j.toNat):=by rw [h.aZ,h.holds]
  by_cases g:l.aZ∧l.h r.call.i.toNat≠l.h r.call.j.toNat
  ·rw [if_pos g,if_pos (e.2 g)]
   have h':=h.hold r.call.i (l.h r.call.j.toNat)
   have e2:r.post 2 r.call.i (r.holds r.call.j.toNat)=(r.hold r.call.i (l.h r.call.j.toNat)).ask 2 ⟨2,0,0,25+l.me * 9+r.call.i,Wd.zero,l.h r.call.j.toNat⟩:=by
    unfold RS.post
    rw [h.holds,h.me]
   rw [e2]
   exact h'.ask (t:=.fin (Ac.store 0 0 (25+l.me * 9+r.call.i) (l.h r.call.j.toNat))) (show (2:Int)≠0 by decide) rfl trivial
  ·rw [if_neg g,if_neg (fun x=>g (e.1 x))]
   exact h.done
 rw [if_neg k7,if_neg k7]
 by_cases k8:r.call.kind=8
 ·rw [if_pos k8,if_pos k8]
  by_cases g:l.aY
  ·rw [if_pos g,if_pos (h.aY.2 g)]
   exact h.ask (t:=.nO) (show (8:Int)≠0 by decide) rfl trivial
  ·rw [if_neg g,if_neg (fun x=>g (h.aY.1 x))]
   exact h.ask (t:=.one ⟨4,0,0,0,Wd.zero,Wd.zero⟩) (show (1:Int)≠0 by decide) rfl trivial
 rw [if_neg k8,if_neg k8]
 by_cases k9:r.call.kind=9
 ·rw [if_pos k9,if_pos k9]
  exact h.ask (t:=.fin ⟨5,0,0,0,r.call.old,Wd.zero⟩) (show (2:Int)≠0 by decide) rfl trivial
 rw [if_neg k9,if_neg k9]
 by_cases k10:r.call.kind=10
 ·rw [if_pos k10,if_pos k10]
  exact h.fu ho hs hw
 rw [if_neg k10,if_neg k10,if_pos (by have:=hc.1;have:=hc.2.1;omega)]
 exact h.scan ho hs
theorem iP.begin {x:Rp} (h:iP l (.idle x) r) (ho:l.OK) {c:Ca} (hc:c.OK):iP (RT.begin l c).1 (RT.begin l c).2 (r.begin c).1∧(r.begin c).2=true:=by
 have hs:r.step=0:=h.step
 unfold RS.begin
 obtain ⟨c1,c2,c3,c4,c5,c6⟩:=hc
 rw [if_neg (by omega),if_neg (by omega),if_neg (by omega)]
 exact ⟨bW.opened (r:={r with call:=c,step:=0,acc:=Ac.zero,word:=Wd.zero,clock:=Wd.zero,index:=0,seen:=[],bN:=[]}) ⟨h.aj,h.me,h.threads,h.most,h.holds,h.span,h.notes,h.freed⟩ ho rfl rfl ⟨c1,c2,c3,c4,c5,c6⟩,rfl⟩
theorem bW.eX (h:bW l r) (s:Sp) {t:RT} (ht:t=.fin (RT.fT l s)∨∃c,t=.eT c (RT.fT l s)∧r.call=c):iP {l with s:=s} t (r.eX t.bg s):=by
 have h':bW {l with s:=s} {r with span:=s}:=⟨h.aj,h.me,h.threads,h.most,h.holds,rfl,h.notes,h.freed⟩
 have e:(⟨2,0,0,79+r.me,Wd.zero,RS.lQ s⟩:Ac)=RT.fT l s:=by rw [h.me];rfl
 unfold RS.eX
 rw [e]
 rcases ht with rfl | ⟨c,rfl,hc⟩
 ·exact h'.ask (t:=.fin (RT.fT l s)) (show (2:Int)≠0 by decide) rfl trivial
 ·exact h'.ask (t:=.eT c (RT.fT l s)) (show (7:Int)≠0 by decide) rfl hc
theorem bW.eY (h:bW l r):iP (RT.eY l r.bN).1 (RT.eY l r.bN).2 r.eY:=by
 unfold RS.eY RT.eY
 cases hd:r.bN with
 | nil=>exact h.done
 | cons d q=>exact h.ask (t:=.bV d q) (show (16:Int)≠0 by decide) rfl hd
theorem bW.dQ (h:bW l r) (ho:l.OK) (h1:l.aj≠1) {clock:Wd} {seen:List Wd} (hc:l.aj=4→r.clock=clock) (hs:r.seen=seen∨l.aj=4):iP (RT.dQ l clock seen).1 (RT.dQ l clock seen).2 r.dQ:=by
 have ho1:=ho.aj
 unfold RS.dQ RT.dQ
 rw [if_pos (by rw [h.aj];omega)]
 have e:(r.notes.filter fun n=>!r.kept n)=l.notes.filter fun n=>!RT.kept l clock seen n:=by
  rw [h.notes]
  congr 1
  funext n
  congr 1
  unfold RS.kept RT.kept
  rw [h.aj]
  split
  ·rename_i e;rcases hs with hs | hs
   ·rw [hs]
   ·omega
  split
  ·rcases hs with hs | hs
   ·rw [hs]
   ·omega
  split
  ·rcases hs with hs | hs
   ·rw [hs]
   ·omega
  rw [if_pos (by omega),hc (by omega)]
 have:=bW.eY (l:=l) (r:={r with bN:=r.notes.filter fun n=>!r.kept n}) ⟨h.aj,h.me,h.threads,h.most,h.holds,h.span,h.notes,h.freed⟩
 rw [e] at this
 rw [e]
 exact this
def RT.fits (l:Lo):RT→Prop
 | .jc _ _=>l.aY
 | .iT | .iC _ | .dN=>l.aj=4
 | .bL _ _=>l.aj≠1
 | .fH c | .eT c _=>0≤c.i∧c.i<9
 | _=>True
theorem iP.aJ {t:RT} (h:iP l t r) (ho:l.OK) (hf:t.fits l) (h0:t.bg≠0) (x:Rp):iP (RT.aJ l t x).1 (RT.aJ l t x).2 (r.aJ x).1∧(r.aJ x).2=true:=by
 have hk:=h.keeps
 have hs:=h.step
 have hm:=h.more
 unfold RS.aJ
 cases t with
 | idle y=>exact absurd rfl h0
 | one a =>
  replace hs:r.step=1:=hs
  rw [if_neg (by omega),if_pos hs]
  exact ⟨hk.fin x,rfl⟩
 | fin a =>
  replace hs:r.step=2:=hs
  rw [if_neg (by omega),if_neg (by omega),if_pos hs]
  exact ⟨hk.done,rfl⟩
 | nN =>
  replace hs:r.step=3:=hs
  rw [if_neg (by omega),if_neg (by omega),if_neg (by omega),if_pos hs]
  exact ⟨hk.eX _ (t:=.fin _) (.inl rfl),rfl⟩
 | jg i =>
  replace hs:r.step=4:=hs
  replace hm:r.index=i:=hm
  rw [if_neg (by omega),if_neg (by omega),if_neg (by omega),if_neg (by omega),if_pos hs,hm]
  exact ⟨hk.leave _,rfl⟩
 | nO =>
  replace hs:r.step=8:=hs
  rw [if_neg (by omega),if_neg (by omega),if_neg (by omega),if_neg (by omega),if_neg (by omega),if_pos hs]
  exact ⟨hk.ask (t:=.one _) (show (1:Int)≠0 by decide) rfl trivial,rfl⟩
 | eT c a =>
  replace hs:r.step=7:=hs
  replace hm:r.call=c:=hm
  subst hm
  rw [if_neg (by omega),if_neg (by omega),if_neg (by omega),if_neg (by omega),if_neg (by omega),if_neg (by omega),if_pos (by omega)]
  refine ⟨?_,rfl⟩
  unfold RS.bG
  simp only
  rw [if_pos hs]
  exact hk.ask (t:=.fH r.call) (show (5:Int)≠0 by decide) rfl rfl
 | fH c =>
  replace hs:r.step=5:=hs
  replace hm:r.call=c:=hm
  subst hm
  rw [if_neg (by omega),if_neg (by omega),if_neg (by omega),if_neg (by omega),if_neg (by omega),if_neg (by omega),if_pos (by omega)]
  refine ⟨?_,rfl⟩
  have hk':bW l {r with word:=x.word}:=⟨h.aj,h.me,h.threads,h.most,h.holds,h.span,h.notes,h.freed⟩
  unfold RS.bG
  simp only
  rw [if_neg (by omega),if_pos hs]
  show iP (if l.aY then _ else _:LR).1 (if l.aY then _ else _:LR).2 _
  by_cases hd:l.aY
  ·rw [if_pos (h.aY.2 hd),if_pos hd]
   exact hk'.ask (t:=.jc r.call x.word) (show (6:Int)≠0 by decide) rfl ⟨rfl,rfl⟩
  rw [if_neg (fun y=>hd (h.aY.1 y)),if_neg hd]
  have e:(r.aj=2∧x.word.slot≠0∧r.holds r.call.i.toNat≠x.word.dz)↔(l.aj=2∧x.word.slot≠0∧l.h r.call.i.toNat≠x.word.dz):=by rw [h.aj,h.holds]
  by_cases g:l.aj=2∧x.word.slot≠0∧l.h r.call.i.toNat≠x.word.dz
  ·rw [if_pos (e.2 g),if_pos g]
   have e2:({r with word:=x.word}:RS).post 7 r.call.i x.word.dz=(({r with word:=x.word}:RS).hold r.call.i x.word.dz).ask 7 (Ac.store 0 0 (25+l.me * 9+r.call.i) x.word.dz):=by
    unfold RS.post
    rw [show ({r with word:=x.word}:RS).me=l.me from h.me]
    rfl
   rw [e2]
   exact (hk'.hold r.call.i x.word.dz).ask (t:=.eT r.call (Ac.store 0 0 (25+l.me * 9+r.call.i) x.word.dz)) (show (7:Int)≠0 by decide) rfl rfl
  ·rw [if_neg (fun y=>g (e.1 y)),if_neg g]
   exact hk'.fin _
 | jc c w =>
  replace hs:r.step=6:=hs
  obtain ⟨hm,hw⟩:r.call=c∧r.word=w:=hm
  subst hm hw
  rw [if_neg (by omega),if_neg (by omega),if_neg (by omega),if_neg (by omega),if_neg (by omega),if_neg (by omega),if_pos (by omega)]
  refine ⟨?_,rfl⟩
  unfold RS.bG
  simp only
  rw [if_neg (by omega),if_neg (by omega),if_pos hs]
  show iP (if RT.bY l r.call.i x.word.num then _ else _:LR).1 (if RT.bY l r.call.i x.word.num then _ else _:LR).2 _
  have e:r.bY r.call.i x.word.num↔RT.bY l r.call.i x.word.num:=by unfold RS.bY RT.bY;rw [h.aj,h.holds,h.span]
  by_cases g:RT.bY l r.call.i x.word.num
  ·rw [if_pos (e.2 g),if_pos g]
   exact hk.fin _
  rw [if_neg (fun y=>g (e.1 y)),if_neg g,h.aj]
  by_cases g3:l.aj=3
  ·rw [if_pos g3,if_pos g3]
   have e2:r.post 7 r.call.i (Wd.dI x.word.num)=(r.hold r.call.i (Wd.dI x.word.num)).ask 7 (Ac.store 0 0 (25+l.me * 9+r.call.i) (Wd.dI x.word.num)):=by
    unfold RS.post
    rw [h.me]
    rfl
   rw [e2]
   exact (hk.hold r.call.i _).ask (t:=.eT r.call (Ac.store 0 0 (25+l.me * 9+r.call.i) (Wd.dI x.word.num))) (show (7:Int)≠0 by decide) rfl rfl
  ·rw [if_neg g3,if_neg g3,h.span]
   exact hk.eX _ (t:=.eT r.call _) (.inr ⟨_,rfl,rfl⟩)
 | jk old =>
  replace hs:r.step=9:=hs
  obtain ⟨h1,h2⟩:r.call.old=old∧r.seen=[]:=hm
  rw [if_neg (by omega),if_neg (by omega),if_neg (by omega),if_neg (by omega),if_neg (by omega),if_neg (by omega),if_neg (by omega),if_pos (by omega)]
  refine ⟨?_,rfl⟩
  unfold RS.eQ
  rw [if_pos hs]
  have hk':bW l {r with word:=x.word}:=⟨h.aj,h.me,h.threads,h.most,h.holds,h.span,h.notes,h.freed⟩
  exact hk'.ask (t:=.dR old x.word.num) (show (10:Int)≠0 by decide) rfl ⟨h1,rfl,h2⟩
 | dR old b =>
  replace hs:r.step=10:=hs
  obtain ⟨h1,h2,h3⟩:r.call.old=old∧r.word.num=b∧r.seen=[]:=hm
  rw [if_neg (by omega),if_neg (by omega),if_neg (by omega),if_neg (by omega),if_neg (by omega),if_neg (by omega),if_neg (by omega),if_pos (by omega)]
  refine ⟨?_,rfl⟩
  unfold RS.eQ
  simp only
  rw [if_neg (by omega),if_pos hs,h2]
  show iP (if l.aY then _ else _:LR).1 (if l.aY then _ else _:LR).2 _
  have hk':bW l {r with clock:=x.word}:=⟨h.aj,h.me,h.threads,h.most,h.holds,h.span,h.notes,h.freed⟩
  have hk2:=hk'.note b x.word.num
  rw [show ({r with clock:=x.word}:RS).call.old=old from h1] at hk2
  by_cases hd:l.aY
  ·rw [if_pos (h.aY.2 hd),if_pos hd]
   exact hk2.ask (t:=.jP x.word) (show (11:Int)≠0 by decide) rfl h3
  ·rw [if_neg (fun y=>hd (h.aY.1 y)),if_neg hd]
   exact hk2.cK (ho.note _ _ _) h3
 | jP clock =>
  replace hs:r.step=11:=hs
  replace hm:r.seen=[]:=hm
  rw [if_neg (by omega),if_neg (by omega),if_neg (by omega),if_neg (by omega),if_neg (by omega),if_neg (by omega),if_neg (by omega),if_pos (by omega)]
  refine ⟨?_,rfl⟩
  unfold RS.eQ
  rw [if_neg (by omega),if_neg (by omega),if_pos hs]
  exact hk.cK ho hm
 | iT =>
  replace hs:r.step=12:=hs
  replace hm:r.seen=[]:=hm
  rw [if_neg (by omega),if_neg (by omega),if_neg (by omega),if_neg (by omega),if_neg (by omega),if_neg (by omega),if_neg (by omega),if_neg (by omega)]
  refine ⟨?_,rfl⟩
  unfold RS.bP
  rw [if_pos hs]
  have hk':bW l {r with clock:=x.word}:=⟨h.aj,h.me,h.threads,h.most,h.holds,h.span,h.notes,h.freed⟩
  exact hk'.UB ho (fun _=>rfl) hm
 | bL clock seen =>
  replace hs:r.step=13:=hs
  obtain ⟨h1,h2,h3⟩:(l.aj=4→r.clock=clock)∧r.seen=seen∧r.index=seen.length:=hm
  subst h2
  replace hf:l.aj≠1:=hf
  rw [if_neg (by omega),if_neg (by omega),if_neg (by omega),if_neg (by omega),if_neg (by omega),if_neg (by omega),if_neg (by omega),if_neg (by omega)]
  refine ⟨?_,rfl⟩
  unfold RS.bP
  simp only
  rw [if_neg (by omega),if_pos hs]
  show iP (if (r.seen.length:Int)+1<l.all then _ else _:LR).1 (if (r.seen.length:Int)+1<l.all then _ else _:LR).2 _
  have hk':bW l {r with seen:=r.seen ++ [x.word]}:=⟨h.aj,h.me,h.threads,h.most,h.holds,h.span,h.notes,h.freed⟩
  have hl:=hk'.look (r.index+1) (clock:=clock) (seen:=r.seen ++ [x.word]) (by rw [h3];simp) h1 rfl
  by_cases g:(r.seen.length:Int)+1<l.all
  ·rw [if_pos (by omega)] at hl
   obtain ⟨q,e1,e2⟩:=hl
   rw [e1,if_pos g]
   exact e2
  ·rw [if_neg (by omega)] at hl
   rw [hl,if_neg g]
   simp only
   by_cases g4:l.aj=4
   ·have g4':r.aj=4:=h.aj.trans g4
    obtain rfl:=h1 g4
    rw [if_neg (show ¬l.aj≠4 from fun y=>y g4),if_neg (show ¬r.aj≠4 from fun y=>y g4')]
    by_cases gm:RS.may r.clock.num ((r.seen ++ [x.word]).map RS.gN)=true
    ·rw [if_pos gm,if_pos gm]
     exact hk'.ask (t:=.iC r.clock) (show (14:Int)≠0 by decide) rfl trivial
    ·rw [if_neg gm,if_neg gm]
     exact hk'.ask (t:=.dN) (show (15:Int)≠0 by decide) rfl trivial
   ·rw [if_pos (show l.aj≠4 from g4),if_pos (show r.aj≠4 from fun y=>g4 (h.aj.symm.trans y))]
    exact hk'.dQ ho hf h1 (.inl rfl)
 | iC clock =>
  replace hs:r.step=14:=hs
  rw [if_neg (by omega),if_neg (by omega),if_neg (by omega),if_neg (by omega),if_neg (by omega),if_neg (by omega),if_neg (by omega),if_neg (by omega)]
  refine ⟨?_,rfl⟩
  unfold RS.bP
  rw [if_neg (by omega),if_neg (by omega),if_pos hs]
  exact hk.ask (t:=.dN) (show (15:Int)≠0 by decide) rfl trivial
 | dN =>
  replace hs:r.step=15:=hs
  replace hf:l.aj=4:=hf
  rw [if_neg (by omega),if_neg (by omega),if_neg (by omega),if_neg (by omega),if_neg (by omega),if_neg (by omega),if_neg (by omega),if_neg (by omega)]
  refine ⟨?_,rfl⟩
  unfold RS.bP
  rw [if_neg (by omega),if_neg (by omega),if_neg (by omega),if_pos hs]
  have hk':bW l {r with clock:=x.word}:=⟨h.aj,h.me,h.threads,h.most,h.holds,h.span,h.notes,h.freed⟩
  exact hk'.dQ ho (by omega) (fun _=>rfl) (.inr hf)
 | bV d rest =>
  replace hs:r.step=16:=hs
  replace hm:r.bN=d :: rest:=hm
  rw [if_neg (by omega),if_neg (by omega),if_neg (by omega),if_neg (by omega),if_neg (by omega),if_neg (by omega),if_neg (by omega),if_neg (by omega)]
  refine ⟨?_,rfl⟩
  unfold RS.bP
  simp only
  rw [if_neg (by omega),if_neg (by omega),if_neg (by omega),if_neg (by omega),if_pos hs,hm]
  have hk':bW {l with notes:=l.notes.erase d,freed:=l.freed+1} {r with notes:=r.notes.erase d,freed:=r.freed+1,bN:=rest}:=⟨h.aj,h.me,h.threads,h.most,h.holds,h.span,by simp only [h.notes],by simp only [h.freed]⟩
  exact hk'.eY
theorem iP.new {e me th mo:Int}:iP ⟨e,me,th,mo,fun _=>Wd.zero,Sp.zero,[],0⟩ (.idle ⟨Wd.zero,false⟩) (RS.new e me th mo) :=
 ⟨rfl,rfl,rfl,rfl,rfl,rfl,rfl,rfl,rfl,fun h=>absurd rfl h,rfl⟩
end
end Go.Proofs.YthomdlajobnmnaaDoor
namespace Go.Proofs.YthomdlajobnmnaaDoor
open Go.Rex
def H9:kP:=[(l7,Av,Cn)]
theorem Sc:∀k pre post,(k,pre,post)∈H9→jD k=true∧bF Tryd.prog k pre post:=by
 intro k pre post h
 simp only [H9,List.mem_cons,List.not_mem_nil,or_false,Prod.mk.injEq] at h
 obtain ⟨rfl,rfl,rfl⟩:=h
 exact ⟨by kernel_rfl,Sb⟩
def Y8:Kn:=[(.aC (.var 22) (.lit 0),true),(.bS (.var 71) (.lit 1),false),(.bS (.lit 11) (.var 71),false),(.bS (.var 85) (.lit 0),false),(.aA (.lit 9) (.var 85),false),(.bS (.var 86) (.lit 0),false),(.aA (.lit 9) (.var 86),false)]
noncomputable def PO:Ex:={sched:=sched,loops:=[],cons:=[l7],fin:=jM}
def Co:Out :=
 .br (.or (.aC (.var 71) (.lit 6)) (.aC (.var 71) (.lit 7)))
 (.call 0 {lo:=0,az:=0,iv:=yr 65 65 7<|yo [(57,yv 57),(56,yv 56)]<|yr 3 3 4<|yo [(53,.lit 0),(52,.lit 0),(50,.lit 0),(49,.lit 0),(47,.lit 0),(45,.lit 0),(44,.lit 0),(43,.lit 0),(42,.lit 0),(40,.lit 0),(39,.lit 0),(38,.lit 0),(37,.lit 0),(35,.lit 0),(34,.lit 0),(33,.lit 0),(32,.lit 0),(30,.lit 0),(29,.lit 0),(28,.lit 0),(27,.lit 0),(26,.lit 0),(25,.lit 0),(24,.lit 0),(23,.lit 0),(22,.lit 0)]<|yr 21 88 4<|yr 16 83 4<|yr 11 78 8 [],bv:=[(67,yw 67),(66,yw 66),(58,yw 58),(55,yw 55),(51,.lit true),(48,.lit true),(46,.lit false),(41,.lit false),(36,.lit false),(31,.lit false),(17,yw 84),(12,yw 79)],ct:=[(70,yu 70 59 7 yN 0),(54,yl 54 9 5 50 yW 0)],bk:=[(3,yc 3 7),(0,yb 0)],nb:=[2,1,2,1]} 89 <|
  .fin {lo:=89,az:=4,iv:=yo [(155,yv 155)]<|yr 150 150 7<|yo [(142,yv 142),(141,yv 141),(138,yv 138),(137,yv 137),(154,yv 154),(135,yv 135),(134,yv 134),(132,yv 132)]<|yr 130 130 4<|yr 125 125 4<|yr 120 120 4<|yr 115 115 13<|yr 101 101 4<|yr 96 96 8 [],bv:=[(152,yw 152),(151,yw 151),(143,yw 143),(140,yw 140),(136,yw 136),(133,yw 133),(131,yw 131),(126,yw 126),(121,yw 121),(116,yw 116),(102,yw 102),(97,yw 97)],ct:=[(155,yu 155 144 7 yN 0),(154,yu 154 155 7 yN 0),(153,yu 153 134 5 yW 0),(139,yl 139 9 5 50 yW 0)],bk:=[(6,yc 7 7),(5,yc 6 7),(4,yc 5 5)]})
 (.call 0 {lo:=0,az:=0,iv:=yr 65 65 7<|yo [(57,yv 57),(56,yv 56)]<|yr 3 3 4<|yo [(53,.lit 0),(52,.lit 0),(50,.lit 0),(49,.lit 0),(47,.lit 0),(45,.lit 0),(44,.lit 0),(43,.lit 0),(42,.lit 0),(40,.lit 0),(39,.lit 0),(38,.lit 0),(37,.lit 0),(35,.lit 0),(34,.lit 0),(33,.lit 0),(32,.lit 0),(30,.lit 0),(29,.lit 0),(28,.lit 0),(27,.lit 0),(26,.lit 0),(25,.lit 0),(24,.lit 0),(23,.lit 0),(22,.lit 0)]<|yr 21 88 4<|yr 16 83 4<|yr 11 78 8 [],bv:=[(67,yw 67),(66,yw 66),(58,yw 58),(55,yw 55),(51,.lit true),(48,.lit true),(46,.lit false),(41,.lit false),(36,.lit false),(31,.lit false),(17,yw 84),(12,yw 79)],ct:=[(70,yu 70 59 7 yN 0),(54,yl 54 9 5 50 yW 0)],bk:=[(3,yc 3 7),(0,yb 0)],nb:=[2,1,2,1]} 89 <|
  .fin {lo:=89,az:=4,iv:=yo [(155,yv 155)]<|yr 150 150 7<|yo [(142,yv 142),(141,yv 141),(138,yv 138),(137,yv 137),(154,yv 154),(135,yv 135),(134,yv 134),(132,yv 132)]<|yr 130 130 4<|yr 125 125 4<|yr 120 120 4<|yr 115 115 13<|yr 101 101 4<|yr 96 96 8 [],bv:=[(152,yw 152),(151,yw 151),(143,yw 143),(140,yw 140),(136,yw 136),(133,yw 133),(131,yw 131),(126,yw 126),(121,yw 121),(116,yw 116),(102,yw 102),(97,yw 97)],ct:=[(155,yu 155 144 7 yN 0),(154,yu 154 155 7 yN 0),(153,yu 153 134 5 yW 0),(139,yl 139 9 5 50 yW 0)],bk:=[(6,yc 7 7),(5,yc 6 7),(4,yc 5 5)]})
theorem PQ:exec tab PO 8000 [] (gI jM.f jM.nv Y8 jM.gl jM.hp jM.args)=Co:=by kernel_rfl
def ui (ρ:Env):Prop:=(bJ ρ 4∧wF ρ∧JV ρ 4)∧ρ.iv 22=0∧(jX ρ 71).OK
def rq (ρ:Env):Prop:=bJ ρ 89∧ae ρ 0 89=((ae ρ 0 4).begin (jX ρ 71)).1
theorem Sd {r:RS} {c:Ca} (h:r.step=0) (hc:c.OK):(r.begin c).1=({r with call:=c,step:=0,acc:=Ac.zero,word:=Wd.zero,clock:=Wd.zero,index:=0,seen:=[],bN:=[]}:RS).opened∧(r.begin c).2=true:=by
 obtain ⟨c1,c2,c3,c4,c5,c6⟩:=hc
 unfold RS.begin
 rw [if_neg (by omega),if_neg (by omega),if_neg (by omega)]
 exact ⟨rfl,rfl⟩
theorem PT (ρ:Env) (hpre:ui ρ.num):Sat rq H9 [] ρ Co:=by
 replace hpre:ui ρ:=hpre
 obtain ⟨⟨⟨o1,o2,o3⟩,hs,hf⟩,h0,hc⟩:=hpre
 have hm:((ae ρ 0 4).begin (jX ρ 71)).1=({ae ρ 0 4 with call:=jX ρ 71,step:=0,acc:=Ac.zero,word:=Wd.zero,clock:=Wd.zero,index:=0,seen:=[],bN:=[]}:RS).opened:=(Sd h0 hc).1
 obtain ⟨-,-,c3,c4,c5,c6⟩:=hc
 unfold Co
 refine Sat.br (fun _=>?_) (fun _=>?_)
 all_goals
  refine fw (c:=l7) rfl ({ae ρ 0 4 with call:=jX ρ 71,step:=0,acc:=Ac.zero,word:=Wd.zero,clock:=Wd.zero,index:=0,seen:=[],bN:=[]}:RS) ({ae ρ 0 4 with call:=jX ρ 71,step:=0,acc:=Ac.zero,word:=Wd.zero,clock:=Wd.zero,index:=0,seen:=[],bN:=[]}:RS).opened (by decide) (by decide) (jT rfl rfl rfl rfl) ⟨⟨by exact ak rfl rfl,by exact ⟨ak rfl rfl,Int.le_refl 0,.inl rfl⟩,o3⟩,hs,hf,⟨c3,c4⟩,c5,c6⟩ (RS.ext' rfl rfl rfl rfl rfl rfl bA bE rfl rfl rfl rfl bH rfl bB rfl rfl) (fun e hq hr=>⟨hq.1,by rw [←hr];exact hq.2⟩) (fun u=>(bJ u 89)∧ae u 0 89=((ae u 0 4).begin (jX u 71)).1) (fun e h1 h2=>⟨h1,h2.trans hm.symm⟩) fun u hu=>?_
  obtain ⟨⟨o1,o2,o3⟩,hm⟩:=hu
  exact Sat.fin ⟨⟨(by first | exact o1 | exact o2 | exact o3 | exact ak rfl rfl | assumption),(by first | exact o2 | exact ⟨ak rfl rfl,Int.le_refl 0,.inl rfl⟩ | assumption),(by first | exact o1 | exact o2 | exact o3 | exact ak rfl rfl | assumption)⟩,Eq.trans (b:=(ae u 0 89)) (RS.ext' rfl rfl rfl rfl rfl rfl bA bE rfl rfl rfl rfl bH rfl bB rfl rfl) (Eq.symm (hm.symm))⟩
theorem PU:bF Tryd.prog jM ui rq :=
 dP fC (E:=PO) (cs:=H9) rfl Sc df rfl PQ (by kernel_rfl) (fun ρ h p hp=>by
   obtain ⟨-,h0,c1,c2,c3,c4,c5,c6⟩:=h
   replace h0:ρ.iv 22=0:=h0
   replace c1:1≤ρ.iv 71:=c1
   replace c2:ρ.iv 71≤11:=c2
   replace c3:0≤ρ.iv 85:=c3
   replace c4:ρ.iv 85<9:=c4
   replace c5:0≤ρ.iv 86:=c5
   replace c6:ρ.iv 86<9:=c6
   simp only [Y8,List.mem_cons,List.not_mem_nil,or_false] at hp
   rcases hp with rfl | rfl | rfl | rfl | rfl | rfl | rfl
   · exact beq_iff_eq.2 h0
   · exact decide_eq_false (by show ¬ρ.iv 71<1;omega)
   · exact decide_eq_false (by show ¬11<ρ.iv 71;omega)
   · exact decide_eq_false (by show ¬ρ.iv 85<0;omega)
   · exact decide_eq_false (by show ¬9≤ρ.iv 85;omega)
   · exact decide_eq_false (by show ¬ρ.iv 86<0;omega)
   · exact decide_eq_false (by show ¬9≤ρ.iv 86;omega)) PT
end Go.Proofs.YthomdlajobnmnaaDoor
namespace Go.Proofs.YthomdlajobnmnaaDoor
open Go.Rex
theorem xR {P:Program} {k:eH} {pre post post':Env→Prop} (h:bF P k pre post) (hp:∀ρ,post ρ→post' ρ):bF P k pre post' :=
 ⟨h.fn,fun ρ ν w h1 h2 h3=>(h.run ρ ν w h1 h2 h3).mono fun e w' he=>by
   obtain ⟨ρ',aQ,a,b,c,d,f,g⟩:=he
   exact ⟨ρ',aQ,a,b,c,d,f,hp _ g⟩⟩
def Nt.sv (n:Nt):Sv.vD:=⟨n.ref.slot,n.ref.gen,n.ref.tag,n.ref.num,n.ref.mark,n.aX,n.dm⟩
theorem Nt.XB {a b:Nt} (h:a.sv=b.sv):a=b:=by
 obtain ⟨⟨a1,a2,a3,a4,a5⟩,a6,a7⟩:=a
 obtain ⟨⟨b1,b2,b3,b4,b5⟩,b6,b7⟩:=b
 simp only [Nt.sv,Sv.vD.mk.injEq] at h
 obtain ⟨rfl,rfl,rfl,rfl,rfl,rfl,rfl⟩:=h
 rfl
theorem mV (ρ:Env) (b:Nat):Sv.notes ρ b=(aV ρ (b+3) (ρ.iv (b+1))).map Nt.sv:=by
 unfold Sv.notes aV
 rw [List.map_map]
 rfl
theorem uP {l m:List Nt} {p:Sv.vD→Bool} {q:Nt→Bool} (hq:∀n,p n.sv=q n) (h:m.map Nt.sv=(l.map Nt.sv).filter p):m=l.filter q:=by
 rw [List.filter_map] at h
 have e:p ∘ Nt.sv=q:=funext hq
 rw [e] at h
 have:∀{x y:List Nt},x.map Nt.sv=y.map Nt.sv→x=y:=by
  intro x
  induction x with
  | nil=>intro y h;cases y with | nil=>rfl | cons=>cases h
  | cons a x ih =>
   intro y h
   cases y with
   | nil=>cases h
   | cons b y =>
    simp only [List.map_cons,List.cons.injEq] at h
    rw [Nt.XB h.1,ih h.2]
 exact this h
def pI (ρ:Env) (r:Nat) (n:Int):List Int:=(List.range n.toNat).map fun i=>ρ.ic r i 0 0
def lF (ρ:Env) (r:Nat) (i:Nat):Sp:=⟨ρ.bc r i 0 0,ρ.ic r i 0 1,ρ.ic r i 0 2⟩
def iH (ρ:Env) (r:Nat) (n:Int):List Sp:=(List.range n.toNat).map (lF ρ r)
def JW (ρ:Env):Prop:=bu ρ 8∧aV ρ 11 (ρ.iv 9)=(aV ρ 3 (ρ.iv 1)).filter fun n=>!((dZ ρ 7 (ρ.iv 5)).any fun w=>RS.ow w n)
def Ny (ρ:Env):Prop:=bu ρ 8∧aV ρ 11 (ρ.iv 9)=(aV ρ 3 (ρ.iv 1)).filter fun n=>!((pI ρ 7 (ρ.iv 5)).any fun e=>RS.qy e n)
def JX (ρ:Env):Prop:=bu ρ 8∧aV ρ 11 (ρ.iv 9)=(aV ρ 3 (ρ.iv 1)).filter fun n=>!((iH ρ 7 (ρ.iv 5)).any fun s=>RS.oz s n)
def Fv (ρ:Env):Prop:=bu ρ 8∧aV ρ 11 (ρ.iv 9)=(aV ρ 3 (ρ.iv 1)).filter fun n=>!(RS.mM (ρ.iv 4) n)
theorem Nz:bF Tryd.prog lM Sv.mQ JW:=xR Sv.Ps fun ρ h=>by
 obtain ⟨h1,h2,-⟩:=h
 refine ⟨h1,uP (fun n=>?_) ((mV ρ 8).symm.trans (h2.trans (congrArg _ (mV ρ 0))))⟩
 congr 1
 show (((List.range (ρ.iv 5).toNat).map fun j=>ρ.ic 7 j 0 0).any fun s=>decide (s=n.ref.slot))=_
 unfold dZ
 rw [List.any_map,List.any_map]
 rfl
theorem PV:bF Tryd.prog nA Sv.oO Ny:=xR Sv.RI fun ρ h=>by
 obtain ⟨h1,h2,-⟩:=h
 refine ⟨h1,uP (fun n=>?_) ((mV ρ 8).symm.trans (h2.trans (congrArg _ (mV ρ 0))))⟩
 congr 1
 show (((List.range (ρ.iv 5).toNat).map fun j=>ρ.ic 7 j 0 0).any fun e=>decide ((0<e∧n.aX≤e)∧e≤n.dm))=_
 unfold pI
 rw [List.any_map,List.any_map]
 congr 1
 funext j
 simp only [Function.comp,RS.qy]
 exact decide_eq_decide.2 and_assoc
theorem NA:bF Tryd.prog lN Sv.mU JX:=xR Sv.Px fun ρ h=>by
 obtain ⟨h1,h2,-⟩:=h
 refine ⟨h1,uP (fun n=>?_) ((mV ρ 8).symm.trans (h2.trans (congrArg _ (mV ρ 0))))⟩
 congr 1
 show (((List.range (ρ.iv 5).toNat).map fun j=>(ρ.bc 7 j 0 0,ρ.ic 7 j 0 1,ρ.ic 7 j 0 2)).any fun s=>decide ((s.1=true∧s.2.1≤n.dm)∧n.aX≤s.2.2))=_
 unfold iH
 rw [List.any_map,List.any_map]
 congr 1
 funext j
 simp only [Function.comp,RS.oz,lF]
 rw [Bool.eq_iff_iff]
 simp [and_assoc]
theorem KE:bF Tryd.prog ky Sv.lI Fv:=xR Sv.Np fun ρ h=>by
 obtain ⟨h1,h2,-⟩:=h
 refine ⟨h1,uP (fun n=>?_) ((mV ρ 8).symm.trans (h2.trans (congrArg _ (mV ρ 0))))⟩
 refine congrArg (fun b=>!b) ?_
 show decide (ρ.iv 4 < -9223372036854775806∨ρ.iv 4-2<n.dm)=RS.mM (ρ.iv 4) n
 unfold RS.mM
 exact decide_eq_decide.2 (by omega)
noncomputable def XC:Ex:={sched:=sched,loops:=[ZK],fin:=mK}
def JY:Out :=
 .ob (.or (.not (.var 1)) (.aC (.var 2) (.lit 0))) <|
 .ob (.aA (.lit 0) (.var 2)) <|
 .loop 5 {lo:=5,az:=1,iv:=[(5,.lit 0)]} <|
 .br (.bS (.var 5) (.var 2))
 (.ob (.not (.var 1)) <|
  .ob (.aA (.lit 0) (.var 5)) <|
  .br (.and (.cell 4 (.var 5) (.lit 0) 0) (.not (.aC (.cell 4 (.var 5) (.lit 0) 1) (.var 0))))
  (.fin {lo:=5,az:=1,bv:=[(5,.lit false)]})
  (.ob (.inr .i64 (.add (.var 5) (.lit 1))) <|
   .back 0 {lo:=5,az:=1,iv:=[(5,.add (.var 5) (.lit 1))]}))
 (.fin {lo:=5,az:=1,bv:=[(5,.lit true)]})
theorem VE:exec tab XC 8000 [] (gI mK.f mK.nv [] mK.gl mK.hp mK.args)=JY:=by kernel_rfl
def zK (ρ:Env):Prop:=bu ρ 1∧ρ.iv 2≤1000000
def Aw (ρ:Env):Prop:=ρ.bv 5=RS.may (ρ.iv 0) (iH ρ 4 (ρ.iv 2))
def PW (ρ:Env):Prop:=zK ρ∧(0≤ρ.iv 5∧ρ.iv 5≤ρ.iv 2)∧RS.may (ρ.iv 0) (iH ρ 4 (ρ.iv 5))=true
theorem NB {ρ:Env} {r:Nat} {n:Int} (h:0≤n):iH ρ r (n+1)=iH ρ r n ++ [lF ρ r n.toNat]:=by
 unfold iH
 rw [show (n+1).toNat=n.toNat+1 by omega,List.range_succ,List.map_append]
 rfl
theorem VF (ρ:Env) (hpre:zK ρ.num):Sat Aw [] [] ρ JY:=by
 replace hpre:zK ρ:=hpre
 have hpre':=hpre
 obtain ⟨o1,h2⟩:=hpre
 unfold JY
 refine Sat.ob (aR o1) (Sat.ob (decide_eq_true o1.2.1) (Sat.uK PW (fun r=>(r.iv 2-r.iv 5).toNat) (fun _=>True) ⟨hpre',⟨Int.le_refl 0,o1.2.1⟩,rfl⟩ (fun _=>trivial) fun q _ hI=>?_))
 replace hI:PW q:=hI
 obtain ⟨⟨o1,h2⟩,⟨i1,i2⟩,hI⟩:=hI
 refine Sat.br (fun c=>?_) (fun c=>?_)
 ·simp only [Da] at c
  refine Sat.ob (bU o1 (by simp only [Nat.reduceAdd];omega)) (Sat.ob (decide_eq_true i1) (Sat.br (fun c2=>?_) (fun c2=>?_)))
  ·simp only [Da] at c2
   refine Sat.fin ?_
   show false=RS.may (q.iv 0) (iH q 4 (q.iv 2))
   refine Eq.symm (List.all_eq_false.2 ⟨lF q 4 (q.iv 5).toNat,List.mem_map.2 ⟨(q.iv 5).toNat,List.mem_range.2 (by omega),rfl⟩,?_⟩)
   show ¬(!(q.bc 4 (q.iv 5).toNat 0 0 && q.ic 4 (q.iv 5).toNat 0 1 != q.iv 0))=true
   simp [c2.1,c2.2]
  ·simp only [Da] at c2
   refine Sat.ob (by simp only [Da];omega) (Sat.back rfl ⟨⟨⟨o1,h2⟩,⟨?_,?_⟩,?_⟩,?_⟩)
   ·show 0≤q.iv 5+1;omega
   ·show q.iv 5+1≤q.iv 2;omega
   ·show RS.may (q.iv 0) (iH q 4 (q.iv 5+1))=true
    rw [NB i1]
    unfold RS.may at hI ⊢
    rw [List.all_append,hI,Bool.true_and,List.all_cons,List.all_nil,Bool.and_true]
    show (!(q.bc 4 (q.iv 5).toNat 0 0 && q.ic 4 (q.iv 5).toNat 0 1 != q.iv 0))=true
    rcases c2 with c2 | c2
    ·simp [c2]
    ·simp [c2]
   ·show (q.iv 2-(q.iv 5+1)).toNat<(q.iv 2-q.iv 5).toNat
    omega
 ·simp only [Da] at c
  refine Sat.fin ?_
  show true=RS.may (q.iv 0) (iH q 4 (q.iv 2))
  rw [show q.iv 2=q.iv 5 by omega]
  exact hI.symm
theorem VG:bF Tryd.prog mK zK Aw :=
 dP fC (E:=XC) (cs:=[]) rfl (fun k pre post h=>by cases h) df rfl VE (by kernel_rfl) (fun ρ _ p hp=>by cases hp) VF
end Go.Proofs.YthomdlajobnmnaaDoor
