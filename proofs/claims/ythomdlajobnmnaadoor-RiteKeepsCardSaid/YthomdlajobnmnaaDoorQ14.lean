/- part 14 of the proof -/
import Derived.Test.YthomdlajobnmnaaDoorQ10
import Derived.Test.YthomdlajobnmnaaDoorQ12
import Derived.Test.YthomdlajobnmnaaDoorQ13
set_option linter.unusedSimpArgs false
set_option linter.unusedVariables false
namespace Go.Proofs.YthomdlajobnmnaaDoor
open Go.Rex
def LY:ko:=[(iM,nE,ui),(fZ,vD,oI),(jo,wV,wW),(jm,uj,wX)]
theorem TC:∀k pre post,(k,pre,post)∈LY→jg k=true∧bC Tryd.prog k pre post:=by
 intro k pre post h
 simp only [LY,List.mem_cons,List.not_mem_nil,or_false,Prod.mk.injEq] at h
 rcases h with ⟨rfl,rfl,rfl⟩ | ⟨rfl,rfl,rfl⟩ | ⟨rfl,rfl,rfl⟩ | ⟨rfl,rfl,rfl⟩
 ·exact ⟨by kernel_rfl,Fw⟩
 ·exact ⟨by kernel_rfl,IG⟩
 ·exact ⟨by kernel_rfl,IP⟩
 ·exact ⟨by kernel_rfl,LX⟩
noncomputable def R9:Ex:={sched:=sched,loops:=[],cons:=[iM,fZ,jo,jm],fin:=lJ}
def El:Out :=
 .br (.aC (.var 4) (.lit 1))
 (.br (.or (.aC (.var 0) (.lit 4)) (.aC (.var 0) (.lit 5)))
  (.fin {lo:=71,az:=4,iv:=[(137,yv 70),(132,yv 65),(131,yv 64),(130,yv 63),(129,yv 62),(128,yv 61),(127,yv 60),(126,yv 59),(124,yv 57),(123,yv 56),(120,yv 53),(119,yv 52),(136,yv 69),(117,yv 50),(116,yv 49),(114,yv 47),(112,yv 45),(111,yv 44),(110,yv 43),(109,yv 42),(107,yv 40),(106,yv 39),(105,yv 38),(104,yv 37),(102,.lit 0),(101,.lit 0),(100,.lit 0),(99,.lit 0),(97,.lit 0),(96,.lit 0),(95,.lit 0),(94,.lit 0),(93,.lit 24),(92,.lit 0),(91,.lit 0),(90,.lit 1),(89,.lit 3),(88,yv 21),(87,yv 20),(86,yv 19),(85,yv 18),(83,yv 16),(82,yv 15),(81,yv 14),(80,yv 13),(78,yv 11),(77,yv 10),(76,yv 9),(75,yv 8),(74,yv 7),(73,yv 6),(72,yv 5),(71,yv 4)],bv:=[(134,yw 67),(133,yw 66),(125,yw 58),(122,yw 55),(118,yw 51),(115,yw 48),(113,yw 46),(108,yw 41),(103,.lit false),(98,.lit false),(84,yw 17),(79,yw 12)],ct:=[(137,yu 70 59 7 yN 0),(136,yu 69 70 7 yN 0),(135,yu 68 49 5 yW 0),(121,yl 54 9 5 50 yW 0)],bk:=[(6,yc 3 7),(5,yc 2 7),(4,yc 1 5)]})
  (.fin {lo:=71,az:=4,iv:=[(132,.lit 0),(131,.lit 0),(130,.lit 0),(129,.lit 0),(128,yv 61),(127,yv 60),(126,yv 59),(124,yv 57),(123,yv 56),(120,.lit 0),(119,.lit 0),(117,.lit 0),(116,.lit 0),(114,.lit 0),(112,.lit 0),(111,.lit 0),(110,.lit 0),(109,.lit 0),(107,.lit 0),(106,.lit 0),(105,.lit 0),(104,.lit 0),(102,.lit 0),(101,.lit 0),(100,.lit 0),(99,.lit 0),(97,.lit 0),(96,.lit 0),(95,.lit 0),(94,.lit 0),(93,.lit 0),(92,.lit 0),(91,.lit 0),(90,.lit 0),(89,.lit 0),(88,.lit 0),(87,.lit 0),(86,.lit 0),(85,.lit 0),(83,.lit 0),(82,.lit 0),(81,.lit 0),(80,.lit 0),(78,.lit 0),(77,.lit 0),(76,.lit 0),(75,.lit 0),(74,.lit 0),(73,.lit 0),(72,.lit 0),(71,.lit 0)],bv:=[(134,.lit true),(133,.lit false),(125,yw 58),(122,yw 55),(118,.lit true),(115,.lit true),(113,.lit false),(108,.lit false),(103,.lit false),(98,.lit false),(84,.lit false),(79,.lit false)],ct:=[(137,yu 70 59 7 yN 0),(121,yl 54 9 5 50 yW 0)],bk:=[(6,yc 3 7)],nb:=[5,4,5,4]}))
 (.br (.aC (.var 4) (.lit 2))
  (.call 0 {lo:=0,az:=0,iv:=[(70,yv 70),(65,yv 65),(64,yv 64),(63,yv 63),(62,yv 62),(61,yv 61),(60,yv 60),(59,yv 59),(57,yv 57),(56,yv 56),(3,yv 3),(2,yv 2),(1,yv 1),(0,yv 0),(53,yv 53),(52,yv 52),(69,yv 69),(50,yv 50),(49,yv 49),(47,yv 47),(45,yv 45),(44,yv 44),(43,yv 43),(42,yv 42),(40,yv 40),(39,yv 39),(38,yv 38),(37,yv 37),(35,yv 35),(34,yv 34),(33,yv 33),(32,yv 32),(30,yv 30),(29,yv 29),(28,yv 28),(27,yv 27),(26,yv 26),(25,yv 25),(24,yv 24),(23,yv 23),(22,yv 22),(21,yv 21),(20,yv 20),(19,yv 19),(18,yv 18),(16,yv 16),(15,yv 15),(14,yv 14),(13,yv 13),(11,yv 11),(10,yv 10),(9,yv 9),(8,yv 8),(7,yv 7),(6,yv 6),(5,yv 5),(4,yv 4),(71,.lit 0)],bv:=[(67,yw 67),(66,yw 66),(58,yw 58),(55,yw 55),(51,yw 51),(48,yw 48),(46,yw 46),(41,yw 41),(36,yw 36),(31,yw 31),(17,yw 17),(12,yw 12)],ct:=[(70,yu 70 59 7 yN 0),(69,yu 69 70 7 yN 0),(68,yu 68 49 5 yW 0),(54,yl 54 9 5 50 yW 0)],bk:=[(3,yc 3 7),(2,yc 2 7),(1,yc 1 5),(0,yb 0)]} 71 <|
   .fin {lo:=71,az:=4,iv:=[(137,yv 137),(132,yv 132),(131,yv 131),(130,yv 130),(129,yv 129),(128,yv 128),(127,yv 127),(126,yv 126),(124,yv 124),(123,yv 123),(120,yv 120),(119,yv 119),(136,yv 136),(117,yv 117),(116,yv 116),(114,yv 114),(112,yv 112),(111,yv 111),(110,yv 110),(109,yv 109),(107,yv 107),(106,yv 106),(105,yv 105),(104,yv 104),(102,yv 102),(101,yv 101),(100,yv 100),(99,yv 99),(97,yv 97),(96,yv 96),(95,yv 95),(94,yv 94),(93,yv 93),(92,yv 92),(91,yv 91),(90,yv 90),(89,yv 89),(88,yv 88),(87,yv 87),(86,yv 86),(85,yv 85),(83,yv 83),(82,yv 82),(81,yv 81),(80,yv 80),(78,yv 78),(77,yv 77),(76,yv 76),(75,yv 75),(74,yv 74),(73,yv 73),(72,yv 72),(71,yv 71)],bv:=[(134,yw 134),(133,yw 133),(125,yw 125),(122,yw 122),(118,yw 118),(115,yw 115),(113,yw 113),(108,yw 108),(103,yw 103),(98,yw 98),(84,yw 84),(79,yw 79)],ct:=[(137,yu 137 126 7 yN 0),(136,yu 136 137 7 yN 0),(135,yu 135 116 5 yW 0),(121,yl 121 9 5 50 yW 0)],bk:=[(6,yc 7 7),(5,yc 6 7),(4,yc 5 5)]})
  (.br (.aC (.var 4) (.lit 3))
   (.fin {lo:=71,az:=4,iv:=[(137,yv 70),(132,yv 65),(131,yv 64),(130,yv 63),(129,yv 62),(128,yv 61),(127,yv 60),(126,yv 59),(124,yv 57),(123,yv 56),(120,yv 53),(119,yv 52),(136,yv 69),(117,yv 50),(116,yv 49),(114,yv 47),(112,yv 45),(111,yv 44),(110,yv 43),(109,yv 42),(107,yv 40),(106,yv 39),(105,yv 38),(104,yv 37),(102,.lit 0),(101,.lit 0),(100,.lit 0),(99,.lit 0),(97,.lit 0),(96,.lit 0),(95,.lit 0),(94,.lit 0),(93,yv 7),(92,yv 6),(91,yv 5),(90,.lit 1),(89,.lit 1),(88,yv 21),(87,yv 20),(86,yv 19),(85,yv 18),(83,yv 16),(82,yv 15),(81,yv 14),(80,yv 13),(78,yv 11),(77,yv 10),(76,yv 9),(75,yv 8),(74,yv 7),(73,yv 6),(72,yv 5),(71,yv 4)],bv:=[(134,yw 67),(133,yw 66),(125,yw 58),(122,yw 55),(118,yw 51),(115,yw 48),(113,yw 46),(108,yw 41),(103,.lit false),(98,.lit false),(84,yw 17),(79,yw 12)],ct:=[(137,yu 70 59 7 yN 0),(136,yu 69 70 7 yN 0),(135,yu 68 49 5 yW 0),(121,yl 54 9 5 50 yW 0)],bk:=[(6,yc 3 7),(5,yc 2 7),(4,yc 1 5)]})
   (.br (.aC (.var 4) (.lit 4))
    (.fin {lo:=71,az:=4,iv:=[(137,yv 70),(132,yv 65),(131,yv 64),(130,yv 63),(129,yv 62),(128,yv 61),(127,yv 60),(126,yv 59),(124,yv 57),(123,yv 56),(120,yv 53),(119,yv 52),(136,yv 69),(117,yv 50),(116,yv 49),(114,yv 47),(112,yv 45),(111,yv 44),(110,yv 43),(109,yv 42),(107,yv 40),(106,yv 39),(105,yv 38),(104,yv 37),(102,yv 16),(101,yv 15),(100,yv 14),(99,yv 13),(97,yv 11),(96,yv 10),(95,yv 9),(94,yv 8),(93,yv 7),(92,yv 6),(91,yv 5),(90,.lit 2),(89,.lit 1),(88,yv 21),(87,yv 20),(86,yv 19),(85,yv 18),(83,yv 16),(82,yv 15),(81,yv 14),(80,yv 13),(78,yv 11),(77,yv 10),(76,yv 9),(75,yv 8),(74,yv 7),(73,yv 6),(72,yv 5),(71,yv 4)],bv:=[(134,yw 67),(133,yw 66),(125,yw 58),(122,yw 55),(118,yw 51),(115,yw 48),(113,yw 46),(108,yw 41),(103,yw 17),(98,yw 12),(84,yw 17),(79,yw 12)],ct:=[(137,yu 70 59 7 yN 0),(136,yu 69 70 7 yN 0),(135,yu 68 49 5 yW 0),(121,yl 54 9 5 50 yW 0)],bk:=[(6,yc 3 7),(5,yc 2 7),(4,yc 1 5)]})
    (.br (.aC (.var 4) (.lit 5))
     (.fin {lo:=71,az:=4,iv:=[(137,yv 70),(132,yv 65),(131,yv 64),(130,yv 63),(129,yv 62),(128,yv 61),(127,yv 60),(126,yv 59),(124,yv 57),(123,yv 56),(120,yv 53),(119,yv 52),(136,yv 69),(117,yv 50),(116,yv 49),(114,yv 47),(112,yv 45),(111,yv 44),(110,yv 43),(109,yv 42),(107,yv 40),(106,yv 39),(105,yv 38),(104,yv 37),(102,yv 16),(101,yv 15),(100,yv 14),(99,yv 13),(97,yv 11),(96,yv 10),(95,yv 9),(94,yv 8),(93,yv 7),(92,yv 6),(91,yv 5),(90,.lit 3),(89,.lit 1),(88,yv 21),(87,yv 20),(86,yv 19),(85,yv 18),(83,yv 16),(82,yv 15),(81,yv 14),(80,yv 13),(78,yv 11),(77,yv 10),(76,yv 9),(75,yv 8),(74,yv 7),(73,yv 6),(72,yv 5),(71,yv 4)],bv:=[(134,yw 67),(133,yw 66),(125,yw 58),(122,yw 55),(118,yw 51),(115,yw 48),(113,yw 46),(108,yw 41),(103,yw 17),(98,yw 12),(84,yw 17),(79,yw 12)],ct:=[(137,yu 70 59 7 yN 0),(136,yu 69 70 7 yN 0),(135,yu 68 49 5 yW 0),(121,yl 54 9 5 50 yW 0)],bk:=[(6,yc 3 7),(5,yc 2 7),(4,yc 1 5)]})
     (.br (.aC (.var 4) (.lit 6))
      (.fin {lo:=71,az:=4,iv:=[(137,yv 70),(132,yv 65),(131,yv 64),(130,yv 63),(129,yv 62),(128,yv 61),(127,yv 60),(126,yv 59),(124,yv 57),(123,yv 56),(120,yv 53),(119,yv 52),(136,yv 69),(117,yv 50),(116,yv 49),(114,yv 47),(112,yv 45),(111,yv 44),(110,yv 43),(109,yv 42),(107,yv 40),(106,yv 39),(105,yv 38),(104,yv 37),(102,.lit 0),(101,.lit 0),(100,.lit 0),(99,.lit 0),(97,.lit 0),(96,.lit 0),(95,.lit 0),(94,.lit 0),(93,yv 7),(92,yv 6),(91,yv 5),(90,.lit 1),(89,.lit 5),(88,yv 21),(87,yv 20),(86,yv 19),(85,yv 18),(83,yv 16),(82,yv 15),(81,yv 14),(80,yv 13),(78,yv 11),(77,yv 10),(76,yv 9),(75,yv 8),(74,yv 7),(73,yv 6),(72,yv 5),(71,yv 4)],bv:=[(134,yw 67),(133,yw 66),(125,yw 58),(122,yw 55),(118,yw 51),(115,yw 48),(113,yw 46),(108,yw 41),(103,.lit false),(98,.lit false),(84,yw 17),(79,yw 12)],ct:=[(137,yu 70 59 7 yN 0),(136,yu 69 70 7 yN 0),(135,yu 68 49 5 yW 0),(121,yl 54 9 5 50 yW 0)],bk:=[(6,yc 3 7),(5,yc 2 7),(4,yc 1 5)]})
      (.br (.aC (.var 4) (.lit 7))
       (.ob (.or (.not (.or (.aC (.var 0) (.lit 2)) (.aC (.var 0) (.lit 3)))) (.aA (.lit 0) (.var 18))) <|
        .ob (.or (.not (.or (.aC (.var 0) (.lit 2)) (.aC (.var 0) (.lit 3)))) (.bQ (.var 18) (.lit 9))) <|
        .ob (.or (.not (.or (.aC (.var 0) (.lit 2)) (.aC (.var 0) (.lit 3)))) (.aA (.lit 0) (.var 19))) <|
        .ob (.or (.not (.or (.aC (.var 0) (.lit 2)) (.aC (.var 0) (.lit 3)))) (.bQ (.var 19) (.lit 9))) <|
        .br (.and (.or (.aC (.var 0) (.lit 2)) (.aC (.var 0) (.lit 3))) (.not (.and (.aC (.cell 54 (.var 18) (.lit 0) 0) (.cell 54 (.var 19) (.lit 0) 0)) (.and (.aC (.cell 54 (.var 18) (.lit 0) 1) (.cell 54 (.var 19) (.lit 0) 1)) (.and (.aC (.cell 54 (.var 18) (.lit 0) 2) (.cell 54 (.var 19) (.lit 0) 2)) (.and (.aC (.cell 54 (.var 18) (.lit 0) 3) (.cell 54 (.var 19) (.lit 0) 3)) (.beq (.cell 54 (.var 18) (.lit 0) 4) (.cell 54 (.var 19) (.lit 0) 4))))))))
        (.ob (.aA (.lit 0) (.var 19)) <|
         .ob (.bQ (.var 19) (.lit 9)) <|
         .ob (.aA (.lit 0) (.var 18)) <|
         .ob (.bQ (.var 18) (.lit 9)) <|
         .call 1 {lo:=0,az:=0,iv:=[(1,yv 18),(0,yv 1)]} 71 <|
         .fin {lo:=71,az:=4,iv:=[(137,yv 70),(132,yv 65),(131,yv 64),(130,yv 63),(129,yv 62),(128,yv 61),(127,yv 60),(126,yv 59),(124,yv 57),(123,yv 56),(120,yv 53),(119,yv 52),(136,yv 69),(117,yv 50),(116,yv 49),(114,yv 47),(112,yv 45),(111,yv 44),(110,yv 43),(109,yv 42),(107,yv 40),(106,yv 39),(105,yv 38),(104,yv 37),(102,.cell 54 (.var 19) (.lit 0) 3),(101,.cell 54 (.var 19) (.lit 0) 2),(100,.cell 54 (.var 19) (.lit 0) 1),(99,.cell 54 (.var 19) (.lit 0) 0),(97,.lit 0),(96,.lit 0),(95,.lit 0),(94,.lit 0),(93,.add (.add (.lit 25) (.mul (.var 1) (.lit 9))) (.var 18)),(92,.lit 0),(91,.lit 0),(90,.lit 2),(89,.lit 2),(88,yv 21),(87,yv 20),(86,yv 19),(85,yv 18),(83,yv 16),(82,yv 15),(81,yv 14),(80,yv 13),(78,yv 11),(77,yv 10),(76,yv 9),(75,yv 8),(74,yv 7),(73,yv 6),(72,yv 5),(71,yv 4)],bv:=[(134,yw 67),(133,yw 66),(125,yw 58),(122,yw 55),(118,yw 51),(115,yw 48),(113,yw 46),(108,yw 41),(103,.cell 54 (.var 19) (.lit 0) 4),(98,.lit false),(84,yw 17),(79,yw 12)],ct:=[(137,yu 70 59 7 yN 0),(136,yu 69 70 7 yN 0),(135,yu 68 49 5 yW 0),(121,.up {r:=54,n1:=.lit 9,s1:=5,lo:=50,ks:=yW} 0 [⟨0,(.var 18),(.lit 0),4,.bool (.cell 54 (.var 19) (.lit 0) 4)⟩,⟨0,(.var 18),(.lit 0),3,.int .i64 (.cell 54 (.var 19) (.lit 0) 3)⟩,⟨0,(.var 18),(.lit 0),2,.int .i64 (.cell 54 (.var 19) (.lit 0) 2)⟩,⟨0,(.var 18),(.lit 0),1,.int .i64 (.cell 54 (.var 19) (.lit 0) 1)⟩,⟨0,(.var 18),(.lit 0),0,.int .i64 (.cell 54 (.var 19) (.lit 0) 0)⟩] (.lit 0))],bk:=[(6,yc 3 7),(5,yc 2 7),(4,yc 1 5)]})
        (.fin {lo:=71,az:=4,iv:=[(132,.lit 0),(131,.lit 0),(130,.lit 0),(129,.lit 0),(128,yv 61),(127,yv 60),(126,yv 59),(124,yv 57),(123,yv 56),(120,.lit 0),(119,.lit 0),(117,.lit 0),(116,.lit 0),(114,.lit 0),(112,.lit 0),(111,.lit 0),(110,.lit 0),(109,.lit 0),(107,.lit 0),(106,.lit 0),(105,.lit 0),(104,.lit 0),(102,.lit 0),(101,.lit 0),(100,.lit 0),(99,.lit 0),(97,.lit 0),(96,.lit 0),(95,.lit 0),(94,.lit 0),(93,.lit 0),(92,.lit 0),(91,.lit 0),(90,.lit 0),(89,.lit 0),(88,.lit 0),(87,.lit 0),(86,.lit 0),(85,.lit 0),(83,.lit 0),(82,.lit 0),(81,.lit 0),(80,.lit 0),(78,.lit 0),(77,.lit 0),(76,.lit 0),(75,.lit 0),(74,.lit 0),(73,.lit 0),(72,.lit 0),(71,.lit 0)],bv:=[(134,.lit true),(133,.lit false),(125,yw 58),(122,yw 55),(118,.lit true),(115,.lit true),(113,.lit false),(108,.lit false),(103,.lit false),(98,.lit false),(84,.lit false),(79,.lit false)],ct:=[(137,yu 70 59 7 yN 0),(121,yl 54 9 5 50 yW 0)],bk:=[(6,yc 3 7)],nb:=[5,4,5,4]}))
       (.br (.aC (.var 4) (.lit 8))
        (.br (.or (.aC (.var 0) (.lit 3)) (.aC (.var 0) (.lit 5)))
         (.fin {lo:=71,az:=4,iv:=[(137,yv 70),(132,yv 65),(131,yv 64),(130,yv 63),(129,yv 62),(128,yv 61),(127,yv 60),(126,yv 59),(124,yv 57),(123,yv 56),(120,yv 53),(119,yv 52),(136,yv 69),(117,yv 50),(116,yv 49),(114,yv 47),(112,yv 45),(111,yv 44),(110,yv 43),(109,yv 42),(107,yv 40),(106,yv 39),(105,yv 38),(104,yv 37),(102,.lit 0),(101,.lit 0),(100,.lit 0),(99,.lit 0),(97,.lit 0),(96,.lit 0),(95,.lit 0),(94,.lit 0),(93,.lit 24),(92,.lit 0),(91,.lit 0),(90,.lit 1),(89,.lit 8),(88,yv 21),(87,yv 20),(86,yv 19),(85,yv 18),(83,yv 16),(82,yv 15),(81,yv 14),(80,yv 13),(78,yv 11),(77,yv 10),(76,yv 9),(75,yv 8),(74,yv 7),(73,yv 6),(72,yv 5),(71,yv 4)],bv:=[(134,yw 67),(133,yw 66),(125,yw 58),(122,yw 55),(118,yw 51),(115,yw 48),(113,yw 46),(108,yw 41),(103,.lit false),(98,.lit false),(84,yw 17),(79,yw 12)],ct:=[(137,yu 70 59 7 yN 0),(136,yu 69 70 7 yN 0),(135,yu 68 49 5 yW 0),(121,yl 54 9 5 50 yW 0)],bk:=[(6,yc 3 7),(5,yc 2 7),(4,yc 1 5)]})
         (.fin {lo:=71,az:=4,iv:=[(137,yv 70),(132,yv 65),(131,yv 64),(130,yv 63),(129,yv 62),(128,yv 61),(127,yv 60),(126,yv 59),(124,yv 57),(123,yv 56),(120,yv 53),(119,yv 52),(136,yv 69),(117,yv 50),(116,yv 49),(114,yv 47),(112,yv 45),(111,yv 44),(110,yv 43),(109,yv 42),(107,yv 40),(106,yv 39),(105,yv 38),(104,yv 37),(102,.lit 0),(101,.lit 0),(100,.lit 0),(99,.lit 0),(97,.lit 0),(96,.lit 0),(95,.lit 0),(94,.lit 0),(93,.lit 0),(92,.lit 0),(91,.lit 0),(90,.lit 4),(89,.lit 1),(88,yv 21),(87,yv 20),(86,yv 19),(85,yv 18),(83,yv 16),(82,yv 15),(81,yv 14),(80,yv 13),(78,yv 11),(77,yv 10),(76,yv 9),(75,yv 8),(74,yv 7),(73,yv 6),(72,yv 5),(71,yv 4)],bv:=[(134,yw 67),(133,yw 66),(125,yw 58),(122,yw 55),(118,yw 51),(115,yw 48),(113,yw 46),(108,yw 41),(103,.lit false),(98,.lit false),(84,yw 17),(79,yw 12)],ct:=[(137,yu 70 59 7 yN 0),(136,yu 69 70 7 yN 0),(135,yu 68 49 5 yW 0),(121,yl 54 9 5 50 yW 0)],bk:=[(6,yc 3 7),(5,yc 2 7),(4,yc 1 5)]}))
        (.br (.aC (.var 4) (.lit 9))
         (.fin {lo:=71,az:=4,iv:=[(137,yv 70),(132,yv 65),(131,yv 64),(130,yv 63),(129,yv 62),(128,yv 61),(127,yv 60),(126,yv 59),(124,yv 57),(123,yv 56),(120,yv 53),(119,yv 52),(136,yv 69),(117,yv 50),(116,yv 49),(114,yv 47),(112,yv 45),(111,yv 44),(110,yv 43),(109,yv 42),(107,yv 40),(106,yv 39),(105,yv 38),(104,yv 37),(102,.lit 0),(101,.lit 0),(100,.lit 0),(99,.lit 0),(97,yv 11),(96,yv 10),(95,yv 9),(94,yv 8),(93,.lit 0),(92,.lit 0),(91,.lit 0),(90,.lit 5),(89,.lit 2),(88,yv 21),(87,yv 20),(86,yv 19),(85,yv 18),(83,yv 16),(82,yv 15),(81,yv 14),(80,yv 13),(78,yv 11),(77,yv 10),(76,yv 9),(75,yv 8),(74,yv 7),(73,yv 6),(72,yv 5),(71,yv 4)],bv:=[(134,yw 67),(133,yw 66),(125,yw 58),(122,yw 55),(118,yw 51),(115,yw 48),(113,yw 46),(108,yw 41),(103,.lit false),(98,yw 12),(84,yw 17),(79,yw 12)],ct:=[(137,yu 70 59 7 yN 0),(136,yu 69 70 7 yN 0),(135,yu 68 49 5 yW 0),(121,yl 54 9 5 50 yW 0)],bk:=[(6,yc 3 7),(5,yc 2 7),(4,yc 1 5)]})
         (.br (.aC (.var 4) (.lit 10))
          (.call 3 {lo:=0,az:=0,iv:=[(70,yv 70),(65,yv 65),(64,yv 64),(63,yv 63),(62,yv 62),(61,yv 61),(60,yv 60),(59,yv 59),(57,yv 57),(56,yv 56),(3,yv 3),(2,yv 2),(1,yv 1),(0,yv 0),(53,yv 53),(52,yv 52),(69,yv 69),(50,yv 50),(49,yv 49),(47,yv 47),(45,yv 45),(44,yv 44),(43,yv 43),(42,yv 42),(40,yv 40),(39,yv 39),(38,yv 38),(37,yv 37),(35,yv 35),(34,yv 34),(33,yv 33),(32,yv 32),(30,yv 30),(29,yv 29),(28,yv 28),(27,yv 27),(26,yv 26),(25,yv 25),(24,yv 24),(23,yv 23),(22,yv 22),(21,yv 21),(20,yv 20),(19,yv 19),(18,yv 18),(16,yv 16),(15,yv 15),(14,yv 14),(13,yv 13),(11,yv 11),(10,yv 10),(9,yv 9),(8,yv 8),(7,yv 7),(6,yv 6),(5,yv 5),(4,yv 4)],bv:=[(67,yw 67),(66,yw 66),(58,yw 58),(55,yw 55),(51,yw 51),(48,yw 48),(46,yw 46),(41,yw 41),(36,yw 36),(31,yw 31),(17,yw 17),(12,yw 12)],ct:=[(70,yu 70 59 7 yN 0),(69,yu 69 70 7 yN 0),(68,yu 68 49 5 yW 0),(54,yl 54 9 5 50 yW 0)],bk:=[(3,yc 3 7),(2,yc 2 7),(1,yc 1 5),(0,yb 0)]} 71 <|
           .fin {lo:=71,az:=4,iv:=[(137,yv 137),(132,yv 132),(131,yv 131),(130,yv 130),(129,yv 129),(128,yv 128),(127,yv 127),(126,yv 126),(124,yv 124),(123,yv 123),(120,yv 120),(119,yv 119),(136,yv 136),(117,yv 117),(116,yv 116),(114,yv 114),(112,yv 112),(111,yv 111),(110,yv 110),(109,yv 109),(107,yv 107),(106,yv 106),(105,yv 105),(104,yv 104),(102,yv 102),(101,yv 101),(100,yv 100),(99,yv 99),(97,yv 97),(96,yv 96),(95,yv 95),(94,yv 94),(93,yv 93),(92,yv 92),(91,yv 91),(90,yv 90),(89,yv 89),(88,yv 88),(87,yv 87),(86,yv 86),(85,yv 85),(83,yv 83),(82,yv 82),(81,yv 81),(80,yv 80),(78,yv 78),(77,yv 77),(76,yv 76),(75,yv 75),(74,yv 74),(73,yv 73),(72,yv 72),(71,yv 71)],bv:=[(134,yw 134),(133,yw 133),(125,yw 125),(122,yw 122),(118,yw 118),(115,yw 115),(113,yw 113),(108,yw 108),(103,yw 103),(98,yw 98),(84,yw 84),(79,yw 79)],ct:=[(137,yu 137 126 7 yN 0),(136,yu 136 137 7 yN 0),(135,yu 135 116 5 yW 0),(121,yl 121 9 5 50 yW 0)],bk:=[(6,yc 7 7),(5,yc 6 7),(4,yc 5 5)]})
          (.br (.aC (.var 4) (.lit 11))
           (.call 2 {lo:=0,az:=0,iv:=[(70,yv 70),(65,yv 65),(64,yv 64),(63,yv 63),(62,yv 62),(61,yv 61),(60,yv 60),(59,yv 59),(57,yv 57),(56,yv 56),(3,yv 3),(2,yv 2),(1,yv 1),(0,yv 0),(53,yv 53),(52,yv 52),(69,yv 69),(50,yv 50),(49,yv 49),(47,yv 47),(45,yv 45),(44,yv 44),(43,yv 43),(42,yv 42),(40,yv 40),(39,yv 39),(38,yv 38),(37,yv 37),(35,yv 35),(34,yv 34),(33,yv 33),(32,yv 32),(30,yv 30),(29,yv 29),(28,yv 28),(27,yv 27),(26,yv 26),(25,yv 25),(24,yv 24),(23,yv 23),(22,yv 22),(21,yv 21),(20,yv 20),(19,yv 19),(18,yv 18),(16,yv 16),(15,yv 15),(14,yv 14),(13,yv 13),(11,yv 11),(10,yv 10),(9,yv 9),(8,yv 8),(7,yv 7),(6,yv 6),(5,yv 5),(4,yv 4)],bv:=[(67,yw 67),(66,yw 66),(58,yw 58),(55,yw 55),(51,yw 51),(48,yw 48),(46,yw 46),(41,yw 41),(36,yw 36),(31,yw 31),(17,yw 17),(12,yw 12)],ct:=[(70,yu 70 59 7 yN 0),(69,yu 69 70 7 yN 0),(68,yu 68 49 5 yW 0),(54,yl 54 9 5 50 yW 0)],bk:=[(3,yc 3 7),(2,yc 2 7),(1,yc 1 5),(0,yb 0)]} 71 <|
            .fin {lo:=71,az:=4,iv:=[(137,yv 137),(132,yv 132),(131,yv 131),(130,yv 130),(129,yv 129),(128,yv 128),(127,yv 127),(126,yv 126),(124,yv 124),(123,yv 123),(120,yv 120),(119,yv 119),(136,yv 136),(117,yv 117),(116,yv 116),(114,yv 114),(112,yv 112),(111,yv 111),(110,yv 110),(109,yv 109),(107,yv 107),(106,yv 106),(105,yv 105),(104,yv 104),(102,yv 102),(101,yv 101),(100,yv 100),(99,yv 99),(97,yv 97),(96,yv 96),(95,yv 95),(94,yv 94),(93,yv 93),(92,yv 92),(91,yv 91),(90,yv 90),(89,yv 89),(88,yv 88),(87,yv 87),(86,yv 86),(85,yv 85),(83,yv 83),(82,yv 82),(81,yv 81),(80,yv 80),(78,yv 78),(77,yv 77),(76,yv 76),(75,yv 75),(74,yv 74),(73,yv 73),(72,yv 72),(71,yv 71)],bv:=[(134,yw 134),(133,yw 133),(125,yw 125),(122,yw 122),(118,yw 118),(115,yw 115),(113,yw 113),(108,yw 108),(103,yw 103),(98,yw 98),(84,yw 84),(79,yw 79)],ct:=[(137,yu 137 126 7 yN 0),(136,yu 136 137 7 yN 0),(135,yu 135 116 5 yW 0),(121,yl 121 9 5 50 yW 0)],bk:=[(6,yc 7 7),(5,yc 6 7),(4,yc 5 5)]})
           (.fin {lo:=71,az:=4,iv:=[(137,yv 70),(132,yv 65),(131,yv 64),(130,yv 63),(129,yv 62),(128,yv 61),(127,yv 60),(126,yv 59),(124,yv 57),(123,yv 56),(120,yv 53),(119,yv 52),(136,yv 69),(117,yv 50),(116,yv 49),(114,yv 47),(112,yv 45),(111,yv 44),(110,yv 43),(109,yv 42),(107,yv 40),(106,yv 39),(105,yv 38),(104,yv 37),(102,yv 35),(101,yv 34),(100,yv 33),(99,yv 32),(97,yv 30),(96,yv 29),(95,yv 28),(94,yv 27),(93,yv 26),(92,yv 25),(91,yv 24),(90,yv 23),(89,yv 22),(88,yv 21),(87,yv 20),(86,yv 19),(85,yv 18),(83,yv 16),(82,yv 15),(81,yv 14),(80,yv 13),(78,yv 11),(77,yv 10),(76,yv 9),(75,yv 8),(74,yv 7),(73,yv 6),(72,yv 5),(71,yv 4)],bv:=[(134,yw 67),(133,yw 66),(125,yw 58),(122,yw 55),(118,yw 51),(115,yw 48),(113,yw 46),(108,yw 41),(103,yw 36),(98,yw 31),(84,yw 17),(79,yw 12)],ct:=[(137,yu 70 59 7 yN 0),(136,yu 69 70 7 yN 0),(135,yu 68 49 5 yW 0),(121,yl 54 9 5 50 yW 0)],bk:=[(6,yc 3 7),(5,yc 2 7),(4,yc 1 5)]})))))))))))
theorem QD:exec tab R9 8000 [] (fV lJ.f lJ.nv [] lJ.gl lJ.hp lJ.args)=El:=by kernel_rfl
def zJ (ρ:Env):Prop:=bJ ρ 4∧vF ρ∧IQ ρ 4∧(0≤ρ.iv 18∧ρ.iv 18<9)∧0≤ρ.iv 19∧ρ.iv 19<9
def Br (ρ:Env):Prop:=bJ ρ 71∧ae ρ 0 71=(ae ρ 0 4).opened
set_option maxHeartbeats 4000000 in
theorem QE (ρ:Env) (hpre:zJ ρ.num):Sat Br LY [] ρ El:=by
 replace hpre:zJ ρ:=hpre
 obtain ⟨⟨o1,o2,o3⟩,hs,hf,⟨n1,n2⟩,m1,m2⟩:=hpre
 unfold El
 refine Sat.br (fun c1=>?_) (fun c1=>?_)
 ·simp only [Da] at c1
  have h0:(ae ρ 0 4).opened=if (ae ρ 0 4).bF then (ae ρ 0 4).era 3 else (ae ρ 0 4).done:=if_pos c1
  refine Sat.br (fun c=>?_) (fun c=>?_)
  ·simp only [Da] at c
   have hm:(ae ρ 0 4).opened=(ae ρ 0 4).era 3:=h0.trans (if_pos c)
   exact Sat.fin ⟨⟨(by first | exact o1 | exact o2 | exact o3 | exact aj rfl rfl | assumption),(by first | exact o2 | exact ⟨aj rfl rfl,Int.le_refl 0,.inl rfl⟩ | assumption),(by first | exact o1 | exact o2 | exact o3 | exact aj rfl rfl | assumption)⟩,Eq.trans (b:=(ae ρ 0 4).era 3) (RS.ext' rfl rfl rfl rfl rfl rfl bg bB rfl rfl rfl rfl bE rfl bz rfl rfl) (Eq.symm (hm))⟩
  ·simp only [Da] at c
   have hm:(ae ρ 0 4).opened=(ae ρ 0 4).done:=h0.trans (if_neg (fun h:ρ.iv 0=4∨ρ.iv 0=5=>by omega))
   exact Sat.fin ⟨⟨(by first | exact o1 | exact o2 | exact o3 | exact aj rfl rfl | assumption),(by first | exact o2 | exact ⟨aj rfl rfl,Int.le_refl 0,.inl rfl⟩ | assumption),(by first | exact o1 | exact o2 | exact o3 | exact aj rfl rfl | assumption)⟩,Eq.trans (b:=(ae ρ 0 4).done) (RS.ext' rfl rfl rfl rfl rfl rfl bg bB rfl rfl rfl rfl bE rfl bz rfl rfl) (Eq.symm (hm))⟩
 simp only [Da] at c1
 refine Sat.br (fun c2=>?_) (fun c2=>?_)
 ·simp only [Da] at c2
  have hm:(ae ρ 0 4).opened=(ae ρ 0 4).leave 0:=(if_neg c1).trans (if_pos c2)
  refine eB (c:=iM) rfl (ae ρ 0 4) ((ae ρ 0 4).leave 0) (by decide) (by decide) (jE rfl rfl rfl rfl) ⟨⟨o1,o2,o3⟩,hs,Int.le_refl 0,(show (0:Int)≤9 by decide)⟩ (RS.ext' rfl rfl rfl rfl rfl rfl bg bB rfl rfl rfl rfl bE rfl bz rfl rfl) (fun e hq hr=>⟨hq.1,by rw [←hr];exact hq.2⟩) (fun u=>(bJ u 71)∧ae u 0 71=(ae u 0 4).opened) (fun e h1 h2=>⟨h1,h2.trans hm.symm⟩) fun u hu=>?_
  obtain ⟨⟨o1,o2,o3⟩,hm⟩:=hu
  exact Sat.fin ⟨⟨(by first | exact o1 | exact o2 | exact o3 | exact aj rfl rfl | assumption),(by first | exact o2 | exact ⟨aj rfl rfl,Int.le_refl 0,.inl rfl⟩ | assumption),(by first | exact o1 | exact o2 | exact o3 | exact aj rfl rfl | assumption)⟩,Eq.trans (b:=(ae u 0 71)) (RS.ext' rfl rfl rfl rfl rfl rfl bg bB rfl rfl rfl rfl bE rfl bz rfl rfl) (Eq.symm (hm.symm))⟩
 simp only [Da] at c2
 refine Sat.br (fun c3=>?_) (fun c3=>?_)
 ·simp only [Da] at c3
  have hm:(ae ρ 0 4).opened=(ae ρ 0 4).load 1 (ρ.iv 5) (ρ.iv 6) (ρ.iv 7):=(if_neg c1).trans ((if_neg c2).trans (if_pos c3))
  exact Sat.fin ⟨⟨(by first | exact o1 | exact o2 | exact o3 | exact aj rfl rfl | assumption),(by first | exact o2 | exact ⟨aj rfl rfl,Int.le_refl 0,.inl rfl⟩ | assumption),(by first | exact o1 | exact o2 | exact o3 | exact aj rfl rfl | assumption)⟩,Eq.trans (b:=(ae ρ 0 4).load 1 (ρ.iv 5) (ρ.iv 6) (ρ.iv 7)) (RS.ext' rfl rfl rfl rfl rfl rfl bg bB rfl rfl rfl rfl bE rfl bz rfl rfl) (Eq.symm (hm))⟩
 simp only [Da] at c3
 refine Sat.br (fun c4=>?_) (fun c4=>?_)
 ·simp only [Da] at c4
  have hm:(ae ρ 0 4).opened=(ae ρ 0 4).ask 1 ⟨2,ρ.iv 5,ρ.iv 6,ρ.iv 7,av ρ 8,av ρ 13⟩:=(if_neg c1).trans ((if_neg c2).trans ((if_neg c3).trans (if_pos c4)))
  exact Sat.fin ⟨⟨(by first | exact o1 | exact o2 | exact o3 | exact aj rfl rfl | assumption),(by first | exact o2 | exact ⟨aj rfl rfl,Int.le_refl 0,.inl rfl⟩ | assumption),(by first | exact o1 | exact o2 | exact o3 | exact aj rfl rfl | assumption)⟩,Eq.trans (b:=(ae ρ 0 4).ask 1 ⟨2,ρ.iv 5,ρ.iv 6,ρ.iv 7,av ρ 8,av ρ 13⟩) (RS.ext' rfl rfl rfl rfl rfl rfl bg bB rfl rfl rfl rfl bE rfl bz rfl rfl) (Eq.symm (hm))⟩
 simp only [Da] at c4
 refine Sat.br (fun c5=>?_) (fun c5=>?_)
 ·simp only [Da] at c5
  have hm:(ae ρ 0 4).opened=(ae ρ 0 4).ask 1 ⟨3,ρ.iv 5,ρ.iv 6,ρ.iv 7,av ρ 8,av ρ 13⟩:=(if_neg c1).trans ((if_neg c2).trans ((if_neg c3).trans ((if_neg c4).trans (if_pos c5))))
  exact Sat.fin ⟨⟨(by first | exact o1 | exact o2 | exact o3 | exact aj rfl rfl | assumption),(by first | exact o2 | exact ⟨aj rfl rfl,Int.le_refl 0,.inl rfl⟩ | assumption),(by first | exact o1 | exact o2 | exact o3 | exact aj rfl rfl | assumption)⟩,Eq.trans (b:=(ae ρ 0 4).ask 1 ⟨3,ρ.iv 5,ρ.iv 6,ρ.iv 7,av ρ 8,av ρ 13⟩) (RS.ext' rfl rfl rfl rfl rfl rfl bg bB rfl rfl rfl rfl bE rfl bz rfl rfl) (Eq.symm (hm))⟩
 simp only [Da] at c5
 refine Sat.br (fun c6=>?_) (fun c6=>?_)
 ·simp only [Da] at c6
  have hm:(ae ρ 0 4).opened=(ae ρ 0 4).load 5 (ρ.iv 5) (ρ.iv 6) (ρ.iv 7):=(if_neg c1).trans ((if_neg c2).trans ((if_neg c3).trans ((if_neg c4).trans ((if_neg c5).trans (if_pos c6)))))
  exact Sat.fin ⟨⟨(by first | exact o1 | exact o2 | exact o3 | exact aj rfl rfl | assumption),(by first | exact o2 | exact ⟨aj rfl rfl,Int.le_refl 0,.inl rfl⟩ | assumption),(by first | exact o1 | exact o2 | exact o3 | exact aj rfl rfl | assumption)⟩,Eq.trans (b:=(ae ρ 0 4).load 5 (ρ.iv 5) (ρ.iv 6) (ρ.iv 7)) (RS.ext' rfl rfl rfl rfl rfl rfl bg bB rfl rfl rfl rfl bE rfl bz rfl rfl) (Eq.symm (hm))⟩
 simp only [Da] at c6
 have hB:∀X:RS,(if ρ.iv 4=7 then (if (ae ρ 0 4).bf∧(ae ρ 0 4).holds (ρ.iv 18).toNat≠(ae ρ 0 4).holds (ρ.iv 19).toNat then (ae ρ 0 4).post 2 (ρ.iv 18) ((ae ρ 0 4).holds (ρ.iv 19).toNat) else (ae ρ 0 4).done)
     else if ρ.iv 4=8 then (if (ae ρ 0 4).bA then (ae ρ 0 4).era 8 else (ae ρ 0 4).ask 1 ⟨4,0,0,0,Wd.zero,Wd.zero⟩)
     else if ρ.iv 4=9 then (ae ρ 0 4).ask 2 ⟨5,0,0,0,av ρ 8,Wd.zero⟩ else if ρ.iv 4=10 then (ae ρ 0 4).fB else if ρ.iv 4=11 then (ae ρ 0 4).scan else ae ρ 0 4)=X→(ae ρ 0 4).opened=X :=
  fun X h=>((if_neg c1).trans ((if_neg c2).trans ((if_neg c3).trans ((if_neg c4).trans ((if_neg c5).trans (if_neg c6)))))).trans h
 refine Sat.br (fun c7=>?_) (fun c7=>?_)
 ·simp only [Da] at c7
  refine Sat.ob (by simp only [Da];omega) (Sat.ob (by simp only [Da];omega) (Sat.ob (by simp only [Da];omega) (Sat.ob (by simp only [Da];omega) (Sat.br (fun c=>?_) (fun c=>?_)))))
  ·simp only [Da] at c
   have hne:(ae ρ 0 4).holds (ρ.iv 18).toNat≠(ae ρ 0 4).holds (ρ.iv 19).toNat:=fun h=>by
    have h':=oH.1 h
    simp only [ae,aD] at h'
    simp_all
   have hm:(ae ρ 0 4).opened=(ae ρ 0 4).post 2 (ρ.iv 18) ((ae ρ 0 4).holds (ρ.iv 19).toNat):=hB _ ((if_pos c7).trans (if_pos ⟨c.1,hne⟩))
   refine Sat.ob (decide_eq_true m1) (Sat.ob (by simp only [Da];omega) (Sat.ob (decide_eq_true n1) (Sat.ob (by simp only [Da];omega) (Sat.gX (c:=fZ) rfl ⟨⟨hs.1,hs.2.1⟩,n1,n2⟩ (fun r=>((bJ r 4)∧0≤r.iv 18)∧(ae r 0 4).opened=(ae r 0 4).post 2 (r.iv 18) ((ae r 0 4).holds (r.iv 19).toNat)) (fun e _=>⟨⟨⟨o1,o2,o3⟩,n1⟩,hm⟩) fun r hr=>?_))))
   obtain ⟨⟨⟨o1,o2,o3⟩,i1⟩,hm⟩:=hr
   refine Sat.fin ⟨⟨(by first | exact o1 | exact o2 | exact o3 | exact aj rfl rfl | assumption),(by first | exact o2 | exact ⟨aj rfl rfl,Int.le_refl 0,.inl rfl⟩ | assumption),(by first | exact o1 | exact o2 | exact o3 | exact aj rfl rfl | assumption)⟩,Eq.trans (b:=(ae r 0 4).post 2 (r.iv 18) ((ae r 0 4).holds (r.iv 19).toNat)) (RS.ext' rfl rfl rfl rfl rfl rfl bg bB rfl rfl rfl rfl ?_ rfl bz rfl rfl) (Eq.symm (hm))⟩
   intro i
   show _=if i=(r.iv 18).toNat then aD (r.ic 54 (r.iv 19).toNat 0) (r.bc 54 (r.iv 19).toNat 0) else aD (r.ic 54 i 0) (r.bc 54 i 0)
   by_cases h:i=(r.iv 18).toNat
   ·subst h
    simp [ae,aD,Wd.eF,av,-Int.pred_toNat,Sub.af,assoc,CV.I,CV.B,ah,ai,aa.I,aa.B,SC.I,SC.B,IE.den,BE.den]
   ·simp [ae,aD,-Int.pred_toNat,Sub.af,assoc,CV.I,CV.B,ah,ai,aa.I,aa.B,SC.I,SC.B,IE.den,BE.den,h,Ne.symm h]
  ·simp only [Da] at c
   have he:¬((ae ρ 0 4).bf∧(ae ρ 0 4).holds (ρ.iv 18).toNat≠(ae ρ 0 4).holds (ρ.iv 19).toNat):=by
    rintro ⟨h1,h2⟩
    have h1:ρ.iv 0=2∨ρ.iv 0=3:=h1
    apply h2
    apply oH.2
    simp only [ae,aD]
    rcases c with c | c
    ·omega
    ·exact c
   have hm:(ae ρ 0 4).opened=(ae ρ 0 4).done:=hB _ ((if_pos c7).trans (if_neg he))
   exact Sat.fin ⟨⟨(by first | exact o1 | exact o2 | exact o3 | exact aj rfl rfl | assumption),(by first | exact o2 | exact ⟨aj rfl rfl,Int.le_refl 0,.inl rfl⟩ | assumption),(by first | exact o1 | exact o2 | exact o3 | exact aj rfl rfl | assumption)⟩,Eq.trans (b:=(ae ρ 0 4).done) (RS.ext' rfl rfl rfl rfl rfl rfl bg bB rfl rfl rfl rfl bE rfl bz rfl rfl) (Eq.symm (hm))⟩
 simp only [Da] at c7
 refine Sat.br (fun c8=>?_) (fun c8=>?_)
 ·simp only [Da] at c8
  refine Sat.br (fun c=>?_) (fun c=>?_)
  ·simp only [Da] at c
   have hm:(ae ρ 0 4).opened=(ae ρ 0 4).era 8:=hB _ ((if_neg c7).trans ((if_pos c8).trans (if_pos c)))
   exact Sat.fin ⟨⟨(by first | exact o1 | exact o2 | exact o3 | exact aj rfl rfl | assumption),(by first | exact o2 | exact ⟨aj rfl rfl,Int.le_refl 0,.inl rfl⟩ | assumption),(by first | exact o1 | exact o2 | exact o3 | exact aj rfl rfl | assumption)⟩,Eq.trans (b:=(ae ρ 0 4).era 8) (RS.ext' rfl rfl rfl rfl rfl rfl bg bB rfl rfl rfl rfl bE rfl bz rfl rfl) (Eq.symm (hm))⟩
  ·simp only [Da] at c
   have hm:(ae ρ 0 4).opened=(ae ρ 0 4).ask 1 ⟨4,0,0,0,Wd.zero,Wd.zero⟩:=hB _ ((if_neg c7).trans ((if_pos c8).trans (if_neg (fun h:ρ.iv 0=3∨ρ.iv 0=5=>by omega))))
   exact Sat.fin ⟨⟨(by first | exact o1 | exact o2 | exact o3 | exact aj rfl rfl | assumption),(by first | exact o2 | exact ⟨aj rfl rfl,Int.le_refl 0,.inl rfl⟩ | assumption),(by first | exact o1 | exact o2 | exact o3 | exact aj rfl rfl | assumption)⟩,Eq.trans (b:=(ae ρ 0 4).ask 1 ⟨4,0,0,0,Wd.zero,Wd.zero⟩) (RS.ext' rfl rfl rfl rfl rfl rfl bg bB rfl rfl rfl rfl bE rfl bz rfl rfl) (Eq.symm (hm))⟩
 simp only [Da] at c8
 refine Sat.br (fun c9=>?_) (fun c9=>?_)
 ·simp only [Da] at c9
  have hm:(ae ρ 0 4).opened=(ae ρ 0 4).ask 2 ⟨5,0,0,0,av ρ 8,Wd.zero⟩:=hB _ ((if_neg c7).trans ((if_neg c8).trans (if_pos c9)))
  exact Sat.fin ⟨⟨(by first | exact o1 | exact o2 | exact o3 | exact aj rfl rfl | assumption),(by first | exact o2 | exact ⟨aj rfl rfl,Int.le_refl 0,.inl rfl⟩ | assumption),(by first | exact o1 | exact o2 | exact o3 | exact aj rfl rfl | assumption)⟩,Eq.trans (b:=(ae ρ 0 4).ask 2 ⟨5,0,0,0,av ρ 8,Wd.zero⟩) (RS.ext' rfl rfl rfl rfl rfl rfl bg bB rfl rfl rfl rfl bE rfl bz rfl rfl) (Eq.symm (hm))⟩
 simp only [Da] at c9
 refine Sat.br (fun c10=>?_) (fun c10=>?_)
 ·simp only [Da] at c10
  have hm:(ae ρ 0 4).opened=(ae ρ 0 4).fB:=hB _ ((if_neg c7).trans ((if_neg c8).trans ((if_neg c9).trans (if_pos c10))))
  refine eB (c:=jm) rfl (ae ρ 0 4) (ae ρ 0 4).fB (by decide) (by decide) (jE rfl rfl rfl rfl) ⟨⟨o1,o2,o3⟩,hs,hf⟩ (RS.ext' rfl rfl rfl rfl rfl rfl bg bB rfl rfl rfl rfl bE rfl bz rfl rfl) (fun e hq hr=>⟨hq.1,by rw [←hr];exact hq.2⟩) (fun u=>(bJ u 71)∧ae u 0 71=(ae u 0 4).opened) (fun e h1 h2=>⟨h1,h2.trans hm.symm⟩) fun u hu=>?_
  obtain ⟨⟨o1,o2,o3⟩,hm⟩:=hu
  exact Sat.fin ⟨⟨(by first | exact o1 | exact o2 | exact o3 | exact aj rfl rfl | assumption),(by first | exact o2 | exact ⟨aj rfl rfl,Int.le_refl 0,.inl rfl⟩ | assumption),(by first | exact o1 | exact o2 | exact o3 | exact aj rfl rfl | assumption)⟩,Eq.trans (b:=(ae u 0 71)) (RS.ext' rfl rfl rfl rfl rfl rfl bg bB rfl rfl rfl rfl bE rfl bz rfl rfl) (Eq.symm (hm.symm))⟩
 simp only [Da] at c10
 refine Sat.br (fun c11=>?_) (fun c11=>?_)
 ·simp only [Da] at c11
  have hm:(ae ρ 0 4).opened=(ae ρ 0 4).scan:=hB _ ((if_neg c7).trans ((if_neg c8).trans ((if_neg c9).trans ((if_neg c10).trans (if_pos c11)))))
  refine eB (c:=jo) rfl (ae ρ 0 4) (ae ρ 0 4).scan (by decide) (by decide) (jE rfl rfl rfl rfl) ⟨⟨o1,o2,o3⟩,hs⟩ (RS.ext' rfl rfl rfl rfl rfl rfl bg bB rfl rfl rfl rfl bE rfl bz rfl rfl) (fun e hq hr=>⟨hq.1,by rw [←hr];exact hq.2⟩) (fun u=>(bJ u 71)∧ae u 0 71=(ae u 0 4).opened) (fun e h1 h2=>⟨h1,h2.trans hm.symm⟩) fun u hu=>?_
  obtain ⟨⟨o1,o2,o3⟩,hm⟩:=hu
  exact Sat.fin ⟨⟨(by first | exact o1 | exact o2 | exact o3 | exact aj rfl rfl | assumption),(by first | exact o2 | exact ⟨aj rfl rfl,Int.le_refl 0,.inl rfl⟩ | assumption),(by first | exact o1 | exact o2 | exact o3 | exact aj rfl rfl | assumption)⟩,Eq.trans (b:=(ae u 0 71)) (RS.ext' rfl rfl rfl rfl rfl rfl bg bB rfl rfl rfl rfl bE rfl bz rfl rfl) (Eq.symm (hm.symm))⟩
 ·simp only [Da] at c11
  have hm:(ae ρ 0 4).opened=ae ρ 0 4:=hB _ ((if_neg c7).trans ((if_neg c8).trans ((if_neg c9).trans ((if_neg c10).trans (if_neg c11)))))
  exact Sat.fin ⟨⟨(by first | exact o1 | exact o2 | exact o3 | exact aj rfl rfl | assumption),(by first | exact o2 | exact ⟨aj rfl rfl,Int.le_refl 0,.inl rfl⟩ | assumption),(by first | exact o1 | exact o2 | exact o3 | exact aj rfl rfl | assumption)⟩,Eq.trans (b:=(ae ρ 0 4)) (RS.ext' rfl rfl rfl rfl rfl rfl bg bB rfl rfl rfl rfl bE rfl bz rfl rfl) (Eq.symm (hm))⟩
theorem QG:bC Tryd.prog lJ zJ Br :=
 dJ fu (E:=R9) (cs:=LY) rfl TC di rfl QD (by kernel_rfl) (fun ρ _ p hp=>by cases hp) QE
end Go.Proofs.YthomdlajobnmnaaDoor
set_option linter.unusedSimpArgs false
set_option linter.unusedVariables false
namespace Go.Proofs.YthomdlajobnmnaaDoor
open Go.Rex
structure Lo where
 ak:Int
 me:Int
 threads:Int
 most:Int
 h:Nat→Wd
 s:Sp
 notes:List Nt
 freed:Int
namespace Lo
variable (l:Lo)
def bf:Prop:=l.ak=2∨l.ak=3
def bA:Prop:=l.ak=3∨l.ak=5
def bF:Prop:=l.ak=4∨l.ak=5
instance:Decidable l.bf:=by unfold bf;exact inferInstance
instance:Decidable l.bA:=by unfold bA;exact inferInstance
instance:Decidable l.bF:=by unfold bF;exact inferInstance
def hold (n:Int) (w:Wd):Lo:={l with h:=fun i=>if i=n.toNat then w else l.h i}
def all:Int:=if l.bf then l.threads * 9 else l.threads
def base:Int:=if l.bf then 25 else 79
end Lo
inductive RT where
 | idle (x:Rp)
 | one (a:Ac)
 | fin (a:Ac)
 | pJ
 | jD (i:Int)
 | gZ (c:Ca)
 | jA (c:Ca) (w:Wd)
 | gU (c:Ca) (a:Ac)
 | oJ
 | jB (old:Wd)
 | dW (old:Wd) (b:Int)
 | lq (clock:Wd)
 | lu
 | dE (clock:Wd) (seen:List Wd)
 | ji (clock:Wd)
 | gI
 | ib (d:Nt) (l:List Nt)
def Ac.load (slot gen field:Int):Ac:=⟨1,slot,gen,field,Wd.zero,Wd.zero⟩
def Ac.era:Ac:=Ac.load 0 0 24
def Ac.dS (clock:Wd):Ac:=⟨3,0,0,24,clock,⟨0,0,clock.tag+1,clock.num+1,false⟩⟩
def Ac.store (slot gen field:Int) (w:Wd):Ac:=⟨2,slot,gen,field,Wd.zero,w⟩
def RT.acc (l:Lo):RT→Ac
 | .idle _=>Ac.zero
 | .one a=>a
 | .fin a=>a
 | .pJ=>Ac.era
 | .jD i=>Ac.store 0 0 (25+l.me * 9+i) Wd.zero
 | .gZ c=>Ac.load c.slot c.gen c.field
 | .jA _ _=>Ac.era
 | .gU _ a=>a
 | .oJ=>Ac.era
 | .jB old=>Ac.load old.slot old.gen 9
 | .dW _ _=>Ac.era
 | .lq clock=>Ac.dS clock
 | .lu=>Ac.era
 | .dE _ seen=>Ac.load 0 0 (l.base+seen.length)
 | .ji clock=>Ac.dS clock
 | .gI=>Ac.era
 | .ib d _=>⟨5,0,0,0,d.ref,Wd.zero⟩
def RT.bO:RT→Int
 | .idle _=>0
 | .one _=>1
 | .fin _=>2
 | .pJ=>3
 | .jD _=>4
 | .gZ _=>5
 | .jA _ _=>6
 | .gU _ _=>7
 | .oJ=>8
 | .jB _=>9
 | .dW _ _=>10
 | .lq _=>11
 | .lu=>12
 | .dE _ _=>13
 | .ji _=>14
 | .gI=>15
 | .ib _ _=>16
def Rp.yes:Rp:=⟨Wd.zero,true⟩
abbrev LR:=Lo × RT
namespace RT
def ik (l:Lo) (s:Sp):Ac:=Ac.store 0 0 (79+l.me) (RS.ll s)
def leave (l:Lo) (start:Int):LR :=
 if l.bF∧l.s≠Sp.zero then ({l with s:=Sp.zero},.fin (ik l Sp.zero))
 else if l.bf then
  match RS.first l.h start.toNat (9-start.toNat) with
  | some n=>(l.hold n Wd.zero,.jD n)
  | none=>(l,.idle Rp.yes)
 else (l,.idle Rp.yes)
def scan (l:Lo):LR :=
 if l.ak=1 then (l,.idle Rp.yes)
 else if l.ak=4 then (l,.lu)
 else (l,.dE Wd.zero [])
def dn (l:Lo):LR:=if l.notes.length≥l.most then scan l else (l,.idle Rp.yes)
def note (l:Lo) (old:Wd) (b d:Int):Lo:={l with notes:=l.notes ++ [⟨old.eF,b,d⟩]}
def fB (l:Lo) (old:Wd):LR :=
 if l.ak=2 then dn (note l old 0 0)
 else if l.ak=4 then (l,.dW old 0)
 else if l.ak=3∨l.ak=5 then (l,.jB old)
 else (l,.idle Rp.yes)
def begin (l:Lo) (c:Ca):LR :=
 if c.kind=1 then (if l.bF then (l,.pJ) else (l,.idle Rp.yes))
 else if c.kind=2 then leave l 0
 else if c.kind=3 then (l,.one (Ac.load c.slot c.gen c.field))
 else if c.kind=4 then (l,.one ⟨2,c.slot,c.gen,c.field,c.old,c.new⟩)
 else if c.kind=5 then (l,.one ⟨3,c.slot,c.gen,c.field,c.old,c.new⟩)
 else if c.kind=6 then (l,.gZ c)
 else if c.kind=7 then (if l.bf∧l.h c.i.toNat≠l.h c.j.toNat then (l.hold c.i (l.h c.j.toNat),.fin (Ac.store 0 0 (25+l.me * 9+c.i) (l.h c.j.toNat))) else (l,.idle Rp.yes))
 else if c.kind=8 then (if l.bA then (l,.oJ) else (l,.one ⟨4,0,0,0,Wd.zero,Wd.zero⟩))
 else if c.kind=9 then (l,.fin ⟨5,0,0,0,c.old,Wd.zero⟩)
 else if c.kind=10 then fB l c.old
 else scan l
def cZ (l:Lo) (i now:Int):Prop :=
 if l.ak=3 then l.h i.toNat≠Wd.zero∧(l.h i.toNat).num=now
 else l.s.is=true∧l.s.high=now
instance (l:Lo) (i now:Int):Decidable (cZ l i now):=by unfold cZ;exact inferInstance
def kept (l:Lo) (clock:Wd) (seen:List Wd) (n:Nt):Bool :=
 if l.ak=2 then seen.any fun w=>RS.sI w n
 else if l.ak=3 then seen.any fun w=>RS.rO w.num n
 else if l.ak=5 then seen.any fun w=>RS.pF (RS.iP w) n
 else RS.nQ clock.num n
def eG (l:Lo):List Nt→LR
 | []=>(l,.idle Rp.yes)
 | d :: r=>(l,.ib d r)
def eY (l:Lo) (clock:Wd) (seen:List Wd):LR:=eG l (l.notes.filter fun n=>!kept l clock seen n)
def bq (l:Lo):RT→Rp→LR
 | .idle x,_=>(l,.idle x)
 | .one _,x=>(l,.idle x)
 | .fin _,_=>(l,.idle Rp.yes)
 | .pJ,x=>({l with s:=⟨true,x.word.num,x.word.num⟩},.fin (ik l ⟨true,x.word.num,x.word.num⟩))
 | .jD i,_=>leave l (i+1)
 | .gZ c,x =>
  if l.bA then (l,.jA c x.word)
  else if l.ak=2∧x.word.slot≠0∧l.h c.i.toNat≠x.word.eF then (l.hold c.i x.word.eF,.gU c (Ac.store 0 0 (25+l.me * 9+c.i) x.word.eF))
  else (l,.idle ⟨x.word,true⟩)
 | .jA c w,x =>
  if cZ l c.i x.word.num then (l,.idle ⟨w,true⟩)
  else if l.ak=3 then (l.hold c.i (Wd.eD x.word.num),.gU c (Ac.store 0 0 (25+l.me * 9+c.i) (Wd.eD x.word.num)))
  else ({l with s:=⟨true,if l.s.is=true then l.s.low else x.word.num,x.word.num⟩},.gU c (ik l ⟨true,if l.s.is=true then l.s.low else x.word.num,x.word.num⟩))
 | .gU c _,_=>(l,.gZ c)
 | .oJ,x=>(l,.one ⟨4,0,0,0,Wd.zero,Wd.eD x.word.num⟩)
 | .jB old,x=>(l,.dW old x.word.num)
 | .dW old b,x=>if l.bA then (note l old b x.word.num,.lq x.word) else dn (note l old b x.word.num)
 | .lq _,_=>dn l
 | .lu,x=>(l,.dE x.word [])
 | .dE clock seen,x =>
  if (seen.length:Int)+1<l.all then (l,.dE clock (seen ++ [x.word]))
  else if l.ak≠4 then eY l clock (seen ++ [x.word])
  else if RS.may clock.num ((seen ++ [x.word]).map RS.iP)=true then (l,.ji clock)
  else (l,.gI)
 | .ji _,_=>(l,.gI)
 | .gI,x=>eY l x.word []
 | .ib d r,_=>eG {l with notes:=l.notes.erase d,freed:=l.freed+1} r
end RT
structure iF (l:Lo) (t:RT) (r:RS):Prop where
 ak:r.ak=l.ak
 me:r.me=l.me
 threads:r.threads=l.threads
 most:r.most=l.most
 holds:r.holds=l.h
 span:r.span=l.s
 notes:r.notes=l.notes
 freed:r.freed=l.freed
 step:r.step=t.bO
 acc:t.bO≠0→r.acc=t.acc l
 more:match t with
  | .idle x=>r.gq=x
  | .jD i=>r.index=i
  | .gZ c=>r.call=c
  | .jA c w=>r.call=c∧r.word=w
  | .gU c _=>r.call=c
  | .jB old=>r.call.old=old∧r.seen=[]
  | .dW old b=>r.call.old=old∧r.word.num=b∧r.seen=[]
  | .lq _=>r.seen=[]
  | .lu=>r.seen=[]
  | .dE clock seen=>(l.ak=4→r.clock=clock)∧r.seen=seen∧r.index=seen.length
  | .ib d rest=>r.bI=d :: rest
  | _=>True
structure Lo.OK (l:Lo):Prop where
 ak:1≤l.ak∧l.ak≤5
 me:0≤l.me∧l.me<l.threads
 threads:1≤l.threads∧l.threads≤6
 most:1≤l.most
section
variable {l:Lo} {r:RS}
theorem iF.bf {t:RT} (h:iF l t r):r.bf↔l.bf:=by simp only [RS.bf,Lo.bf,h.ak]
theorem iF.bA {t:RT} (h:iF l t r):r.bA↔l.bA:=by simp only [RS.bA,Lo.bA,h.ak]
theorem iF.bF {t:RT} (h:iF l t r):r.bF↔l.bF:=by simp only [RS.bF,Lo.bF,h.ak]
end
structure bS (l:Lo) (r:RS):Prop where
 ak:r.ak=l.ak
 me:r.me=l.me
 threads:r.threads=l.threads
 most:r.most=l.most
 holds:r.holds=l.h
 span:r.span=l.s
 notes:r.notes=l.notes
 freed:r.freed=l.freed
theorem iF.keeps {l:Lo} {t:RT} {r:RS} (h:iF l t r):bS l r:=⟨h.ak,h.me,h.threads,h.most,h.holds,h.span,h.notes,h.freed⟩
section
variable {l:Lo} {r:RS}
theorem bS.bf (h:bS l r):r.bf↔l.bf:=by simp only [RS.bf,Lo.bf,h.ak]
theorem bS.bA (h:bS l r):r.bA↔l.bA:=by simp only [RS.bA,Lo.bA,h.ak]
theorem bS.bF (h:bS l r):r.bF↔l.bF:=by simp only [RS.bF,Lo.bF,h.ak]
theorem bS.fin (h:bS l r) (x:Rp):iF l (.idle x) (r.finish x) :=
 ⟨h.ak,h.me,h.threads,h.most,h.holds,h.span,h.notes,h.freed,rfl,fun h=>absurd rfl h,rfl⟩
theorem bS.done (h:bS l r):iF l (.idle Rp.yes) r.done:=h.fin _
theorem bS.ask (h:bS l r) {t:RT} {a:Ac} (h0:t.bO≠0) (ha:a=t.acc l) (hm:match t with
    | .idle x=>r.gq=x
    | .jD i=>r.index=i
    | .gZ c=>r.call=c
    | .jA c w=>r.call=c∧r.word=w
    | .gU c _=>r.call=c
    | .jB old=>r.call.old=old∧r.seen=[]
    | .dW old b=>r.call.old=old∧r.word.num=b∧r.seen=[]
    | .lq _=>r.seen=[]
    | .lu=>r.seen=[]
    | .dE clock seen=>(l.ak=4→r.clock=clock)∧r.seen=seen∧r.index=seen.length
    | .ib d rest=>r.bI=d :: rest
    | _=>True):iF l t (r.ask t.bO a):=by
 refine ⟨h.ak,h.me,h.threads,h.most,h.holds,h.span,h.notes,h.freed,rfl,fun _=>ha,?_⟩
 cases t <;> exact hm
theorem bS.hold (h:bS l r) (n:Int) (w:Wd):bS (l.hold n w) (r.hold n w) :=
 ⟨h.ak,h.me,h.threads,h.most,by simp only [RS.hold,Lo.hold,h.holds],h.span,h.notes,h.freed⟩
theorem bS.leave (h:bS l r) (n:Int):iF (RT.leave l n).1 (RT.leave l n).2 (r.leave n):=by
 have c1:(r.bF∧r.span≠Sp.zero)↔(l.bF∧l.s≠Sp.zero):=by rw [h.bF,h.span]
 unfold RS.leave RT.leave
 by_cases hA:l.bF∧l.s≠Sp.zero
 ·rw [if_pos (c1.2 hA),if_pos hA]
  refine bS.ask (l:={l with s:=Sp.zero}) (r:={r with span:=Sp.zero}) (t:=.fin (RT.ik l Sp.zero)) ⟨h.ak,h.me,h.threads,h.most,h.holds,rfl,h.notes,h.freed⟩ (show (2:Int)≠0 by decide) ?_ trivial
  show (⟨2,0,0,79+r.me,Wd.zero,RS.ll Sp.zero⟩:Ac)=_
  rw [h.me];rfl
 ·rw [if_neg (fun x=>hA (c1.1 x)),if_neg hA]
  by_cases hB:l.bf
  ·rw [if_pos (h.bf.2 hB),if_pos hB]
   have e:RS.first r.holds n.toNat (9-n.toNat)=RS.first l.h n.toNat (9-n.toNat):=by rw [h.holds]
   rw [e]
   cases RS.first l.h n.toNat (9-n.toNat) with
   | some k =>
    refine bS.ask (l:=l.hold k Wd.zero) (r:=({r with index:=k}:RS).hold k Wd.zero) (t:=.jD k) (bS.hold (r:={r with index:=k}) ⟨h.ak,h.me,h.threads,h.most,h.holds,h.span,h.notes,h.freed⟩ _ _) (show (4:Int)≠0 by decide) ?_ rfl
    show (⟨2,0,0,25+r.me * 9+k,Wd.zero,Wd.zero⟩:Ac)=_
    rw [h.me];rfl
   | none=>exact h.done
  ·rw [if_neg (fun x=>hB (h.bf.1 x)),if_neg hB]
   exact h.done
theorem bS.look (h:bS l r) (n:Int) {clock:Wd} {seen:List Wd} (hn:n=seen.length) (hc:l.ak=4→r.clock=clock) (hs:r.seen=seen) :
  if n<l.all then ∃q,r.look n=some q∧iF l (.dE clock seen) q else r.look n=none:=by
 unfold RS.look Lo.all
 by_cases hB:l.bf
 ·rw [if_pos hB,if_pos (h.bf.2 hB)]
  have ht:=h.threads
  by_cases hn':n<l.threads * 9
  ·rw [if_pos hn',if_neg (by omega)]
   refine ⟨_,rfl,⟨h.ak,h.me,h.threads,h.most,h.holds,h.span,h.notes,h.freed,rfl,fun _=>?_,hc,hs,hn⟩⟩
   show (⟨1,0,0,25+n,Wd.zero,Wd.zero⟩:Ac)=Ac.load 0 0 (l.base+seen.length)
   rw [hn,Lo.base,if_pos hB];rfl
  ·rw [if_neg hn',if_pos (by omega)]
 ·rw [if_neg hB,if_neg (fun x=>hB (h.bf.1 x))]
  have ht:=h.threads
  by_cases hn':n<l.threads
  ·rw [if_pos hn',if_neg (by omega)]
   refine ⟨_,rfl,⟨h.ak,h.me,h.threads,h.most,h.holds,h.span,h.notes,h.freed,rfl,fun _=>?_,hc,hs,hn⟩⟩
   show (⟨1,0,0,79+n,Wd.zero,Wd.zero⟩:Ac)=Ac.load 0 0 (l.base+seen.length)
   rw [hn,Lo.base,if_neg hB];rfl
  ·rw [if_neg hn',if_pos (by omega)]
theorem Lo.OK.all {l:Lo} (h:l.OK):0<l.all:=by
 have:=h.threads
 unfold Lo.all
 split <;> omega
theorem bS.Sa (h:bS l r) (ho:l.OK) {clock:Wd} (hc:l.ak=4→r.clock=clock) (hs:r.seen=[]):iF l (.dE clock []) ((r.look 0).getD r):=by
 have:=h.look 0 (clock:=clock) (seen:=[]) rfl hc hs
 rw [if_pos ho.all] at this
 obtain ⟨q,h1,h2⟩:=this
 rw [h1]
 exact h2
theorem bS.scan (h:bS l r) (ho:l.OK) (hs:r.seen=[]):iF (RT.scan l).1 (RT.scan l).2 r.scan:=by
 unfold RS.scan RT.scan
 rw [h.ak]
 by_cases h1:l.ak=1
 ·rw [if_pos h1,if_pos h1];exact h.done
 ·rw [if_neg h1,if_neg h1]
  by_cases h4:l.ak=4
  ·rw [if_pos h4,if_pos h4]
   exact h.ask (t:=.lu) (show (12:Int)≠0 by decide) rfl hs
  ·rw [if_neg h4,if_neg h4]
   exact h.Sa ho (fun h=>absurd h h4) hs
theorem bS.dn (h:bS l r) (ho:l.OK) (hs:r.seen=[]):iF (RT.dn l).1 (RT.dn l).2 r.dn:=by
 unfold RS.dn RT.dn
 rw [h.notes,h.most]
 split
 ·exact h.scan ho hs
 ·exact h.done
theorem bS.note (h:bS l r) (b d:Int):bS (RT.note l r.call.old b d) (r.note b d) :=
 ⟨h.ak,h.me,h.threads,h.most,h.holds,h.span,by simp only [RS.note,RT.note,h.notes],h.freed⟩
theorem Lo.OK.note {l:Lo} (h:l.OK) (w:Wd) (b d:Int):(RT.note l w b d).OK:=⟨h.ak,h.me,h.threads,h.most⟩
theorem bS.fB (h:bS l r) (ho:l.OK) (hs:r.seen=[]) (hw:r.word.num=0):iF (RT.fB l r.call.old).1 (RT.fB l r.call.old).2 r.fB:=by
 unfold RS.fB RT.fB
 rw [h.ak]
 by_cases h2:l.ak=2
 ·rw [if_pos h2,if_pos h2]
  exact (h.note 0 0).dn (ho.note _ _ _) hs
 rw [if_neg h2,if_neg h2]
 by_cases h4:l.ak=4
 ·rw [if_pos h4,if_pos h4]
  exact h.ask (t:=.dW r.call.old 0) (show (10:Int)≠0 by decide) rfl ⟨rfl,hw,hs⟩
 rw [if_neg h4,if_neg h4]
 by_cases Ko:l.ak=3∨l.ak=5
 ·rw [if_pos Ko,if_pos Ko]
  exact h.ask (t:=.jB r.call.old) (show (9:Int)≠0 by decide) rfl ⟨rfl,hs⟩
 rw [if_neg Ko,if_neg Ko]
 exact h.done
def Ca.OK (c:Ca):Prop:=1≤c.kind∧c.kind≤11∧0≤c.i∧c.i<9∧0≤c.j∧c.j<9
theorem bS.opened (h:bS l r) (ho:l.OK) (hs:r.seen=[]) (hw:r.word.num=0) (hc:r.call.OK):iF (RT.begin l r.call).1 (RT.begin l r.call).2 r.opened:=by
 unfold RS.opened RT.begin
 simp only
 by_cases k1:r.call.kind=1
 ·rw [if_pos k1,if_pos k1]
  by_cases g:l.bF
  ·rw [if_pos g,if_pos (h.bF.2 g)]
   exact h.ask (t:=.pJ) (show (3:Int)≠0 by decide) rfl trivial
  ·rw [if_neg g,if_neg (fun x=>g (h.bF.1 x))]
   exact h.done
 rw [if_neg k1,if_neg k1]
 by_cases k2:r.call.kind=2
 ·rw [if_pos k2,if_pos k2]
  exact h.leave 0
 rw [if_neg k2,if_neg k2]
 by_cases k3:r.call.kind=3
 ·rw [if_pos k3,if_pos k3]
  exact h.ask (t:=.one (Ac.load r.call.slot r.call.gen r.call.field)) (show (1:Int)≠0 by decide) rfl trivial
 rw [if_neg k3,if_neg k3]
 by_cases k4:r.call.kind=4
 ·rw [if_pos k4,if_pos k4]
  exact h.ask (t:=.one ⟨2,r.call.slot,r.call.gen,r.call.field,r.call.old,r.call.new⟩) (show (1:Int)≠0 by decide) rfl trivial
 rw [if_neg k4,if_neg k4]
 by_cases k5:r.call.kind=5
 ·rw [if_pos k5,if_pos k5]
  exact h.ask (t:=.one ⟨3,r.call.slot,r.call.gen,r.call.field,r.call.old,r.call.new⟩) (show (1:Int)≠0 by decide) rfl trivial
 rw [if_neg k5,if_neg k5]
 by_cases k6:r.call.kind=6
 ·rw [if_pos k6,if_pos k6]
  exact h.ask (t:=.gZ r.call) (show (5:Int)≠0 by decide) rfl rfl
 rw [if_neg k6,if_neg k6]
 by_cases k7:r.call.kind=7
 ·rw [if_pos k7,if_pos k7]
  have e:(r.bf∧r.holds r.call.i.toNat≠r.holds r.call.j.toNat)↔(l.bf∧l.h r.call.i.toNat≠l.h r.call.j.toNat):=by rw [h.bf,h.holds]
  by_cases g:l.bf∧l.h r.call.i.toNat≠l.h r.call.j.toNat
  ·rw [if_pos g,if_pos (e.2 g)]
   have h':=h.hold r.call.i (l.h r.call.j.toNat)
   have e2:r.post 2 r.call.i (r.holds r.call.j.toNat)=(r.hold r.call.i (l.h r.call.j.toNat)).ask 2 ⟨2,0,0,25+l.me * 9+r.call.i,Wd.zero,l.h r.call.j.toNat⟩:=by
    unfold RS.post
    rw [h.holds,h.me]
   rw [e2]
   exact h'.ask (t:=.fin (Ac.store 0 0 (25+l.me * 9+r.call.i) (l.h r.call.j.toNat))) (show (2:Int)≠0 by decide) rfl trivial
  ·rw [if_neg g,if_neg (fun x=>g (e.1 x))]
   exact h.done
 rw [if_neg k7,if_neg k7]
 by_cases k8:r.call.kind=8
 ·rw [if_pos k8,if_pos k8]
  by_cases g:l.bA
  ·rw [if_pos g,if_pos (h.bA.2 g)]
   exact h.ask (t:=.oJ) (show (8:Int)≠0 by decide) rfl trivial
  ·rw [if_neg g,if_neg (fun x=>g (h.bA.1 x))]
   exact h.ask (t:=.one ⟨4,0,0,0,Wd.zero,Wd.zero⟩) (show (1:Int)≠0 by decide) rfl trivial
 rw [if_neg k8,if_neg k8]
 by_cases k9:r.call.kind=9
 ·rw [if_pos k9,if_pos k9]
  exact h.ask (t:=.fin ⟨5,0,0,0,r.call.old,Wd.zero⟩) (show (2:Int)≠0 by decide) rfl trivial
 rw [if_neg k9,if_neg k9]
 by_cases k10:r.call.kind=10
 ·rw [if_pos k10,if_pos k10]
  exact h.fB ho hs hw
 rw [if_neg k10,if_neg k10,if_pos (by have:=hc.1;have:=hc.2.1;omega)]
 exact h.scan ho hs
theorem iF.begin {x:Rp} (h:iF l (.idle x) r) (ho:l.OK) {c:Ca} (hc:c.OK):iF (RT.begin l c).1 (RT.begin l c).2 (r.begin c).1∧(r.begin c).2=true:=by
 have hs:r.step=0:=h.step
 unfold RS.begin
 obtain ⟨c1,c2,c3,c4,c5,c6⟩:=hc
 rw [if_neg (by omega),if_neg (by omega),if_neg (by omega)]
 exact ⟨bS.opened (r:={r with call:=c,step:=0,acc:=Ac.zero,word:=Wd.zero,clock:=Wd.zero,index:=0,seen:=[],bI:=[]}) ⟨h.ak,h.me,h.threads,h.most,h.holds,h.span,h.notes,h.freed⟩ ho rfl rfl ⟨c1,c2,c3,c4,c5,c6⟩,rfl⟩
theorem bS.dY (h:bS l r) (s:Sp) {t:RT} (ht:t=.fin (RT.ik l s)∨∃c,t=.gU c (RT.ik l s)∧r.call=c):iF {l with s:=s} t (r.dY t.bO s):=by
 have h':bS {l with s:=s} {r with span:=s}:=⟨h.ak,h.me,h.threads,h.most,h.holds,rfl,h.notes,h.freed⟩
 have e:(⟨2,0,0,79+r.me,Wd.zero,RS.ll s⟩:Ac)=RT.ik l s:=by rw [h.me];rfl
 unfold RS.dY
 rw [e]
 rcases ht with rfl | ⟨c,rfl,hc⟩
 ·exact h'.ask (t:=.fin (RT.ik l s)) (show (2:Int)≠0 by decide) rfl trivial
 ·exact h'.ask (t:=.gU c (RT.ik l s)) (show (7:Int)≠0 by decide) rfl hc
theorem bS.eG (h:bS l r):iF (RT.eG l r.bI).1 (RT.eG l r.bI).2 r.eG:=by
 unfold RS.eG RT.eG
 cases hd:r.bI with
 | nil=>exact h.done
 | cons d q=>exact h.ask (t:=.ib d q) (show (16:Int)≠0 by decide) rfl hd
theorem bS.eY (h:bS l r) (ho:l.OK) (h1:l.ak≠1) {clock:Wd} {seen:List Wd} (hc:l.ak=4→r.clock=clock) (hs:r.seen=seen∨l.ak=4):iF (RT.eY l clock seen).1 (RT.eY l clock seen).2 r.eY:=by
 have ho1:=ho.ak
 unfold RS.eY RT.eY
 rw [if_pos (by rw [h.ak];omega)]
 have e:(r.notes.filter fun n=>!r.kept n)=l.notes.filter fun n=>!RT.kept l clock seen n:=by
  rw [h.notes]
  congr 1
  funext n
  congr 1
  unfold RS.kept RT.kept
  rw [h.ak]
  split
  ·rename_i e;rcases hs with hs | hs
   ·rw [hs]
   ·omega
  split
  ·rcases hs with hs | hs
   ·rw [hs]
   ·omega
  split
  ·rcases hs with hs | hs
   ·rw [hs]
   ·omega
  rw [if_pos (by omega),hc (by omega)]
 have:=bS.eG (l:=l) (r:={r with bI:=r.notes.filter fun n=>!r.kept n}) ⟨h.ak,h.me,h.threads,h.most,h.holds,h.span,h.notes,h.freed⟩
 rw [e] at this
 rw [e]
 exact this
def RT.fits (l:Lo):RT→Prop
 | .jA _ _=>l.bA
 | .lu | .ji _ | .gI=>l.ak=4
 | .dE _ _=>l.ak≠1
 | .gZ c | .gU c _=>0≤c.i∧c.i<9
 | _=>True
theorem iF.bq {t:RT} (h:iF l t r) (ho:l.OK) (hf:t.fits l) (h0:t.bO≠0) (x:Rp):iF (RT.bq l t x).1 (RT.bq l t x).2 (r.bq x).1∧(r.bq x).2=true:=by
 have hk:=h.keeps
 have hs:=h.step
 have hm:=h.more
 unfold RS.bq
 cases t with
 | idle y=>exact absurd rfl h0
 | one a =>
  replace hs:r.step=1:=hs
  rw [if_neg (by omega),if_pos hs]
  exact ⟨hk.fin x,rfl⟩
 | fin a =>
  replace hs:r.step=2:=hs
  rw [if_neg (by omega),if_neg (by omega),if_pos hs]
  exact ⟨hk.done,rfl⟩
 | pJ =>
  replace hs:r.step=3:=hs
  rw [if_neg (by omega),if_neg (by omega),if_neg (by omega),if_pos hs]
  exact ⟨hk.dY _ (t:=.fin _) (.inl rfl),rfl⟩
 | jD i =>
  replace hs:r.step=4:=hs
  replace hm:r.index=i:=hm
  rw [if_neg (by omega),if_neg (by omega),if_neg (by omega),if_neg (by omega),if_pos hs,hm]
  exact ⟨hk.leave _,rfl⟩
 | oJ =>
  replace hs:r.step=8:=hs
  rw [if_neg (by omega),if_neg (by omega),if_neg (by omega),if_neg (by omega),if_neg (by omega),if_pos hs]
  exact ⟨hk.ask (t:=.one _) (show (1:Int)≠0 by decide) rfl trivial,rfl⟩
 | gU c a =>
  replace hs:r.step=7:=hs
  replace hm:r.call=c:=hm
  subst hm
  rw [if_neg (by omega),if_neg (by omega),if_neg (by omega),if_neg (by omega),if_neg (by omega),if_neg (by omega),if_pos (by omega)]
  refine ⟨?_,rfl⟩
  unfold RS.bD
  simp only
  rw [if_pos hs]
  exact hk.ask (t:=.gZ r.call) (show (5:Int)≠0 by decide) rfl rfl
 | gZ c =>
  replace hs:r.step=5:=hs
  replace hm:r.call=c:=hm
  subst hm
  rw [if_neg (by omega),if_neg (by omega),if_neg (by omega),if_neg (by omega),if_neg (by omega),if_neg (by omega),if_pos (by omega)]
  refine ⟨?_,rfl⟩
  have hk':bS l {r with word:=x.word}:=⟨h.ak,h.me,h.threads,h.most,h.holds,h.span,h.notes,h.freed⟩
  unfold RS.bD
  simp only
  rw [if_neg (by omega),if_pos hs]
  show iF (if l.bA then _ else _:LR).1 (if l.bA then _ else _:LR).2 _
  by_cases hd:l.bA
  ·rw [if_pos (h.bA.2 hd),if_pos hd]
   exact hk'.ask (t:=.jA r.call x.word) (show (6:Int)≠0 by decide) rfl ⟨rfl,rfl⟩
  rw [if_neg (fun y=>hd (h.bA.1 y)),if_neg hd]
  have e:(r.ak=2∧x.word.slot≠0∧r.holds r.call.i.toNat≠x.word.eF)↔(l.ak=2∧x.word.slot≠0∧l.h r.call.i.toNat≠x.word.eF):=by rw [h.ak,h.holds]
  by_cases g:l.ak=2∧x.word.slot≠0∧l.h r.call.i.toNat≠x.word.eF
  ·rw [if_pos (e.2 g),if_pos g]
   have e2:({r with word:=x.word}:RS).post 7 r.call.i x.word.eF=(({r with word:=x.word}:RS).hold r.call.i x.word.eF).ask 7 (Ac.store 0 0 (25+l.me * 9+r.call.i) x.word.eF):=by
    unfold RS.post
    rw [show ({r with word:=x.word}:RS).me=l.me from h.me]
    rfl
   rw [e2]
   exact (hk'.hold r.call.i x.word.eF).ask (t:=.gU r.call (Ac.store 0 0 (25+l.me * 9+r.call.i) x.word.eF)) (show (7:Int)≠0 by decide) rfl rfl
  ·rw [if_neg (fun y=>g (e.1 y)),if_neg g]
   exact hk'.fin _
 | jA c w =>
  replace hs:r.step=6:=hs
  obtain ⟨hm,hw⟩:r.call=c∧r.word=w:=hm
  subst hm hw
  rw [if_neg (by omega),if_neg (by omega),if_neg (by omega),if_neg (by omega),if_neg (by omega),if_neg (by omega),if_pos (by omega)]
  refine ⟨?_,rfl⟩
  unfold RS.bD
  simp only
  rw [if_neg (by omega),if_neg (by omega),if_pos hs]
  show iF (if RT.cZ l r.call.i x.word.num then _ else _:LR).1 (if RT.cZ l r.call.i x.word.num then _ else _:LR).2 _
  have e:r.cZ r.call.i x.word.num↔RT.cZ l r.call.i x.word.num:=by unfold RS.cZ RT.cZ;rw [h.ak,h.holds,h.span]
  by_cases g:RT.cZ l r.call.i x.word.num
  ·rw [if_pos (e.2 g),if_pos g]
   exact hk.fin _
  rw [if_neg (fun y=>g (e.1 y)),if_neg g,h.ak]
  by_cases g3:l.ak=3
  ·rw [if_pos g3,if_pos g3]
   have e2:r.post 7 r.call.i (Wd.eD x.word.num)=(r.hold r.call.i (Wd.eD x.word.num)).ask 7 (Ac.store 0 0 (25+l.me * 9+r.call.i) (Wd.eD x.word.num)):=by
    unfold RS.post
    rw [h.me]
    rfl
   rw [e2]
   exact (hk.hold r.call.i _).ask (t:=.gU r.call (Ac.store 0 0 (25+l.me * 9+r.call.i) (Wd.eD x.word.num))) (show (7:Int)≠0 by decide) rfl rfl
  ·rw [if_neg g3,if_neg g3,h.span]
   exact hk.dY _ (t:=.gU r.call _) (.inr ⟨_,rfl,rfl⟩)
 | jB old =>
  replace hs:r.step=9:=hs
  obtain ⟨h1,h2⟩:r.call.old=old∧r.seen=[]:=hm
  rw [if_neg (by omega),if_neg (by omega),if_neg (by omega),if_neg (by omega),if_neg (by omega),if_neg (by omega),if_neg (by omega),if_pos (by omega)]
  refine ⟨?_,rfl⟩
  unfold RS.dU
  rw [if_pos hs]
  have hk':bS l {r with word:=x.word}:=⟨h.ak,h.me,h.threads,h.most,h.holds,h.span,h.notes,h.freed⟩
  exact hk'.ask (t:=.dW old x.word.num) (show (10:Int)≠0 by decide) rfl ⟨h1,rfl,h2⟩
 | dW old b =>
  replace hs:r.step=10:=hs
  obtain ⟨h1,h2,h3⟩:r.call.old=old∧r.word.num=b∧r.seen=[]:=hm
  rw [if_neg (by omega),if_neg (by omega),if_neg (by omega),if_neg (by omega),if_neg (by omega),if_neg (by omega),if_neg (by omega),if_pos (by omega)]
  refine ⟨?_,rfl⟩
  unfold RS.dU
  simp only
  rw [if_neg (by omega),if_pos hs,h2]
  show iF (if l.bA then _ else _:LR).1 (if l.bA then _ else _:LR).2 _
  have hk':bS l {r with clock:=x.word}:=⟨h.ak,h.me,h.threads,h.most,h.holds,h.span,h.notes,h.freed⟩
  have hk2:=hk'.note b x.word.num
  rw [show ({r with clock:=x.word}:RS).call.old=old from h1] at hk2
  by_cases hd:l.bA
  ·rw [if_pos (h.bA.2 hd),if_pos hd]
   exact hk2.ask (t:=.lq x.word) (show (11:Int)≠0 by decide) rfl h3
  ·rw [if_neg (fun y=>hd (h.bA.1 y)),if_neg hd]
   exact hk2.dn (ho.note _ _ _) h3
 | lq clock =>
  replace hs:r.step=11:=hs
  replace hm:r.seen=[]:=hm
  rw [if_neg (by omega),if_neg (by omega),if_neg (by omega),if_neg (by omega),if_neg (by omega),if_neg (by omega),if_neg (by omega),if_pos (by omega)]
  refine ⟨?_,rfl⟩
  unfold RS.dU
  rw [if_neg (by omega),if_neg (by omega),if_pos hs]
  exact hk.dn ho hm
 | lu =>
  replace hs:r.step=12:=hs
  replace hm:r.seen=[]:=hm
  rw [if_neg (by omega),if_neg (by omega),if_neg (by omega),if_neg (by omega),if_neg (by omega),if_neg (by omega),if_neg (by omega),if_neg (by omega)]
  refine ⟨?_,rfl⟩
  unfold RS.bK
  rw [if_pos hs]
  have hk':bS l {r with clock:=x.word}:=⟨h.ak,h.me,h.threads,h.most,h.holds,h.span,h.notes,h.freed⟩
  exact hk'.Sa ho (fun _=>rfl) hm
 | dE clock seen =>
  replace hs:r.step=13:=hs
  obtain ⟨h1,h2,h3⟩:(l.ak=4→r.clock=clock)∧r.seen=seen∧r.index=seen.length:=hm
  subst h2
  replace hf:l.ak≠1:=hf
  rw [if_neg (by omega),if_neg (by omega),if_neg (by omega),if_neg (by omega),if_neg (by omega),if_neg (by omega),if_neg (by omega),if_neg (by omega)]
  refine ⟨?_,rfl⟩
  unfold RS.bK
  simp only
  rw [if_neg (by omega),if_pos hs]
  show iF (if (r.seen.length:Int)+1<l.all then _ else _:LR).1 (if (r.seen.length:Int)+1<l.all then _ else _:LR).2 _
  have hk':bS l {r with seen:=r.seen ++ [x.word]}:=⟨h.ak,h.me,h.threads,h.most,h.holds,h.span,h.notes,h.freed⟩
  have hl:=hk'.look (r.index+1) (clock:=clock) (seen:=r.seen ++ [x.word]) (by rw [h3];simp) h1 rfl
  by_cases g:(r.seen.length:Int)+1<l.all
  ·rw [if_pos (by omega)] at hl
   obtain ⟨q,e1,e2⟩:=hl
   rw [e1,if_pos g]
   exact e2
  ·rw [if_neg (by omega)] at hl
   rw [hl,if_neg g]
   simp only
   by_cases g4:l.ak=4
   ·have g4':r.ak=4:=h.ak.trans g4
    obtain rfl:=h1 g4
    rw [if_neg (show ¬l.ak≠4 from fun y=>y g4),if_neg (show ¬r.ak≠4 from fun y=>y g4')]
    by_cases gm:RS.may r.clock.num ((r.seen ++ [x.word]).map RS.iP)=true
    ·rw [if_pos gm,if_pos gm]
     exact hk'.ask (t:=.ji r.clock) (show (14:Int)≠0 by decide) rfl trivial
    ·rw [if_neg gm,if_neg gm]
     exact hk'.ask (t:=.gI) (show (15:Int)≠0 by decide) rfl trivial
   ·rw [if_pos (show l.ak≠4 from g4),if_pos (show r.ak≠4 from fun y=>g4 (h.ak.symm.trans y))]
    exact hk'.eY ho hf h1 (.inl rfl)
 | ji clock =>
  replace hs:r.step=14:=hs
  rw [if_neg (by omega),if_neg (by omega),if_neg (by omega),if_neg (by omega),if_neg (by omega),if_neg (by omega),if_neg (by omega),if_neg (by omega)]
  refine ⟨?_,rfl⟩
  unfold RS.bK
  rw [if_neg (by omega),if_neg (by omega),if_pos hs]
  exact hk.ask (t:=.gI) (show (15:Int)≠0 by decide) rfl trivial
 | gI =>
  replace hs:r.step=15:=hs
  replace hf:l.ak=4:=hf
  rw [if_neg (by omega),if_neg (by omega),if_neg (by omega),if_neg (by omega),if_neg (by omega),if_neg (by omega),if_neg (by omega),if_neg (by omega)]
  refine ⟨?_,rfl⟩
  unfold RS.bK
  rw [if_neg (by omega),if_neg (by omega),if_neg (by omega),if_pos hs]
  have hk':bS l {r with clock:=x.word}:=⟨h.ak,h.me,h.threads,h.most,h.holds,h.span,h.notes,h.freed⟩
  exact hk'.eY ho (by omega) (fun _=>rfl) (.inr hf)
 | ib d rest =>
  replace hs:r.step=16:=hs
  replace hm:r.bI=d :: rest:=hm
  rw [if_neg (by omega),if_neg (by omega),if_neg (by omega),if_neg (by omega),if_neg (by omega),if_neg (by omega),if_neg (by omega),if_neg (by omega)]
  refine ⟨?_,rfl⟩
  unfold RS.bK
  simp only
  rw [if_neg (by omega),if_neg (by omega),if_neg (by omega),if_neg (by omega),if_pos hs,hm]
  have hk':bS {l with notes:=l.notes.erase d,freed:=l.freed+1} {r with notes:=r.notes.erase d,freed:=r.freed+1,bI:=rest}:=⟨h.ak,h.me,h.threads,h.most,h.holds,h.span,by simp only [h.notes],by simp only [h.freed]⟩
  exact hk'.eG
theorem iF.new {e me th mo:Int}:iF ⟨e,me,th,mo,fun _=>Wd.zero,Sp.zero,[],0⟩ (.idle ⟨Wd.zero,false⟩) (RS.new e me th mo) :=
 ⟨rfl,rfl,rfl,rfl,rfl,rfl,rfl,rfl,rfl,fun h=>absurd rfl h,rfl⟩
end
end Go.Proofs.YthomdlajobnmnaaDoor
set_option linter.unusedSimpArgs false
set_option linter.unusedVariables false
namespace Go.Proofs.YthomdlajobnmnaaDoor
open Go.Rex
def Gg:ko:=[(lJ,zJ,Br)]
theorem QH:∀k pre post,(k,pre,post)∈Gg→jg k=true∧bC Tryd.prog k pre post:=by
 intro k pre post h
 simp only [Gg,List.mem_cons,List.not_mem_nil,or_false,Prod.mk.injEq] at h
 obtain ⟨rfl,rfl,rfl⟩:=h
 exact ⟨by kernel_rfl,QG⟩
def Xc:Kn:=[(.aC (.var 22) (.lit 0),true),(.bQ (.var 71) (.lit 1),false),(.bQ (.lit 11) (.var 71),false),(.bQ (.var 85) (.lit 0),false),(.aA (.lit 9) (.var 85),false),(.bQ (.var 86) (.lit 0),false),(.aA (.lit 9) (.var 86),false)]
noncomputable def Oi:Ex:={sched:=sched,loops:=[],cons:=[lJ],fin:=jv}
def Bt:Out :=
 .br (.or (.aC (.var 71) (.lit 6)) (.aC (.var 71) (.lit 7)))
 (.call 0 {lo:=0,az:=0,iv:=[(65,yv 65),(64,yv 64),(63,yv 63),(62,yv 62),(61,yv 61),(60,yv 60),(59,yv 59),(57,yv 57),(56,yv 56),(3,yv 3),(2,yv 2),(1,yv 1),(0,yv 0),(53,.lit 0),(52,.lit 0),(50,.lit 0),(49,.lit 0),(47,.lit 0),(45,.lit 0),(44,.lit 0),(43,.lit 0),(42,.lit 0),(40,.lit 0),(39,.lit 0),(38,.lit 0),(37,.lit 0),(35,.lit 0),(34,.lit 0),(33,.lit 0),(32,.lit 0),(30,.lit 0),(29,.lit 0),(28,.lit 0),(27,.lit 0),(26,.lit 0),(25,.lit 0),(24,.lit 0),(23,.lit 0),(22,.lit 0),(21,yv 88),(20,yv 87),(19,yv 86),(18,yv 85),(16,yv 83),(15,yv 82),(14,yv 81),(13,yv 80),(11,yv 78),(10,yv 77),(9,yv 76),(8,yv 75),(7,yv 74),(6,yv 73),(5,yv 72),(4,yv 71)],bv:=[(67,yw 67),(66,yw 66),(58,yw 58),(55,yw 55),(51,.lit true),(48,.lit true),(46,.lit false),(41,.lit false),(36,.lit false),(31,.lit false),(17,yw 84),(12,yw 79)],ct:=[(70,yu 70 59 7 yN 0),(54,yl 54 9 5 50 yW 0)],bk:=[(3,yc 3 7),(0,yb 0)],nb:=[2,1,2,1]} 89 <|
  .fin {lo:=89,az:=4,iv:=[(155,yv 155),(150,yv 150),(149,yv 149),(148,yv 148),(147,yv 147),(146,yv 146),(145,yv 145),(144,yv 144),(142,yv 142),(141,yv 141),(138,yv 138),(137,yv 137),(154,yv 154),(135,yv 135),(134,yv 134),(132,yv 132),(130,yv 130),(129,yv 129),(128,yv 128),(127,yv 127),(125,yv 125),(124,yv 124),(123,yv 123),(122,yv 122),(120,yv 120),(119,yv 119),(118,yv 118),(117,yv 117),(115,yv 115),(114,yv 114),(113,yv 113),(112,yv 112),(111,yv 111),(110,yv 110),(109,yv 109),(108,yv 108),(107,yv 107),(106,yv 106),(105,yv 105),(104,yv 104),(103,yv 103),(101,yv 101),(100,yv 100),(99,yv 99),(98,yv 98),(96,yv 96),(95,yv 95),(94,yv 94),(93,yv 93),(92,yv 92),(91,yv 91),(90,yv 90),(89,yv 89)],bv:=[(152,yw 152),(151,yw 151),(143,yw 143),(140,yw 140),(136,yw 136),(133,yw 133),(131,yw 131),(126,yw 126),(121,yw 121),(116,yw 116),(102,yw 102),(97,yw 97)],ct:=[(155,yu 155 144 7 yN 0),(154,yu 154 155 7 yN 0),(153,yu 153 134 5 yW 0),(139,yl 139 9 5 50 yW 0)],bk:=[(6,yc 7 7),(5,yc 6 7),(4,yc 5 5)]})
 (.call 0 {lo:=0,az:=0,iv:=[(65,yv 65),(64,yv 64),(63,yv 63),(62,yv 62),(61,yv 61),(60,yv 60),(59,yv 59),(57,yv 57),(56,yv 56),(3,yv 3),(2,yv 2),(1,yv 1),(0,yv 0),(53,.lit 0),(52,.lit 0),(50,.lit 0),(49,.lit 0),(47,.lit 0),(45,.lit 0),(44,.lit 0),(43,.lit 0),(42,.lit 0),(40,.lit 0),(39,.lit 0),(38,.lit 0),(37,.lit 0),(35,.lit 0),(34,.lit 0),(33,.lit 0),(32,.lit 0),(30,.lit 0),(29,.lit 0),(28,.lit 0),(27,.lit 0),(26,.lit 0),(25,.lit 0),(24,.lit 0),(23,.lit 0),(22,.lit 0),(21,yv 88),(20,yv 87),(19,yv 86),(18,yv 85),(16,yv 83),(15,yv 82),(14,yv 81),(13,yv 80),(11,yv 78),(10,yv 77),(9,yv 76),(8,yv 75),(7,yv 74),(6,yv 73),(5,yv 72),(4,yv 71)],bv:=[(67,yw 67),(66,yw 66),(58,yw 58),(55,yw 55),(51,.lit true),(48,.lit true),(46,.lit false),(41,.lit false),(36,.lit false),(31,.lit false),(17,yw 84),(12,yw 79)],ct:=[(70,yu 70 59 7 yN 0),(54,yl 54 9 5 50 yW 0)],bk:=[(3,yc 3 7),(0,yb 0)],nb:=[2,1,2,1]} 89 <|
  .fin {lo:=89,az:=4,iv:=[(155,yv 155),(150,yv 150),(149,yv 149),(148,yv 148),(147,yv 147),(146,yv 146),(145,yv 145),(144,yv 144),(142,yv 142),(141,yv 141),(138,yv 138),(137,yv 137),(154,yv 154),(135,yv 135),(134,yv 134),(132,yv 132),(130,yv 130),(129,yv 129),(128,yv 128),(127,yv 127),(125,yv 125),(124,yv 124),(123,yv 123),(122,yv 122),(120,yv 120),(119,yv 119),(118,yv 118),(117,yv 117),(115,yv 115),(114,yv 114),(113,yv 113),(112,yv 112),(111,yv 111),(110,yv 110),(109,yv 109),(108,yv 108),(107,yv 107),(106,yv 106),(105,yv 105),(104,yv 104),(103,yv 103),(101,yv 101),(100,yv 100),(99,yv 99),(98,yv 98),(96,yv 96),(95,yv 95),(94,yv 94),(93,yv 93),(92,yv 92),(91,yv 91),(90,yv 90),(89,yv 89)],bv:=[(152,yw 152),(151,yw 151),(143,yw 143),(140,yw 140),(136,yw 136),(133,yw 133),(131,yw 131),(126,yw 126),(121,yw 121),(116,yw 116),(102,yw 102),(97,yw 97)],ct:=[(155,yu 155 144 7 yN 0),(154,yu 154 155 7 yN 0),(153,yu 153 134 5 yW 0),(139,yl 139 9 5 50 yW 0)],bk:=[(6,yc 7 7),(5,yc 6 7),(4,yc 5 5)]})
theorem Oj:exec tab Oi 8000 [] (fV jv.f jv.nv Xc jv.gl jv.hp jv.args)=Bt:=by kernel_rfl
def sQ (ρ:Env):Prop:=(bJ ρ 4∧vF ρ∧IQ ρ 4)∧ρ.iv 22=0∧(ku ρ 71).OK
def qD (ρ:Env):Prop:=bJ ρ 89∧ae ρ 0 89=((ae ρ 0 4).begin (ku ρ 71)).1
theorem QI {r:RS} {c:Ca} (h:r.step=0) (hc:c.OK):(r.begin c).1=({r with call:=c,step:=0,acc:=Ac.zero,word:=Wd.zero,clock:=Wd.zero,index:=0,seen:=[],bI:=[]}:RS).opened∧(r.begin c).2=true:=by
 obtain ⟨c1,c2,c3,c4,c5,c6⟩:=hc
 unfold RS.begin
 rw [if_neg (by omega),if_neg (by omega),if_neg (by omega)]
 exact ⟨rfl,rfl⟩
theorem Ol (ρ:Env) (hpre:sQ ρ.num):Sat qD Gg [] ρ Bt:=by
 replace hpre:sQ ρ:=hpre
 obtain ⟨⟨⟨o1,o2,o3⟩,hs,hf⟩,h0,hc⟩:=hpre
 have hm:((ae ρ 0 4).begin (ku ρ 71)).1=({ae ρ 0 4 with call:=ku ρ 71,step:=0,acc:=Ac.zero,word:=Wd.zero,clock:=Wd.zero,index:=0,seen:=[],bI:=[]}:RS).opened:=(QI h0 hc).1
 obtain ⟨-,-,c3,c4,c5,c6⟩:=hc
 unfold Bt
 refine Sat.br (fun _=>?_) (fun _=>?_)
 all_goals
  refine eB (c:=lJ) rfl ({ae ρ 0 4 with call:=ku ρ 71,step:=0,acc:=Ac.zero,word:=Wd.zero,clock:=Wd.zero,index:=0,seen:=[],bI:=[]}:RS) ({ae ρ 0 4 with call:=ku ρ 71,step:=0,acc:=Ac.zero,word:=Wd.zero,clock:=Wd.zero,index:=0,seen:=[],bI:=[]}:RS).opened (by decide) (by decide) (jE rfl rfl rfl rfl) ⟨⟨by exact aj rfl rfl,by exact ⟨aj rfl rfl,Int.le_refl 0,.inl rfl⟩,o3⟩,hs,hf,⟨c3,c4⟩,c5,c6⟩ (RS.ext' rfl rfl rfl rfl rfl rfl bg bB rfl rfl rfl rfl bE rfl bz rfl rfl) (fun e hq hr=>⟨hq.1,by rw [←hr];exact hq.2⟩) (fun u=>(bJ u 89)∧ae u 0 89=((ae u 0 4).begin (ku u 71)).1) (fun e h1 h2=>⟨h1,h2.trans hm.symm⟩) fun u hu=>?_
  obtain ⟨⟨o1,o2,o3⟩,hm⟩:=hu
  exact Sat.fin ⟨⟨(by first | exact o1 | exact o2 | exact o3 | exact aj rfl rfl | assumption),(by first | exact o2 | exact ⟨aj rfl rfl,Int.le_refl 0,.inl rfl⟩ | assumption),(by first | exact o1 | exact o2 | exact o3 | exact aj rfl rfl | assumption)⟩,Eq.trans (b:=(ae u 0 89)) (RS.ext' rfl rfl rfl rfl rfl rfl bg bB rfl rfl rfl rfl bE rfl bz rfl rfl) (Eq.symm (hm.symm))⟩
theorem Om:bC Tryd.prog jv sQ qD :=
 dJ fu (E:=Oi) (cs:=Gg) rfl QH di rfl Oj (by kernel_rfl) (fun ρ h p hp=>by
   obtain ⟨-,h0,c1,c2,c3,c4,c5,c6⟩:=h
   replace h0:ρ.iv 22=0:=h0
   replace c1:1≤ρ.iv 71:=c1
   replace c2:ρ.iv 71≤11:=c2
   replace c3:0≤ρ.iv 85:=c3
   replace c4:ρ.iv 85<9:=c4
   replace c5:0≤ρ.iv 86:=c5
   replace c6:ρ.iv 86<9:=c6
   simp only [Xc,List.mem_cons,List.not_mem_nil,or_false] at hp
   rcases hp with rfl | rfl | rfl | rfl | rfl | rfl | rfl
   · exact beq_iff_eq.2 h0
   · exact decide_eq_false (by show ¬ρ.iv 71<1;omega)
   · exact decide_eq_false (by show ¬11<ρ.iv 71;omega)
   · exact decide_eq_false (by show ¬ρ.iv 85<0;omega)
   · exact decide_eq_false (by show ¬9≤ρ.iv 85;omega)
   · exact decide_eq_false (by show ¬ρ.iv 86<0;omega)
   · exact decide_eq_false (by show ¬9≤ρ.iv 86;omega)) Ol
end Go.Proofs.YthomdlajobnmnaaDoor
set_option linter.unusedSimpArgs false
set_option linter.unusedVariables false
namespace Go.Proofs.YthomdlajobnmnaaDoor
open Go.Rex
theorem wZ {P:Program} {k:eu} {pre post post':Env→Prop} (h:bC P k pre post) (hp:∀ρ,post ρ→post' ρ):bC P k pre post' :=
 ⟨h.fn,fun ρ ν w h1 h2 h3=>(h.run ρ ν w h1 h2 h3).mono fun e w' he=>by
   obtain ⟨ρ',aN,a,b,c,d,f,g⟩:=he
   exact ⟨ρ',aN,a,b,c,d,f,hp _ g⟩⟩
def Nt.sv (n:Nt):Sv.uG:=⟨n.ref.slot,n.ref.gen,n.ref.tag,n.ref.num,n.ref.mark,n.aU,n.dh⟩
theorem Nt.Vt {a b:Nt} (h:a.sv=b.sv):a=b:=by
 obtain ⟨⟨a1,a2,a3,a4,a5⟩,a6,a7⟩:=a
 obtain ⟨⟨b1,b2,b3,b4,b5⟩,b6,b7⟩:=b
 simp only [Nt.sv,Sv.uG.mk.injEq] at h
 obtain ⟨rfl,rfl,rfl,rfl,rfl,rfl,rfl⟩:=h
 rfl
theorem l8 (ρ:Env) (b:Nat):Sv.notes ρ b=(aW ρ (b+3) (ρ.iv (b+1))).map Nt.sv:=by
 unfold Sv.notes aW
 rw [List.map_map]
 rfl
theorem uk {l m:List Nt} {p:Sv.uG→Bool} {q:Nt→Bool} (hq:∀n,p n.sv=q n) (h:m.map Nt.sv=(l.map Nt.sv).filter p):m=l.filter q:=by
 rw [List.filter_map] at h
 have e:p ∘ Nt.sv=q:=funext hq
 rw [e] at h
 have:∀{x y:List Nt},x.map Nt.sv=y.map Nt.sv→x=y:=by
  intro x
  induction x with
  | nil=>intro y h;cases y with | nil=>rfl | cons=>cases h
  | cons a x ih =>
   intro y h
   cases y with
   | nil=>cases h
   | cons b y =>
    simp only [List.map_cons,List.cons.injEq] at h
    rw [Nt.Vt h.1,ih h.2]
 exact this h
def oK (ρ:Env) (r:Nat) (n:Int):List Int:=(List.range n.toNat).map fun i=>ρ.ic r i 0 0
def kR (ρ:Env) (r:Nat) (i:Nat):Sp:=⟨ρ.bc r i 0 0,ρ.ic r i 0 1,ρ.ic r i 0 2⟩
def il (ρ:Env) (r:Nat) (n:Int):List Sp:=(List.range n.toNat).map (kR ρ r)
def IU (ρ:Env):Prop:=aZ ρ 8∧aW ρ 11 (ρ.iv 9)=(aW ρ 3 (ρ.iv 1)).filter fun n=>!((dV ρ 7 (ρ.iv 5)).any fun w=>RS.sI w n)
def LZ (ρ:Env):Prop:=aZ ρ 8∧aW ρ 11 (ρ.iv 9)=(aW ρ 3 (ρ.iv 1)).filter fun n=>!((oK ρ 7 (ρ.iv 5)).any fun e=>RS.rO e n)
def IV (ρ:Env):Prop:=aZ ρ 8∧aW ρ 11 (ρ.iv 9)=(aW ρ 3 (ρ.iv 1)).filter fun n=>!((il ρ 7 (ρ.iv 5)).any fun s=>RS.pF s n)
def Em (ρ:Env):Prop:=aZ ρ 8∧aW ρ 11 (ρ.iv 9)=(aW ρ 3 (ρ.iv 1)).filter fun n=>!(RS.nQ (ρ.iv 4) n)
theorem L6:bC Tryd.prog lg Sv.l6 IU:=wZ Sv.NT fun ρ h=>by
 obtain ⟨h1,h2,-⟩:=h
 refine ⟨h1,uk (fun n=>?_) ((l8 ρ 8).symm.trans (h2.trans (congrArg _ (l8 ρ 0))))⟩
 congr 1
 show (((List.range (ρ.iv 5).toNat).map fun j=>ρ.ic 7 j 0 0).any fun s=>decide (s=n.ref.slot))=_
 unfold dV
 rw [List.any_map,List.any_map]
 rfl
theorem Oo:bC Tryd.prog mI Sv.nS LZ:=wZ Sv.Ql fun ρ h=>by
 obtain ⟨h1,h2,-⟩:=h
 refine ⟨h1,uk (fun n=>?_) ((l8 ρ 8).symm.trans (h2.trans (congrArg _ (l8 ρ 0))))⟩
 congr 1
 show (((List.range (ρ.iv 5).toNat).map fun j=>ρ.ic 7 j 0 0).any fun e=>decide ((0<e∧n.aU≤e)∧e≤n.dh))=_
 unfold oK
 rw [List.any_map,List.any_map]
 congr 1
 funext j
 simp only [Function.comp,RS.rO]
 exact decide_eq_decide.2 and_assoc
theorem L8:bC Tryd.prog lh Sv.l7 IV:=wZ Sv.NY fun ρ h=>by
 obtain ⟨h1,h2,-⟩:=h
 refine ⟨h1,uk (fun n=>?_) ((l8 ρ 8).symm.trans (h2.trans (congrArg _ (l8 ρ 0))))⟩
 congr 1
 show (((List.range (ρ.iv 5).toNat).map fun j=>(ρ.bc 7 j 0 0,ρ.ic 7 j 0 1,ρ.ic 7 j 0 2)).any fun s=>decide ((s.1=true∧s.2.1≤n.dh)∧n.aU≤s.2.2))=_
 unfold il
 rw [List.any_map,List.any_map]
 congr 1
 funext j
 simp only [Function.comp,RS.pF,kR]
 rw [Bool.eq_iff_iff]
 simp [and_assoc]
theorem Jv:bC Tryd.prog jS Sv.kU Em:=wZ Sv.LQ fun ρ h=>by
 obtain ⟨h1,h2,-⟩:=h
 refine ⟨h1,uk (fun n=>?_) ((l8 ρ 8).symm.trans (h2.trans (congrArg _ (l8 ρ 0))))⟩
 refine congrArg (fun b=>!b) ?_
 show decide (ρ.iv 4 < -9223372036854775806∨ρ.iv 4-2<n.dh)=RS.nQ (ρ.iv 4) n
 unfold RS.nQ
 exact decide_eq_decide.2 (by omega)
noncomputable def Vu:Ex:={sched:=sched,loops:=[XN],fin:=lY}
def IW:Out :=
 .ob (.or (.not (.var 1)) (.aC (.var 2) (.lit 0))) <|
 .ob (.aA (.lit 0) (.var 2)) <|
 .loop 5 {lo:=5,az:=1,iv:=[(5,.lit 0)]} <|
 .br (.bQ (.var 5) (.var 2))
 (.ob (.not (.var 1)) <|
  .ob (.aA (.lit 0) (.var 5)) <|
  .br (.and (.cell 4 (.var 5) (.lit 0) 0) (.not (.aC (.cell 4 (.var 5) (.lit 0) 1) (.var 0))))
  (.fin {lo:=5,az:=1,bv:=[(5,.lit false)]})
  (.ob (.inr .i64 (.add (.var 5) (.lit 1))) <|
   .back 0 {lo:=5,az:=1,iv:=[(5,.add (.var 5) (.lit 1))]}))
 (.fin {lo:=5,az:=1,bv:=[(5,.lit true)]})
theorem TE:exec tab Vu 8000 [] (fV lY.f lY.nv [] lY.gl lY.hp lY.args)=IW:=by kernel_rfl
def yV (ρ:Env):Prop:=aZ ρ 1∧ρ.iv 2≤1000000
def zK (ρ:Env):Prop:=ρ.bv 5=RS.may (ρ.iv 0) (il ρ 4 (ρ.iv 2))
def Oq (ρ:Env):Prop:=yV ρ∧(0≤ρ.iv 5∧ρ.iv 5≤ρ.iv 2)∧RS.may (ρ.iv 0) (il ρ 4 (ρ.iv 5))=true
theorem L9 {ρ:Env} {r:Nat} {n:Int} (h:0≤n):il ρ r (n+1)=il ρ r n ++ [kR ρ r n.toNat]:=by
 unfold il
 rw [show (n+1).toNat=n.toNat+1 by omega,List.range_succ,List.map_append]
 rfl
theorem TF (ρ:Env) (hpre:yV ρ.num):Sat zK [] [] ρ IW:=by
 replace hpre:yV ρ:=hpre
 have hpre':=hpre
 obtain ⟨o1,h2⟩:=hpre
 unfold IW
 refine Sat.ob (aO o1) (Sat.ob (decide_eq_true o1.2.1) (Sat.ug Oq (fun r=>(r.iv 2-r.iv 5).toNat) (fun _=>True) ⟨hpre',⟨Int.le_refl 0,o1.2.1⟩,rfl⟩ (fun _=>trivial) fun q _ hI=>?_))
 replace hI:Oq q:=hI
 obtain ⟨⟨o1,h2⟩,⟨i1,i2⟩,hI⟩:=hI
 refine Sat.br (fun c=>?_) (fun c=>?_)
 ·simp only [Da] at c
  refine Sat.ob (bR o1 (by simp only [Nat.reduceAdd];omega)) (Sat.ob (decide_eq_true i1) (Sat.br (fun c2=>?_) (fun c2=>?_)))
  ·simp only [Da] at c2
   refine Sat.fin ?_
   show false=RS.may (q.iv 0) (il q 4 (q.iv 2))
   refine Eq.symm (List.all_eq_false.2 ⟨kR q 4 (q.iv 5).toNat,List.mem_map.2 ⟨(q.iv 5).toNat,List.mem_range.2 (by omega),rfl⟩,?_⟩)
   show ¬(!(q.bc 4 (q.iv 5).toNat 0 0 && q.ic 4 (q.iv 5).toNat 0 1 != q.iv 0))=true
   simp [c2.1,c2.2]
  ·simp only [Da] at c2
   refine Sat.ob (by simp only [Da];omega) (Sat.back rfl ⟨⟨⟨o1,h2⟩,⟨?_,?_⟩,?_⟩,?_⟩)
   ·show 0≤q.iv 5+1;omega
   ·show q.iv 5+1≤q.iv 2;omega
   ·show RS.may (q.iv 0) (il q 4 (q.iv 5+1))=true
    rw [L9 i1]
    unfold RS.may at hI ⊢
    rw [List.all_append,hI,Bool.true_and,List.all_cons,List.all_nil,Bool.and_true]
    show (!(q.bc 4 (q.iv 5).toNat 0 0 && q.ic 4 (q.iv 5).toNat 0 1 != q.iv 0))=true
    rcases c2 with c2 | c2
    ·simp [c2]
    ·simp [c2]
   ·show (q.iv 2-(q.iv 5+1)).toNat<(q.iv 2-q.iv 5).toNat
    omega
 ·simp only [Da] at c
  refine Sat.fin ?_
  show true=RS.may (q.iv 0) (il q 4 (q.iv 2))
  rw [show q.iv 2=q.iv 5 by omega]
  exact hI.symm
theorem TG:bC Tryd.prog lY yV zK :=
 dJ fu (E:=Vu) (cs:=[]) rfl (fun k pre post h=>by cases h) di rfl TE (by kernel_rfl) (fun ρ _ p hp=>by cases hp) TF
end Go.Proofs.YthomdlajobnmnaaDoor
