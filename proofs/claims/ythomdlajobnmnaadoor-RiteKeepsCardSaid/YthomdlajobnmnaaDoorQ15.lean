/- part 15 of the proof -/
import Derived.Test.YthomdlajobnmnaaDoorQ14
set_option linter.unusedSimpArgs false
set_option linter.unusedVariables false
namespace Go.Proofs.YthomdlajobnmnaaDoor
open Go.Rex
section
variable {σ:Sub} {ρ q:Env} {m d:Nat}
theorem rf (k j:Nat):aW (aG σ m d ρ q) (m+k) ((aG σ m d ρ q).iv (m+j))=aW q (d+k) (q.iv (d+j)):=by
 unfold aW
 rw [yO,gQ]
end
theorem Ma {ρ ρ':Env} {r r':Nat} {n n':Int} (hn:n=n') (h:∀i,ρ.ic r i 0 0=ρ'.ic r' i 0 0):oK ρ r n=oK ρ' r' n':=by
 subst hn
 unfold oK
 congr 1
 funext i
 exact h i
theorem Dm {ρ ρ':Env} {r r':Nat} {n n':Int} (hn:n=n') (h:∀i,kR ρ r i=kR ρ' r' i):il ρ r n=il ρ' r' n':=by
 subst hn
 unfold il
 congr 1
 funext i
 exact h i
theorem Mf {ρ ρ':Env} {r r':Nat} {n n':Int} {w:Int} (h0:0≤n) (hn:n'=n+1) (h:∀i:Nat,(i:Int)<n→ρ'.ic r' i 0 0=ρ.ic r i 0 0) (hw:ρ'.ic r' n.toNat 0 0=w) :
  oK ρ' r' n'=oK ρ r n ++ [w]:=by
 subst hn hw
 unfold oK
 rw [show (n+1).toNat=n.toNat+1 by omega,List.range_succ,List.map_append]
 congr 1
 exact List.map_congr_left fun i hi=>h i (by have:=List.mem_range.1 hi;omega)
theorem w9 {ρ ρ':Env} {r r':Nat} {o n n':Int} (ho:o=0) (hn:n=n') (h:∀i,bP ρ r i=bP ρ' r' i):gY ρ r o n=aW ρ' r' n':=by
 subst ho
 rw [LH]
 exact fJ hn h
theorem rq {ρ ρ':Env} {r r':Nat} {n n':Int} {w:Sp} (h0:0≤n) (hn:n'=n+1) (h:∀i:Nat,(i:Int)<n→kR ρ' r' i=kR ρ r i) (hw:kR ρ' r' n.toNat=w) :
  il ρ' r' n'=il ρ r n ++ [w]:=by
 subst hn hw
 unfold il
 rw [show (n+1).toNat=n.toNat+1 by omega,List.range_succ,List.map_append]
 congr 1
 exact List.map_congr_left fun i hi=>h i (by have:=List.mem_range.1 hi;omega)
theorem oL {ρ:Env} {r:Nat} {n:Int} {i:Nat} (h:(i:Int)<n):(dV ρ r n).take (i+1)=(dV ρ r n).take i ++ [aD (ρ.ic r i 0) (ρ.bc r i 0)]:=by
 have hl:i<(dV ρ r n).length:=by rw [qB];omega
 rw [List.take_succ_eq_append_getElem hl]
 simp [dV]
theorem xc {ρ:Env} {r:Nat} {n:Int} {i:Nat} (h:n≤i):(dV ρ r n).take i=dV ρ r n:=List.take_of_length_le (by rw [qB];omega)
def zL:ko:=[(lg,Sv.l6,IU),(mI,Sv.nS,LZ),(lh,Sv.l7,IV),(jS,Sv.kU,Em),(gp,IJ,wU)]
theorem Mg:∀k pre post,(k,pre,post)∈zL→jg k=true∧bC Tryd.prog k pre post:=by
 intro k pre post h
 simp only [zL,List.mem_cons,List.not_mem_nil,or_false,Prod.mk.injEq] at h
 rcases h with ⟨rfl,rfl,rfl⟩ | ⟨rfl,rfl,rfl⟩ | ⟨rfl,rfl,rfl⟩ | ⟨rfl,rfl,rfl⟩ | ⟨rfl,rfl,rfl⟩
 ·exact ⟨by kernel_rfl,L6⟩
 ·exact ⟨by kernel_rfl,Oo⟩
 ·exact ⟨by kernel_rfl,L8⟩
 ·exact ⟨by kernel_rfl,Jv⟩
 ·exact ⟨by kernel_rfl,IK⟩
noncomputable def Sb:Ex:={sched:=sched,loops:=[Wt,NL],cons:=[lg,mI,lh,jS,gp],fin:=jK}
def En:Out :=
 .br (.aC (.var 0) (.lit 2))
 (.call 0 {lo:=0,az:=0,iv:=[(6,yv 50),(5,yv 49),(2,yv 60),(1,yv 59)],bv:=[(4,yw 48),(0,yw 58)],ct:=[(7,yu 68 49 5 yW 0),(3,yu 70 59 7 yN 0)],bk:=[(1,yc 1 5),(0,yc 3 7)]} 71 <|
  .call 4 {lo:=0,az:=0,iv:=[(70,yv 72),(65,yv 65),(64,yv 64),(63,yv 63),(62,yv 62),(61,yv 61),(60,yv 60),(59,yv 59),(57,yv 57),(56,yv 56),(3,yv 3),(2,yv 2),(1,yv 1),(0,yv 0),(53,yv 73),(52,yv 72),(69,.lit 0),(50,yv 50),(49,yv 49),(47,yv 47),(45,yv 45),(44,yv 44),(43,yv 43),(42,yv 42),(40,yv 40),(39,yv 39),(38,yv 38),(37,yv 37),(35,yv 35),(34,yv 34),(33,yv 33),(32,yv 32),(30,yv 30),(29,yv 29),(28,yv 28),(27,yv 27),(26,yv 26),(25,yv 25),(24,yv 24),(23,yv 23),(22,yv 22),(21,yv 21),(20,yv 20),(19,yv 19),(18,yv 18),(16,yv 16),(15,yv 15),(14,yv 14),(13,yv 13),(11,yv 11),(10,yv 10),(9,yv 9),(8,yv 8),(7,yv 7),(6,yv 6),(5,yv 5),(4,yv 4)],bv:=[(67,yw 67),(66,yw 66),(58,yw 58),(55,yw 55),(51,yw 71),(48,yw 48),(46,yw 46),(41,yw 41),(36,yw 36),(31,yw 31),(17,yw 17),(12,yw 12)],ct:=[(70,yu 70 59 7 yN 0),(69,yu 74 72 7 yN 0),(68,yu 68 49 5 yW 0),(54,yl 54 9 5 50 yW 0)],bk:=[(3,yc 3 7),(2,yc 4 7),(1,yc 1 5),(0,yb 0)]} 79 <|
  .fin {lo:=71,az:=4,iv:=[(137,yv 145),(132,yv 140),(131,yv 139),(130,yv 138),(129,yv 137),(128,yv 136),(127,yv 135),(126,yv 134),(124,yv 132),(123,yv 131),(120,yv 128),(119,yv 127),(136,yv 144),(117,yv 125),(116,yv 124),(114,yv 122),(112,yv 120),(111,yv 119),(110,yv 118),(109,yv 117),(107,yv 115),(106,yv 114),(105,yv 113),(104,yv 112),(102,yv 110),(101,yv 109),(100,yv 108),(99,yv 107),(97,yv 105),(96,yv 104),(95,yv 103),(94,yv 102),(93,yv 101),(92,yv 100),(91,yv 99),(90,yv 98),(89,yv 97),(88,yv 96),(87,yv 95),(86,yv 94),(85,yv 93),(83,yv 91),(82,yv 90),(81,yv 89),(80,yv 88),(78,yv 86),(77,yv 85),(76,yv 84),(75,yv 83),(74,yv 82),(73,yv 81),(72,yv 80),(71,yv 79)],bv:=[(134,yw 142),(133,yw 141),(125,yw 133),(122,yw 130),(118,yw 126),(115,yw 123),(113,yw 121),(108,yw 116),(103,yw 111),(98,yw 106),(84,yw 92),(79,yw 87)],ct:=[(137,yu 145 134 7 yN 0),(136,yu 144 145 7 yN 0),(135,yu 143 124 5 yW 0),(121,yl 129 9 5 50 yW 0)],bk:=[(6,yc 8 7),(5,yc 7 7),(4,yc 6 5)]})
 (.br (.aC (.var 0) (.lit 3))
  (.ob (.or (.not (.var 48)) (.aC (.var 49) (.lit 0))) <|
   .ob (.aA (.lit 0) (.var 49)) <|
   .loop 71 {lo:=71,az:=4,iv:=[(75,.lit 0),(73,.lit 0),(72,.lit 0)],bv:=[(71,.lit true)],nb:=[4]} <|
   .br (.bQ (.var 75) (.var 49))
   (.ob (.not (.var 48)) <|
    .ob (.aA (.lit 0) (.var 75)) <|
    .ob (.aA (.mul (.add (.var 72) (.lit 1)) (.lit 8)) (.lit 140737488355328)) <|
    .ob (.aA (.lit 0) (.var 72)) <|
    .ob (.aA (.var 72) (.var 73)) <|
    .ob (.aA (.var 73) (.lit 9223372036854775807)) <|
    .ob (.or (.not (.var 71)) (.aC (.var 72) (.lit 0))) <|
    .new 76 [.be (.and (.aA (.add (.var 72) (.lit 1)) (.var 76)) (.aA (.var 76) (.lit 9223372036854775807)))] <|
    .ob (.inr .i64 (.add (.var 75) (.lit 1))) <|
    .back 0 {lo:=71,az:=4,iv:=[(75,.add (.var 75) (.lit 1)),(73,yv 76),(72,.add (.var 72) (.lit 1))],bv:=[(71,.lit false)],ct:=[(74,.up {r:=74,n1:=.add (.var 72) (.lit 1),s1:=1,ks:=yI} 0 [⟨0,(.var 72),(.lit 0),0,.int .i64 (.cell 68 (.var 75) (.lit 0) 3)⟩] (.lit 0))],bk:=[(4,yc 7 1)]})
   (.call 1 {lo:=0,az:=0,iv:=[(6,yv 73),(5,yv 72),(2,yv 60),(1,yv 59)],bv:=[(4,yw 71),(0,yw 58)],ct:=[(7,yu 74 72 1 yI 0),(3,yu 70 59 7 yN 0)],bk:=[(1,yc 4 1),(0,yc 3 7)]} 76 <|
    .call 4 {lo:=0,az:=0,iv:=[(70,yv 77),(65,yv 65),(64,yv 64),(63,yv 63),(62,yv 62),(61,yv 61),(60,yv 60),(59,yv 59),(57,yv 57),(56,yv 56),(3,yv 3),(2,yv 2),(1,yv 1),(0,yv 0),(53,yv 78),(52,yv 77),(69,.lit 0),(50,yv 50),(49,yv 49),(47,yv 47),(45,yv 45),(44,yv 44),(43,yv 43),(42,yv 42),(40,yv 40),(39,yv 39),(38,yv 38),(37,yv 37),(35,yv 35),(34,yv 34),(33,yv 33),(32,yv 32),(30,yv 30),(29,yv 29),(28,yv 28),(27,yv 27),(26,yv 26),(25,yv 25),(24,yv 24),(23,yv 23),(22,yv 22),(21,yv 21),(20,yv 20),(19,yv 19),(18,yv 18),(16,yv 16),(15,yv 15),(14,yv 14),(13,yv 13),(11,yv 11),(10,yv 10),(9,yv 9),(8,yv 8),(7,yv 7),(6,yv 6),(5,yv 5),(4,yv 4)],bv:=[(67,yw 67),(66,yw 66),(58,yw 58),(55,yw 55),(51,yw 76),(48,yw 48),(46,yw 46),(41,yw 41),(36,yw 36),(31,yw 31),(17,yw 17),(12,yw 12)],ct:=[(70,yu 70 59 7 yN 0),(69,yu 79 77 7 yN 0),(68,yu 68 49 5 yW 0),(54,yl 54 9 5 50 yW 0)],bk:=[(3,yc 3 7),(2,yc 5 7),(1,yc 1 5),(0,yb 0)]} 84 <|
    .fin {lo:=71,az:=4,iv:=[(137,yv 150),(132,yv 145),(131,yv 144),(130,yv 143),(129,yv 142),(128,yv 141),(127,yv 140),(126,yv 139),(124,yv 137),(123,yv 136),(120,yv 133),(119,yv 132),(136,yv 149),(117,yv 130),(116,yv 129),(114,yv 127),(112,yv 125),(111,yv 124),(110,yv 123),(109,yv 122),(107,yv 120),(106,yv 119),(105,yv 118),(104,yv 117),(102,yv 115),(101,yv 114),(100,yv 113),(99,yv 112),(97,yv 110),(96,yv 109),(95,yv 108),(94,yv 107),(93,yv 106),(92,yv 105),(91,yv 104),(90,yv 103),(89,yv 102),(88,yv 101),(87,yv 100),(86,yv 99),(85,yv 98),(83,yv 96),(82,yv 95),(81,yv 94),(80,yv 93),(78,yv 91),(77,yv 90),(76,yv 89),(75,yv 88),(74,yv 87),(73,yv 86),(72,yv 85),(71,yv 84)],bv:=[(134,yw 147),(133,yw 146),(125,yw 138),(122,yw 135),(118,yw 131),(115,yw 128),(113,yw 126),(108,yw 121),(103,yw 116),(98,yw 111),(84,yw 97),(79,yw 92)],ct:=[(137,yu 150 139 7 yN 0),(136,yu 149 150 7 yN 0),(135,yu 148 129 5 yW 0),(121,yl 134 9 5 50 yW 0)],bk:=[(6,yc 9 7),(5,yc 8 7),(4,yc 7 5)]}))
  (.br (.aC (.var 0) (.lit 5))
   (.ob (.or (.not (.var 48)) (.aC (.var 49) (.lit 0))) <|
    .ob (.aA (.lit 0) (.var 49)) <|
    .loop 71 {lo:=71,az:=4,iv:=[(75,.lit 0),(73,.lit 0),(72,.lit 0)],bv:=[(71,.lit true)],nb:=[4]} <|
    .br (.bQ (.var 75) (.var 49))
    (.ob (.not (.var 48)) <|
     .ob (.aA (.lit 0) (.var 75)) <|
     .br (.not (.cell 68 (.var 75) (.lit 0) 4))
     (.ob (.aA (.mul (.add (.var 72) (.lit 1)) (.lit 24)) (.lit 140737488355328)) <|
      .ob (.aA (.lit 0) (.var 72)) <|
      .ob (.aA (.var 72) (.var 73)) <|
      .ob (.aA (.var 73) (.lit 9223372036854775807)) <|
      .ob (.or (.not (.var 71)) (.aC (.var 72) (.lit 0))) <|
      .new 76 [.be (.and (.aA (.add (.var 72) (.lit 1)) (.var 76)) (.aA (.var 76) (.lit 9223372036854775807)))] <|
      .ob (.inr .i64 (.add (.var 75) (.lit 1))) <|
      .back 0 {lo:=71,az:=4,iv:=[(75,.add (.var 75) (.lit 1)),(73,yv 76),(72,.add (.var 72) (.lit 1))],bv:=[(71,.lit false)],ct:=[(74,.up {r:=74,n1:=.add (.var 72) (.lit 1),s1:=3,ks:=[.bool,.int .i64,.int .i64]} 0 [⟨0,(.var 72),(.lit 0),0,.bool (.lit false)⟩,⟨0,(.var 72),(.lit 0),1,.int .i64 (.lit 0)⟩,⟨0,(.var 72),(.lit 0),2,.int .i64 (.lit 0)⟩] (.lit 0))],bk:=[(4,yc 9 3)]})
     (.ob (.aA (.mul (.add (.var 72) (.lit 1)) (.lit 24)) (.lit 140737488355328)) <|
      .ob (.aA (.lit 0) (.var 72)) <|
      .ob (.aA (.var 72) (.var 73)) <|
      .ob (.aA (.var 73) (.lit 9223372036854775807)) <|
      .ob (.or (.not (.var 71)) (.aC (.var 72) (.lit 0))) <|
      .new 76 [.be (.and (.aA (.add (.var 72) (.lit 1)) (.var 76)) (.aA (.var 76) (.lit 9223372036854775807)))] <|
      .ob (.inr .i64 (.add (.var 75) (.lit 1))) <|
      .back 0 {lo:=71,az:=4,iv:=[(75,.add (.var 75) (.lit 1)),(73,yv 76),(72,.add (.var 72) (.lit 1))],bv:=[(71,.lit false)],ct:=[(74,.up {r:=74,n1:=.add (.var 72) (.lit 1),s1:=3,ks:=[.bool,.int .i64,.int .i64]} 0 [⟨0,(.var 72),(.lit 0),0,.bool (.lit true)⟩,⟨0,(.var 72),(.lit 0),1,.int .i64 (.cell 68 (.var 75) (.lit 0) 3)⟩,⟨0,(.var 72),(.lit 0),2,.int .i64 (.cell 68 (.var 75) (.lit 0) 2)⟩] (.lit 0))],bk:=[(4,yc 9 3)]}))
    (.call 2 {lo:=0,az:=0,iv:=[(6,yv 73),(5,yv 72),(2,yv 60),(1,yv 59)],bv:=[(4,yw 71),(0,yw 58)],ct:=[(7,.up {r:=74,n1:=.var 72,s1:=3,ks:=[.bool,.int .i64,.int .i64]} 0 [] (.lit 0)),(3,yu 70 59 7 yN 0)],bk:=[(1,yc 4 3),(0,yc 3 7)]} 76 <|
     .call 4 {lo:=0,az:=0,iv:=[(70,yv 77),(65,yv 65),(64,yv 64),(63,yv 63),(62,yv 62),(61,yv 61),(60,yv 60),(59,yv 59),(57,yv 57),(56,yv 56),(3,yv 3),(2,yv 2),(1,yv 1),(0,yv 0),(53,yv 78),(52,yv 77),(69,.lit 0),(50,yv 50),(49,yv 49),(47,yv 47),(45,yv 45),(44,yv 44),(43,yv 43),(42,yv 42),(40,yv 40),(39,yv 39),(38,yv 38),(37,yv 37),(35,yv 35),(34,yv 34),(33,yv 33),(32,yv 32),(30,yv 30),(29,yv 29),(28,yv 28),(27,yv 27),(26,yv 26),(25,yv 25),(24,yv 24),(23,yv 23),(22,yv 22),(21,yv 21),(20,yv 20),(19,yv 19),(18,yv 18),(16,yv 16),(15,yv 15),(14,yv 14),(13,yv 13),(11,yv 11),(10,yv 10),(9,yv 9),(8,yv 8),(7,yv 7),(6,yv 6),(5,yv 5),(4,yv 4)],bv:=[(67,yw 67),(66,yw 66),(58,yw 58),(55,yw 55),(51,yw 76),(48,yw 48),(46,yw 46),(41,yw 41),(36,yw 36),(31,yw 31),(17,yw 17),(12,yw 12)],ct:=[(70,yu 70 59 7 yN 0),(69,yu 79 77 7 yN 0),(68,yu 68 49 5 yW 0),(54,yl 54 9 5 50 yW 0)],bk:=[(3,yc 3 7),(2,yc 5 7),(1,yc 1 5),(0,yb 0)]} 84 <|
     .fin {lo:=71,az:=4,iv:=[(137,yv 150),(132,yv 145),(131,yv 144),(130,yv 143),(129,yv 142),(128,yv 141),(127,yv 140),(126,yv 139),(124,yv 137),(123,yv 136),(120,yv 133),(119,yv 132),(136,yv 149),(117,yv 130),(116,yv 129),(114,yv 127),(112,yv 125),(111,yv 124),(110,yv 123),(109,yv 122),(107,yv 120),(106,yv 119),(105,yv 118),(104,yv 117),(102,yv 115),(101,yv 114),(100,yv 113),(99,yv 112),(97,yv 110),(96,yv 109),(95,yv 108),(94,yv 107),(93,yv 106),(92,yv 105),(91,yv 104),(90,yv 103),(89,yv 102),(88,yv 101),(87,yv 100),(86,yv 99),(85,yv 98),(83,yv 96),(82,yv 95),(81,yv 94),(80,yv 93),(78,yv 91),(77,yv 90),(76,yv 89),(75,yv 88),(74,yv 87),(73,yv 86),(72,yv 85),(71,yv 84)],bv:=[(134,yw 147),(133,yw 146),(125,yw 138),(122,yw 135),(118,yw 131),(115,yw 128),(113,yw 126),(108,yw 121),(103,yw 116),(98,yw 111),(84,yw 97),(79,yw 92)],ct:=[(137,yu 150 139 7 yN 0),(136,yu 149 150 7 yN 0),(135,yu 148 129 5 yW 0),(121,yl 134 9 5 50 yW 0)],bk:=[(6,yc 9 7),(5,yc 8 7),(4,yc 7 5)]}))
   (.br (.aC (.var 0) (.lit 4))
    (.call 3 {lo:=0,az:=0,iv:=[(4,yv 45),(2,yv 60),(1,yv 59)],bv:=[(0,yw 58)],ct:=[(3,yu 70 59 7 yN 0)],bk:=[(0,yc 3 7)]} 71 <|
     .call 4 {lo:=0,az:=0,iv:=[(70,yv 72),(65,yv 65),(64,yv 64),(63,yv 63),(62,yv 62),(61,yv 61),(60,yv 60),(59,yv 59),(57,yv 57),(56,yv 56),(3,yv 3),(2,yv 2),(1,yv 1),(0,yv 0),(53,yv 73),(52,yv 72),(69,.lit 0),(50,yv 50),(49,yv 49),(47,yv 47),(45,yv 45),(44,yv 44),(43,yv 43),(42,yv 42),(40,yv 40),(39,yv 39),(38,yv 38),(37,yv 37),(35,yv 35),(34,yv 34),(33,yv 33),(32,yv 32),(30,yv 30),(29,yv 29),(28,yv 28),(27,yv 27),(26,yv 26),(25,yv 25),(24,yv 24),(23,yv 23),(22,yv 22),(21,yv 21),(20,yv 20),(19,yv 19),(18,yv 18),(16,yv 16),(15,yv 15),(14,yv 14),(13,yv 13),(11,yv 11),(10,yv 10),(9,yv 9),(8,yv 8),(7,yv 7),(6,yv 6),(5,yv 5),(4,yv 4)],bv:=[(67,yw 67),(66,yw 66),(58,yw 58),(55,yw 55),(51,yw 71),(48,yw 48),(46,yw 46),(41,yw 41),(36,yw 36),(31,yw 31),(17,yw 17),(12,yw 12)],ct:=[(70,yu 70 59 7 yN 0),(69,yu 74 72 7 yN 0),(68,yu 68 49 5 yW 0),(54,yl 54 9 5 50 yW 0)],bk:=[(3,yc 3 7),(2,yc 4 7),(1,yc 1 5),(0,yb 0)]} 79 <|
     .fin {lo:=71,az:=4,iv:=[(137,yv 145),(132,yv 140),(131,yv 139),(130,yv 138),(129,yv 137),(128,yv 136),(127,yv 135),(126,yv 134),(124,yv 132),(123,yv 131),(120,yv 128),(119,yv 127),(136,yv 144),(117,yv 125),(116,yv 124),(114,yv 122),(112,yv 120),(111,yv 119),(110,yv 118),(109,yv 117),(107,yv 115),(106,yv 114),(105,yv 113),(104,yv 112),(102,yv 110),(101,yv 109),(100,yv 108),(99,yv 107),(97,yv 105),(96,yv 104),(95,yv 103),(94,yv 102),(93,yv 101),(92,yv 100),(91,yv 99),(90,yv 98),(89,yv 97),(88,yv 96),(87,yv 95),(86,yv 94),(85,yv 93),(83,yv 91),(82,yv 90),(81,yv 89),(80,yv 88),(78,yv 86),(77,yv 85),(76,yv 84),(75,yv 83),(74,yv 82),(73,yv 81),(72,yv 80),(71,yv 79)],bv:=[(134,yw 142),(133,yw 141),(125,yw 133),(122,yw 130),(118,yw 126),(115,yw 123),(113,yw 121),(108,yw 116),(103,yw 111),(98,yw 106),(84,yw 92),(79,yw 87)],ct:=[(137,yu 145 134 7 yN 0),(136,yu 144 145 7 yN 0),(135,yu 143 124 5 yW 0),(121,yl 129 9 5 50 yW 0)],bk:=[(6,yc 8 7),(5,yc 7 7),(4,yc 6 5)]})
    (.call 4 {lo:=0,az:=0,iv:=[(70,yv 70),(65,yv 65),(64,yv 64),(63,yv 63),(62,yv 62),(61,yv 61),(60,yv 60),(59,yv 59),(57,yv 57),(56,yv 56),(3,yv 3),(2,yv 2),(1,yv 1),(0,yv 0),(53,yv 53),(52,yv 52),(69,yv 69),(50,yv 50),(49,yv 49),(47,yv 47),(45,yv 45),(44,yv 44),(43,yv 43),(42,yv 42),(40,yv 40),(39,yv 39),(38,yv 38),(37,yv 37),(35,yv 35),(34,yv 34),(33,yv 33),(32,yv 32),(30,yv 30),(29,yv 29),(28,yv 28),(27,yv 27),(26,yv 26),(25,yv 25),(24,yv 24),(23,yv 23),(22,yv 22),(21,yv 21),(20,yv 20),(19,yv 19),(18,yv 18),(16,yv 16),(15,yv 15),(14,yv 14),(13,yv 13),(11,yv 11),(10,yv 10),(9,yv 9),(8,yv 8),(7,yv 7),(6,yv 6),(5,yv 5),(4,yv 4)],bv:=[(67,yw 67),(66,yw 66),(58,yw 58),(55,yw 55),(51,yw 51),(48,yw 48),(46,yw 46),(41,yw 41),(36,yw 36),(31,yw 31),(17,yw 17),(12,yw 12)],ct:=[(70,yu 70 59 7 yN 0),(69,yu 69 70 7 yN 0),(68,yu 68 49 5 yW 0),(54,yl 54 9 5 50 yW 0)],bk:=[(3,yc 3 7),(2,yc 2 7),(1,yc 1 5),(0,yb 0)]} 71 <|
     .fin {lo:=71,az:=4,iv:=[(137,yv 137),(132,yv 132),(131,yv 131),(130,yv 130),(129,yv 129),(128,yv 128),(127,yv 127),(126,yv 126),(124,yv 124),(123,yv 123),(120,yv 120),(119,yv 119),(136,yv 136),(117,yv 117),(116,yv 116),(114,yv 114),(112,yv 112),(111,yv 111),(110,yv 110),(109,yv 109),(107,yv 107),(106,yv 106),(105,yv 105),(104,yv 104),(102,yv 102),(101,yv 101),(100,yv 100),(99,yv 99),(97,yv 97),(96,yv 96),(95,yv 95),(94,yv 94),(93,yv 93),(92,yv 92),(91,yv 91),(90,yv 90),(89,yv 89),(88,yv 88),(87,yv 87),(86,yv 86),(85,yv 85),(83,yv 83),(82,yv 82),(81,yv 81),(80,yv 80),(78,yv 78),(77,yv 77),(76,yv 76),(75,yv 75),(74,yv 74),(73,yv 73),(72,yv 72),(71,yv 71)],bv:=[(134,yw 134),(133,yw 133),(125,yw 125),(122,yw 122),(118,yw 118),(115,yw 115),(113,yw 113),(108,yw 108),(103,yw 103),(98,yw 98),(84,yw 84),(79,yw 79)],ct:=[(137,yu 137 126 7 yN 0),(136,yu 136 137 7 yN 0),(135,yu 135 116 5 yW 0),(121,yl 121 9 5 50 yW 0)],bk:=[(6,yc 6 7),(5,yc 5 7),(4,yc 4 5)]}))))
theorem QJ:exec tab Sb 8000 [] (fV jK.f jK.nv [] jK.gl jK.hp jK.args)=En:=by kernel_rfl
def rQ (ρ:Env):Prop:=bJ ρ 4∧(ρ.iv 59≤1000000∧(ρ.iv 0=4∨ρ.iv 49≤100000))∧(ρ.iv 0=4→Dl ρ 42)
def Bu (ρ:Env):Prop:=bJ ρ 71∧ae ρ 0 71=(ae ρ 0 4).eY
theorem zM {r:RS} (h:2≤r.ak∧r.ak≤5) {l:List Nt} (hl:l=r.notes.filter fun n=>!r.kept n):r.eY=({r with bI:=l}:RS).eG:=by
 subst hl
 unfold RS.eY
 rw [if_pos h]
def Mh (ρ:Env):Prop:=(rQ ρ∧ρ.iv 0=3)∧(0≤ρ.iv 75∧ρ.iv 75≤ρ.iv 49)∧(aZ ρ 71∧ρ.iv 72=ρ.iv 75)∧oK ρ 74 (ρ.iv 72)=((dV ρ 68 (ρ.iv 49)).take (ρ.iv 75).toNat).map Wd.num
def Gh (ρ:Env):Prop:=(rQ ρ∧ρ.iv 0=5)∧(0≤ρ.iv 75∧ρ.iv 75≤ρ.iv 49)∧(aZ ρ 71∧ρ.iv 72=ρ.iv 75)∧il ρ 74 (ρ.iv 72)=((dV ρ 68 (ρ.iv 49)).take (ρ.iv 75).toNat).map RS.iP
set_option maxHeartbeats 4000000 in
theorem QK (ρ:Env) (hpre:rQ ρ.num):Sat Bu zL [] ρ En:=by
 replace hpre:rQ ρ:=hpre
 have hpre':=hpre
 obtain ⟨⟨o1,o2,o3⟩,⟨f1,f2⟩,hw⟩:=hpre
 unfold En
 refine Sat.br (fun c=>?_) (fun c=>?_)
 ·simp only [Da] at c
  have e0:(ae ρ 0 4).ak=2:=c
  refine Sat.gX (c:=lg) rfl ⟨o3,f1,o1,by show ρ.iv 49≤1000000;omega⟩ (fun q=>(bJ q 4)∧aZ q 71∧(ae q 0 4).eY=({ae q 0 4 with bI:=aW q 74 (q.iv 72)}:RS).eG) (fun e hq=>?_) fun q hq=>?_
  ·replace hq:IU (aG _ 8 71 ρ (ρ.join 71 e)):=hq
   obtain ⟨q1,q2⟩:=hq
   rw [show aZ (aG _ 8 71 ρ (ρ.join 71 e)) 8=aZ (ρ.join 71 e) 71 from l5 (m:=8) 0] at q1
   rw [show aW (aG _ 8 71 ρ (ρ.join 71 e)) 11 ((aG _ 8 71 ρ (ρ.join 71 e)).iv 9)=aW (ρ.join 71 e) 74 ((ρ.join 71 e).iv 72) from rf (m:=8) 3 1] at q2
   refine ⟨⟨o1,o2,o3⟩,q1,zM (r:=ae ρ 0 4) ⟨by rw [e0];decide,by rw [e0];decide⟩ (q2.trans ?_)⟩
   refine congr (congrArg List.filter ?_) ?_
   ·funext n
    refine congrArg (fun b=>!b) ?_
    unfold RS.kept
    rw [if_pos e0]
    refine congrArg (fun l:List Wd=>l.any fun w=>RS.sI w n) ?_
    exact Di rfl fun i=>by simp [aD,aG,-Int.pred_toNat,Sub.af,assoc,CV.I,CV.B,ah,ai,aa.I,aa.B,SC.I,SC.B,IE.den,BE.den]
   ·exact fJ rfl fun i=>by simp [bP,aD,aG,-Int.pred_toNat,Sub.af,assoc,CV.I,CV.B,ah,ai,aa.I,aa.B,SC.I,SC.B,IE.den,BE.den]
  obtain ⟨⟨o1,o2,o3⟩,od,hm⟩:=hq
  refine eB (c:=gp) rfl ({ae q 0 4 with bI:=aW q 74 (q.iv 72)}:RS) ({ae q 0 4 with bI:=aW q 74 (q.iv 72)}:RS).eG (by decide) (by decide) (jE rfl rfl rfl rfl) ⟨o1,⟨od,Int.le_refl 0,.inr (by show (0:Int)+_≤_;rw [Int.zero_add];exact Int.le_refl _)⟩,o3⟩ (RS.ext' rfl rfl rfl rfl rfl rfl bg (w9 rfl rfl fun i=>by simp [bP,aD,-Int.pred_toNat,Sub.af,assoc,CV.I,CV.B,ah,ai,aa.I,aa.B,SC.I,SC.B,IE.den,BE.den]) rfl rfl rfl rfl bE rfl bz rfl rfl) (fun e hq hr=>⟨hq.1,by rw [←hr];exact hq.2⟩) (fun u=>(bJ u 79)∧ae u 0 79=(ae u 0 4).eY) (fun e h1 h2=>⟨h1,h2.trans hm.symm⟩) fun u hu=>?_
  obtain ⟨⟨o1,o2,o3⟩,hm⟩:=hu
  exact Sat.fin ⟨⟨(by first | exact o1 | exact o2 | exact o3 | exact aj rfl rfl | assumption),(by first | exact o2 | exact ⟨aj rfl rfl,Int.le_refl 0,.inl rfl⟩ | assumption),(by first | exact o1 | exact o2 | exact o3 | exact aj rfl rfl | assumption)⟩,Eq.trans (b:=(ae u 0 79)) (RS.ext' rfl rfl rfl rfl rfl rfl bg bB rfl rfl rfl rfl bE rfl bz rfl rfl) (Eq.symm (hm.symm))⟩
 simp only [Da] at c
 refine Sat.br (fun c3=>?_) (fun c3=>?_)
 ·simp only [Da] at c3
  refine Sat.ob (aO o1) (Sat.ob (decide_eq_true o1.2.1) (Sat.ug Mh (fun r=>(r.iv 49-r.iv 75).toNat) (fun _=>True) ⟨⟨hpre',c3⟩,⟨Int.le_refl 0,o1.2.1⟩,⟨aj rfl rfl,rfl⟩,rfl⟩ (fun _=>trivial) fun q _ hI=>?_))
  replace hI:Mh q:=hI
  have hI':=hI
  obtain ⟨⟨hpre',he⟩,⟨i1,i2⟩,⟨os,hl⟩,hrow⟩:=hI
  have hpre:=hpre'
  obtain ⟨⟨o1,o2,o3⟩,⟨f1,f2⟩,hw⟩:=hpre
  refine Sat.br (fun c=>?_) (fun c=>?_)
  ·simp only [Da] at c
   refine Sat.ob (bR o1 (by simp only [Nat.reduceAdd];omega)) (Sat.ob (decide_eq_true i1) ?_)
   obtain ⟨p1,p2,p3,p4⟩:=id os
   refine Sat.ob (by simp only [Da];omega) (Sat.ob (decide_eq_true p2) (Sat.ob (decide_eq_true p3) (Sat.ob (decide_eq_true p4) (Sat.ob (aO os) (Sat.yM (fun u=>Mh u∧u.iv 75<u.iv 49∧(u.iv 49-(u.iv 75+1)).toNat<(q.iv 49-q.iv 75).toNat) (fun e=>⟨hI',c,by show (q.iv 49-(q.iv 75+1)).toNat<(q.iv 49-q.iv 75).toNat;omega⟩) fun u hu hb=>?_)))))
   obtain ⟨⟨⟨hpre',he⟩,⟨i1,i2⟩,⟨os,hl⟩,hrow⟩,c,hd⟩:=hu
   simp only [Da] at hb
   obtain ⟨p1,p2,p3,p4⟩:=id os
   replace p2:0≤u.iv 72:=p2
   have hf2:=hpre'.2.1.2
   refine Sat.ob (by simp only [Da];omega) (Sat.back rfl ⟨⟨⟨hpre',he⟩,⟨?_,?_⟩,⟨⟨fun h=>(by cases h),?_,hb.1,hb.2⟩,?_⟩,?_⟩,hd⟩)
   ·show 0≤u.iv 75+1;omega
   ·show u.iv 75+1≤u.iv 49;omega
   ·show 0≤u.iv 72+1;omega
   ·show u.iv 72+1=u.iv 75+1;omega
   ·refine (Mf (ρ:=u) (r:=74) (n:=u.iv 72) (w:=Wd.num (aD (u.ic 68 (u.iv 75).toNat 0) (u.bc 68 (u.iv 75).toNat 0))) p2 rfl (fun i hi=>?_) ?_).trans ?_
    ·have hn:¬(u.iv 72).toNat=i:=fun h=>by omega
     simp [kR,aD,-Int.pred_toNat,Sub.af,assoc,CV.I,CV.B,ah,ai,aa.I,aa.B,SC.I,SC.B,IE.den,BE.den,hn]
    ·simp [aD,-Int.pred_toNat,Sub.af,assoc,CV.I,CV.B,ah,ai,aa.I,aa.B,SC.I,SC.B,IE.den,BE.den,hl]
    ·show oK u 74 (u.iv 72) ++ _=((dV u 68 (u.iv 49)).take (u.iv 75+1).toNat).map Wd.num
     rw [hrow,show (u.iv 75+1).toNat=(u.iv 75).toNat+1 by omega,oL (by omega),List.map_append]
     rfl
  ·simp only [Da] at c
   have e0:(ae q 0 4).ak=3:=he
   rw [xc (by omega)] at hrow
   refine Sat.gX (c:=mI) rfl ⟨o3,f1,os,by show q.iv 72≤1000000;omega⟩ (fun u=>(bJ u 4)∧aZ u 76∧(ae u 0 4).eY=({ae u 0 4 with bI:=aW u 79 (u.iv 77)}:RS).eG) (fun e hq=>?_) fun u hu=>?_
   ·replace hq:LZ (aG _ 8 76 q (q.join 76 e)):=hq
    obtain ⟨q1,q2⟩:=hq
    rw [show aZ (aG _ 8 76 q (q.join 76 e)) 8=aZ (q.join 76 e) 76 from l5 (m:=8) 0] at q1
    rw [show aW (aG _ 8 76 q (q.join 76 e)) 11 ((aG _ 8 76 q (q.join 76 e)).iv 9)=aW (q.join 76 e) 79 ((q.join 76 e).iv 77) from rf (m:=8) 3 1] at q2
    refine ⟨⟨o1,o2,o3⟩,q1,zM (r:=ae q 0 4) ⟨by rw [e0];decide,by rw [e0];decide⟩ (q2.trans ?_)⟩
    refine congr (congrArg List.filter ?_) ?_
    ·funext n
     refine congrArg (fun b=>!b) ?_
     unfold RS.kept
     rw [if_neg (show ¬(ae q 0 4).ak=2 by rw [e0];decide),if_pos e0]
     refine (congrArg (fun l:List Int=>l.any fun e=>RS.rO e n) (Eq.trans (b:=oK q 74 (q.iv 72)) (Ma rfl fun i=>by simp [aG,-Int.pred_toNat,Sub.af,assoc,CV.I,CV.B,ah,ai,aa.I,aa.B,SC.I,SC.B,IE.den,BE.den]) hrow)).trans ?_
     rw [List.any_map]
     rfl
    ·exact fJ rfl fun i=>by simp [bP,aD,aG,-Int.pred_toNat,Sub.af,assoc,CV.I,CV.B,ah,ai,aa.I,aa.B,SC.I,SC.B,IE.den,BE.den]
   obtain ⟨⟨o1,o2,o3⟩,od,hm⟩:=hu
   refine eB (c:=gp) rfl ({ae u 0 4 with bI:=aW u 79 (u.iv 77)}:RS) ({ae u 0 4 with bI:=aW u 79 (u.iv 77)}:RS).eG (by decide) (by decide) (jE rfl rfl rfl rfl) ⟨o1,⟨od,Int.le_refl 0,.inr (by show (0:Int)+_≤_;rw [Int.zero_add];exact Int.le_refl _)⟩,o3⟩ (RS.ext' rfl rfl rfl rfl rfl rfl bg (w9 rfl rfl fun i=>by simp [bP,aD,-Int.pred_toNat,Sub.af,assoc,CV.I,CV.B,ah,ai,aa.I,aa.B,SC.I,SC.B,IE.den,BE.den]) rfl rfl rfl rfl bE rfl bz rfl rfl) (fun e hq hr=>⟨hq.1,by rw [←hr];exact hq.2⟩) (fun u=>(bJ u 84)∧ae u 0 84=(ae u 0 4).eY) (fun e h1 h2=>⟨h1,h2.trans hm.symm⟩) fun u hu=>?_
   obtain ⟨⟨o1,o2,o3⟩,hm⟩:=hu
   exact Sat.fin ⟨⟨(by first | exact o1 | exact o2 | exact o3 | exact aj rfl rfl | assumption),(by first | exact o2 | exact ⟨aj rfl rfl,Int.le_refl 0,.inl rfl⟩ | assumption),(by first | exact o1 | exact o2 | exact o3 | exact aj rfl rfl | assumption)⟩,Eq.trans (b:=(ae u 0 84)) (RS.ext' rfl rfl rfl rfl rfl rfl bg bB rfl rfl rfl rfl bE rfl bz rfl rfl) (Eq.symm (hm.symm))⟩
 simp only [Da] at c3
 refine Sat.br (fun c5=>?_) (fun c5=>?_)
 ·simp only [Da] at c5
  refine Sat.ob (aO o1) (Sat.ob (decide_eq_true o1.2.1) (Sat.ug Gh (fun r=>(r.iv 49-r.iv 75).toNat) (fun _=>True) ⟨⟨hpre',c5⟩,⟨Int.le_refl 0,o1.2.1⟩,⟨aj rfl rfl,rfl⟩,rfl⟩ (fun _=>trivial) fun q _ hI=>?_))
  replace hI:Gh q:=hI
  have hI':=hI
  obtain ⟨⟨hpre',he⟩,⟨i1,i2⟩,⟨os,hl⟩,hrow⟩:=hI
  have hpre:=hpre'
  obtain ⟨⟨o1,o2,o3⟩,⟨f1,f2⟩,hw⟩:=hpre
  refine Sat.br (fun c=>?_) (fun c=>?_)
  ·simp only [Da] at c
   refine Sat.ob (bR o1 (by simp only [Nat.reduceAdd];omega)) (Sat.ob (decide_eq_true i1) ?_)
   obtain ⟨p1,p2,p3,p4⟩:=id os
   refine Sat.br (fun c2=>?_) (fun c2=>?_)
   ·simp only [Da] at c2
    refine Sat.ob (by simp only [Da];omega) (Sat.ob (decide_eq_true p2) (Sat.ob (decide_eq_true p3) (Sat.ob (decide_eq_true p4) (Sat.ob (aO os) (Sat.yM (fun u=>Gh u∧u.iv 75<u.iv 49∧(u.iv 49-(u.iv 75+1)).toNat<(q.iv 49-q.iv 75).toNat∧u.bc 68 (u.iv 75).toNat 0 4=false) (fun e=>⟨hI',c,by show (q.iv 49-(q.iv 75+1)).toNat<(q.iv 49-q.iv 75).toNat;omega,c2⟩) fun u hu hb=>?_)))))
    obtain ⟨⟨⟨hpre',he⟩,⟨i1,i2⟩,⟨os,hl⟩,hrow⟩,c,hd,hc⟩:=hu
    simp only [Da] at hb
    obtain ⟨p1,p2,p3,p4⟩:=id os
    replace p2:0≤u.iv 72:=p2
    have hf2:=hpre'.2.1.2
    refine Sat.ob (by simp only [Da];omega) (Sat.back rfl ⟨⟨⟨hpre',he⟩,⟨?_,?_⟩,⟨⟨fun h=>(by cases h),?_,hb.1,hb.2⟩,?_⟩,?_⟩,hd⟩)
    ·show 0≤u.iv 75+1;omega
    ·show u.iv 75+1≤u.iv 49;omega
    ·show 0≤u.iv 72+1;omega
    ·show u.iv 72+1=u.iv 75+1;omega
    ·refine (rq (ρ:=u) (r:=74) (n:=u.iv 72) (w:=RS.iP (aD (u.ic 68 (u.iv 75).toNat 0) (u.bc 68 (u.iv 75).toNat 0))) p2 rfl (fun i hi=>?_) ?_).trans ?_
     ·have hn:¬(u.iv 72).toNat=i:=fun h=>by omega
      simp [kR,aD,-Int.pred_toNat,Sub.af,assoc,CV.I,CV.B,ah,ai,aa.I,aa.B,SC.I,SC.B,IE.den,BE.den,hn]
     ·simp [kR,aD,RS.iP,Sp.zero,-Int.pred_toNat,Sub.af,assoc,CV.I,CV.B,ah,ai,aa.I,aa.B,SC.I,SC.B,IE.den,BE.den,hl,hc]
     ·show il u 74 (u.iv 72) ++ _=((dV u 68 (u.iv 49)).take (u.iv 75+1).toNat).map RS.iP
      rw [hrow,show (u.iv 75+1).toNat=(u.iv 75).toNat+1 by omega,oL (by omega),List.map_append]
      rfl
   ·simp only [Da] at c2
    refine Sat.ob (by simp only [Da];omega) (Sat.ob (decide_eq_true p2) (Sat.ob (decide_eq_true p3) (Sat.ob (decide_eq_true p4) (Sat.ob (aO os) (Sat.yM (fun u=>Gh u∧u.iv 75<u.iv 49∧(u.iv 49-(u.iv 75+1)).toNat<(q.iv 49-q.iv 75).toNat∧u.bc 68 (u.iv 75).toNat 0 4=true) (fun e=>⟨hI',c,by show (q.iv 49-(q.iv 75+1)).toNat<(q.iv 49-q.iv 75).toNat;omega,c2⟩) fun u hu hb=>?_)))))
    obtain ⟨⟨⟨hpre',he⟩,⟨i1,i2⟩,⟨os,hl⟩,hrow⟩,c,hd,hc⟩:=hu
    simp only [Da] at hb
    obtain ⟨p1,p2,p3,p4⟩:=id os
    replace p2:0≤u.iv 72:=p2
    have hf2:=hpre'.2.1.2
    refine Sat.ob (by simp only [Da];omega) (Sat.back rfl ⟨⟨⟨hpre',he⟩,⟨?_,?_⟩,⟨⟨fun h=>(by cases h),?_,hb.1,hb.2⟩,?_⟩,?_⟩,hd⟩)
    ·show 0≤u.iv 75+1;omega
    ·show u.iv 75+1≤u.iv 49;omega
    ·show 0≤u.iv 72+1;omega
    ·show u.iv 72+1=u.iv 75+1;omega
    ·refine (rq (ρ:=u) (r:=74) (n:=u.iv 72) (w:=RS.iP (aD (u.ic 68 (u.iv 75).toNat 0) (u.bc 68 (u.iv 75).toNat 0))) p2 rfl (fun i hi=>?_) ?_).trans ?_
     ·have hn:¬(u.iv 72).toNat=i:=fun h=>by omega
      simp [kR,aD,-Int.pred_toNat,Sub.af,assoc,CV.I,CV.B,ah,ai,aa.I,aa.B,SC.I,SC.B,IE.den,BE.den,hn]
     ·simp [kR,aD,RS.iP,-Int.pred_toNat,Sub.af,assoc,CV.I,CV.B,ah,ai,aa.I,aa.B,SC.I,SC.B,IE.den,BE.den,hl,hc]
     ·show il u 74 (u.iv 72) ++ _=((dV u 68 (u.iv 49)).take (u.iv 75+1).toNat).map RS.iP
      rw [hrow,show (u.iv 75+1).toNat=(u.iv 75).toNat+1 by omega,oL (by omega),List.map_append]
      rfl
  ·simp only [Da] at c
   have e0:(ae q 0 4).ak=5:=he
   rw [xc (by omega)] at hrow
   refine Sat.gX (c:=lh) rfl ⟨o3,f1,os,by show q.iv 72≤1000000;omega⟩ (fun u=>(bJ u 4)∧aZ u 76∧(ae u 0 4).eY=({ae u 0 4 with bI:=aW u 79 (u.iv 77)}:RS).eG) (fun e hq=>?_) fun u hu=>?_
   ·replace hq:IV (aG _ 8 76 q (q.join 76 e)):=hq
    obtain ⟨q1,q2⟩:=hq
    rw [show aZ (aG _ 8 76 q (q.join 76 e)) 8=aZ (q.join 76 e) 76 from l5 (m:=8) 0] at q1
    rw [show aW (aG _ 8 76 q (q.join 76 e)) 11 ((aG _ 8 76 q (q.join 76 e)).iv 9)=aW (q.join 76 e) 79 ((q.join 76 e).iv 77) from rf (m:=8) 3 1] at q2
    refine ⟨⟨o1,o2,o3⟩,q1,zM (r:=ae q 0 4) ⟨by rw [e0];decide,by rw [e0];decide⟩ (q2.trans ?_)⟩
    refine congr (congrArg List.filter ?_) ?_
    ·funext n
     refine congrArg (fun b=>!b) ?_
     unfold RS.kept
     rw [if_neg (show ¬(ae q 0 4).ak=2 by rw [e0];decide),if_neg (show ¬(ae q 0 4).ak=3 by rw [e0];decide),if_pos e0]
     refine (congrArg (fun l:List Sp=>l.any fun s=>RS.pF s n) (Eq.trans (b:=il q 74 (q.iv 72)) (Dm rfl fun i=>by simp [kR,aG,-Int.pred_toNat,Sub.af,assoc,CV.I,CV.B,ah,ai,aa.I,aa.B,SC.I,SC.B,IE.den,BE.den]) hrow)).trans ?_
     rw [List.any_map]
     rfl
    ·exact fJ rfl fun i=>by simp [bP,aD,aG,-Int.pred_toNat,Sub.af,assoc,CV.I,CV.B,ah,ai,aa.I,aa.B,SC.I,SC.B,IE.den,BE.den]
   obtain ⟨⟨o1,o2,o3⟩,od,hm⟩:=hu
   refine eB (c:=gp) rfl ({ae u 0 4 with bI:=aW u 79 (u.iv 77)}:RS) ({ae u 0 4 with bI:=aW u 79 (u.iv 77)}:RS).eG (by decide) (by decide) (jE rfl rfl rfl rfl) ⟨o1,⟨od,Int.le_refl 0,.inr (by show (0:Int)+_≤_;rw [Int.zero_add];exact Int.le_refl _)⟩,o3⟩ (RS.ext' rfl rfl rfl rfl rfl rfl bg (w9 rfl rfl fun i=>by simp [bP,aD,-Int.pred_toNat,Sub.af,assoc,CV.I,CV.B,ah,ai,aa.I,aa.B,SC.I,SC.B,IE.den,BE.den]) rfl rfl rfl rfl bE rfl bz rfl rfl) (fun e hq hr=>⟨hq.1,by rw [←hr];exact hq.2⟩) (fun u=>(bJ u 84)∧ae u 0 84=(ae u 0 4).eY) (fun e h1 h2=>⟨h1,h2.trans hm.symm⟩) fun u hu=>?_
   obtain ⟨⟨o1,o2,o3⟩,hm⟩:=hu
   exact Sat.fin ⟨⟨(by first | exact o1 | exact o2 | exact o3 | exact aj rfl rfl | assumption),(by first | exact o2 | exact ⟨aj rfl rfl,Int.le_refl 0,.inl rfl⟩ | assumption),(by first | exact o1 | exact o2 | exact o3 | exact aj rfl rfl | assumption)⟩,Eq.trans (b:=(ae u 0 84)) (RS.ext' rfl rfl rfl rfl rfl rfl bg bB rfl rfl rfl rfl bE rfl bz rfl rfl) (Eq.symm (hm.symm))⟩
 simp only [Da] at c5
 refine Sat.br (fun c4=>?_) (fun c4=>?_)
 ·simp only [Da] at c4
  have e0:(ae ρ 0 4).ak=4:=c4
  obtain ⟨⟨w1,w2⟩,w3,w4⟩:=hw c4
  simp only [Nat.reduceAdd] at w1 w2 w3 w4
  refine Sat.gX (c:=jS) rfl ⟨o3,f1,by show -9223372036854775808≤ρ.iv 45;omega,by show ρ.iv 45≤9223372036854775807;omega⟩ (fun q=>(bJ q 4)∧aZ q 71∧(ae q 0 4).eY=({ae q 0 4 with bI:=aW q 74 (q.iv 72)}:RS).eG) (fun e hq=>?_) fun q hq=>?_
  ·replace hq:Em (aG _ 8 71 ρ (ρ.join 71 e)):=hq
   obtain ⟨q1,q2⟩:=hq
   rw [show aZ (aG _ 8 71 ρ (ρ.join 71 e)) 8=aZ (ρ.join 71 e) 71 from l5 (m:=8) 0] at q1
   rw [show aW (aG _ 8 71 ρ (ρ.join 71 e)) 11 ((aG _ 8 71 ρ (ρ.join 71 e)).iv 9)=aW (ρ.join 71 e) 74 ((ρ.join 71 e).iv 72) from rf (m:=8) 3 1] at q2
   refine ⟨⟨o1,o2,o3⟩,q1,zM (r:=ae ρ 0 4) ⟨by rw [e0];decide,by rw [e0];decide⟩ (q2.trans ?_)⟩
   refine congr (congrArg List.filter ?_) ?_
   ·funext n
    refine congrArg (fun b=>!b) ?_
    unfold RS.kept
    rw [if_neg (show ¬(ae ρ 0 4).ak=2 by rw [e0];decide),if_neg (show ¬(ae ρ 0 4).ak=3 by rw [e0];decide),if_neg (show ¬(ae ρ 0 4).ak=5 by rw [e0];decide),if_pos e0]
    rfl
   ·exact fJ rfl fun i=>by simp [bP,aD,aG,-Int.pred_toNat,Sub.af,assoc,CV.I,CV.B,ah,ai,aa.I,aa.B,SC.I,SC.B,IE.den,BE.den]
  obtain ⟨⟨o1,o2,o3⟩,od,hm⟩:=hq
  refine eB (c:=gp) rfl ({ae q 0 4 with bI:=aW q 74 (q.iv 72)}:RS) ({ae q 0 4 with bI:=aW q 74 (q.iv 72)}:RS).eG (by decide) (by decide) (jE rfl rfl rfl rfl) ⟨o1,⟨od,Int.le_refl 0,.inr (by show (0:Int)+_≤_;rw [Int.zero_add];exact Int.le_refl _)⟩,o3⟩ (RS.ext' rfl rfl rfl rfl rfl rfl bg (w9 rfl rfl fun i=>by simp [bP,aD,-Int.pred_toNat,Sub.af,assoc,CV.I,CV.B,ah,ai,aa.I,aa.B,SC.I,SC.B,IE.den,BE.den]) rfl rfl rfl rfl bE rfl bz rfl rfl) (fun e hq hr=>⟨hq.1,by rw [←hr];exact hq.2⟩) (fun u=>(bJ u 79)∧ae u 0 79=(ae u 0 4).eY) (fun e h1 h2=>⟨h1,h2.trans hm.symm⟩) fun u hu=>?_
  obtain ⟨⟨o1,o2,o3⟩,hm⟩:=hu
  exact Sat.fin ⟨⟨(by first | exact o1 | exact o2 | exact o3 | exact aj rfl rfl | assumption),(by first | exact o2 | exact ⟨aj rfl rfl,Int.le_refl 0,.inl rfl⟩ | assumption),(by first | exact o1 | exact o2 | exact o3 | exact aj rfl rfl | assumption)⟩,Eq.trans (b:=(ae u 0 79)) (RS.ext' rfl rfl rfl rfl rfl rfl bg bB rfl rfl rfl rfl bE rfl bz rfl rfl) (Eq.symm (hm.symm))⟩
 ·simp only [Da] at c4
  have hm:(ae ρ 0 4).eY=(ae ρ 0 4).eG:=by
   unfold RS.eY
   rw [if_neg (show ¬(2≤(ae ρ 0 4).ak∧(ae ρ 0 4).ak≤5) by show ¬(2≤ρ.iv 0∧ρ.iv 0≤5);omega)]
  refine eB (c:=gp) rfl (ae ρ 0 4) (ae ρ 0 4).eG (by decide) (by decide) (jE rfl rfl rfl rfl) ⟨o1,o2,o3⟩ (RS.ext' rfl rfl rfl rfl rfl rfl bg bB rfl rfl rfl rfl bE rfl bz rfl rfl) (fun e hq hr=>⟨hq.1,by rw [←hr];exact hq.2⟩) (fun u=>(bJ u 71)∧ae u 0 71=(ae u 0 4).eY) (fun e h1 h2=>⟨h1,h2.trans hm.symm⟩) fun u hu=>?_
  obtain ⟨⟨o1,o2,o3⟩,hm⟩:=hu
  exact Sat.fin ⟨⟨(by first | exact o1 | exact o2 | exact o3 | exact aj rfl rfl | assumption),(by first | exact o2 | exact ⟨aj rfl rfl,Int.le_refl 0,.inl rfl⟩ | assumption),(by first | exact o1 | exact o2 | exact o3 | exact aj rfl rfl | assumption)⟩,Eq.trans (b:=(ae u 0 71)) (RS.ext' rfl rfl rfl rfl rfl rfl bg bB rfl rfl rfl rfl bE rfl bz rfl rfl) (Eq.symm (hm.symm))⟩
theorem QL:bC Tryd.prog jK rQ Bu :=
 dJ fu (E:=Sb) (cs:=zL) rfl Mg di rfl QJ (by kernel_rfl) (fun ρ _ p hp=>by cases hp) QK
end Go.Proofs.YthomdlajobnmnaaDoor
