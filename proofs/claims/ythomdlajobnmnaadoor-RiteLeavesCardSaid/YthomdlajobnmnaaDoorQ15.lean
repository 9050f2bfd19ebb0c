/- part 15 of the proof -/
import Derived.Test.YthomdlajobnmnaaDoorQ14
set_option linter.unusedSimpArgs false
set_option linter.unusedVariables false
namespace Go.Proofs.YthomdlajobnmnaaDoor
open Go.Rex
section
variable {σ:Sub} {ρ q:Env} {m d:Nat}
theorem rZ (k j:Nat):aV (aH σ m d ρ q) (m+k) ((aH σ m d ρ q).iv (m+j))=aV q (d+k) (q.iv (d+j)):=by
 unfold aV
 rw [zC,iB]
end
theorem NC {ρ ρ':Env} {r r':Nat} {n n':Int} (hn:n=n') (h:∀i,ρ.ic r i 0 0=ρ'.ic r' i 0 0):pI ρ r n=pI ρ' r' n':=by
 subst hn
 unfold pI
 congr 1
 funext i
 exact h i
theorem En {ρ ρ':Env} {r r':Nat} {n n':Int} (hn:n=n') (h:∀i,lF ρ r i=lF ρ' r' i):iH ρ r n=iH ρ' r' n':=by
 subst hn
 unfold iH
 congr 1
 funext i
 exact h i
theorem ND {ρ ρ':Env} {r r':Nat} {n n':Int} {w:Int} (h0:0≤n) (hn:n'=n+1) (h:∀i:Nat,(i:Int)<n→ρ'.ic r' i 0 0=ρ.ic r i 0 0) (hw:ρ'.ic r' n.toNat 0 0=w) :
  pI ρ' r' n'=pI ρ r n ++ [w]:=by
 subst hn hw
 unfold pI
 rw [show (n+1).toNat=n.toNat+1 by omega,List.range_succ,List.map_append]
 congr 1
 exact List.map_congr_left fun i hi=>h i (by have:=List.mem_range.1 hi;omega)
theorem xS {ρ ρ':Env} {r r':Nat} {o n n':Int} (ho:o=0) (hn:n=n') (h:∀i,bO ρ r i=bO ρ' r' i):ig ρ r o n=aV ρ' r' n':=by
 subst ho
 rw [Ni]
 exact gB hn h
theorem r9 {ρ ρ':Env} {r r':Nat} {n n':Int} {w:Sp} (h0:0≤n) (hn:n'=n+1) (h:∀i:Nat,(i:Int)<n→lF ρ' r' i=lF ρ r i) (hw:lF ρ' r' n.toNat=w) :
  iH ρ' r' n'=iH ρ r n ++ [w]:=by
 subst hn hw
 unfold iH
 rw [show (n+1).toNat=n.toNat+1 by omega,List.range_succ,List.map_append]
 congr 1
 exact List.map_congr_left fun i hi=>h i (by have:=List.mem_range.1 hi;omega)
theorem pJ {ρ:Env} {r:Nat} {n:Int} {i:Nat} (h:(i:Int)<n):(dZ ρ r n).take (i+1)=(dZ ρ r n).take i ++ [aF (ρ.ic r i 0) (ρ.bc r i 0)]:=by
 have hl:i<(dZ ρ r n).length:=by rw [q9];omega
 rw [List.take_succ_eq_append_getElem hl]
 simp [dZ]
theorem xU {ρ:Env} {r:Nat} {n:Int} {i:Nat} (h:n≤i):(dZ ρ r n).take i=dZ ρ r n:=List.take_of_length_le (by rw [q9];omega)
def Ay:kP:=[(lM,Sv.mQ,JW),(nA,Sv.oO,Ny),(lN,Sv.mU,JX),(ky,Sv.lI,Fv),(gV,JP,xM)]
theorem NF:∀k pre post,(k,pre,post)∈Ay→jD k=true∧bF Tryd.prog k pre post:=by
 intro k pre post h
 simp only [Ay,List.mem_cons,List.not_mem_nil,or_false,Prod.mk.injEq] at h
 rcases h with ⟨rfl,rfl,rfl⟩ | ⟨rfl,rfl,rfl⟩ | ⟨rfl,rfl,rfl⟩ | ⟨rfl,rfl,rfl⟩ | ⟨rfl,rfl,rfl⟩
 ·exact ⟨by kernel_rfl,Nz⟩
 ·exact ⟨by kernel_rfl,PV⟩
 ·exact ⟨by kernel_rfl,NA⟩
 ·exact ⟨by kernel_rfl,KE⟩
 ·exact ⟨by kernel_rfl,JQ⟩
noncomputable def UC:Ex:={sched:=sched,loops:=[YA,Pj],cons:=[lM,nA,lN,ky,gV],fin:=j5}
def Fw:Out :=
 .br (.aC (.var 0) (.lit 2))
 (.call 0 {lo:=0,az:=0,iv:=[(6,yv 50),(5,yv 49),(2,yv 60),(1,yv 59)],bv:=[(4,yw 48),(0,yw 58)],ct:=[(7,yu 68 49 5 yW 0),(3,yu 70 59 7 yN 0)],bk:=[(1,yc 1 5),(0,yc 3 7)]} 71 <|
  .call 4 {lo:=0,az:=0,iv:=yo [(70,yv 72)]<|yr 65 65 7<|yo [(57,yv 57),(56,yv 56)]<|yr 3 3 4<|yo [(53,yv 73),(52,yv 72),(69,.lit 0),(50,yv 50),(49,yv 49),(47,yv 47)]<|yr 45 45 4<|yr 40 40 4<|yr 35 35 4<|yr 30 30 13<|yr 16 16 4<|yr 11 11 8 [],bv:=[(67,yw 67),(66,yw 66),(58,yw 58),(55,yw 55),(51,yw 71),(48,yw 48),(46,yw 46),(41,yw 41),(36,yw 36),(31,yw 31),(17,yw 17),(12,yw 12)],ct:=[(70,yu 70 59 7 yN 0),(69,yu 74 72 7 yN 0),(68,yu 68 49 5 yW 0),(54,yl 54 9 5 50 yW 0)],bk:=[(3,yc 3 7),(2,yc 4 7),(1,yc 1 5),(0,yb 0)]} 79 <|
  .fin {lo:=71,az:=4,iv:=yo [(137,yv 145)]<|yr 132 140 7<|yo [(124,yv 132),(123,yv 131),(120,yv 128),(119,yv 127),(136,yv 144),(117,yv 125),(116,yv 124),(114,yv 122)]<|yr 112 120 4<|yr 107 115 4<|yr 102 110 4<|yr 97 105 13<|yr 83 91 4<|yr 78 86 8 [],bv:=[(134,yw 142),(133,yw 141),(125,yw 133),(122,yw 130),(118,yw 126),(115,yw 123),(113,yw 121),(108,yw 116),(103,yw 111),(98,yw 106),(84,yw 92),(79,yw 87)],ct:=[(137,yu 145 134 7 yN 0),(136,yu 144 145 7 yN 0),(135,yu 143 124 5 yW 0),(121,yl 129 9 5 50 yW 0)],bk:=[(6,yc 8 7),(5,yc 7 7),(4,yc 6 5)]})
 (.br (.aC (.var 0) (.lit 3))
  (.ob (.or (.not (.var 48)) (.aC (.var 49) (.lit 0))) <|
   .ob (.aA (.lit 0) (.var 49)) <|
   .loop 71 {lo:=71,az:=4,iv:=[(75,.lit 0),(73,.lit 0),(72,.lit 0)],bv:=[(71,.lit true)],nb:=[4]} <|
   .br (.bS (.var 75) (.var 49))
   (.ob (.not (.var 48)) <|
    .ob (.aA (.lit 0) (.var 75)) <|
    .ob (.aA (.mul (.add (.var 72) (.lit 1)) (.lit 8)) (.lit 140737488355328)) <|
    .ob (.aA (.lit 0) (.var 72)) <|
    .ob (.aA (.var 72) (.var 73)) <|
    .ob (.aA (.var 73) (.lit 9223372036854775807)) <|
    .ob (.or (.not (.var 71)) (.aC (.var 72) (.lit 0))) <|
    .new 76 [.be (.and (.aA (.add (.var 72) (.lit 1)) (.var 76)) (.aA (.var 76) (.lit 9223372036854775807)))] <|
    .ob (.inr .i64 (.add (.var 75) (.lit 1))) <|
    .back 0 {lo:=71,az:=4,iv:=[(75,.add (.var 75) (.lit 1)),(73,yv 76),(72,.add (.var 72) (.lit 1))],bv:=[(71,.lit false)],ct:=[(74,.up {r:=74,n1:=.add (.var 72) (.lit 1),s1:=1,ks:=yI} 0 [⟨0,(.var 72),(.lit 0),0,.int .i64 (.cell 68 (.var 75) (.lit 0) 3)⟩] (.lit 0))],bk:=[(4,yc 7 1)]})
   (.call 1 {lo:=0,az:=0,iv:=[(6,yv 73),(5,yv 72),(2,yv 60),(1,yv 59)],bv:=[(4,yw 71),(0,yw 58)],ct:=[(7,yu 74 72 1 yI 0),(3,yu 70 59 7 yN 0)],bk:=[(1,yc 4 1),(0,yc 3 7)]} 76 <|
    .call 4 {lo:=0,az:=0,iv:=yo [(70,yv 77)]<|yr 65 65 7<|yo [(57,yv 57),(56,yv 56)]<|yr 3 3 4<|yo [(53,yv 78),(52,yv 77),(69,.lit 0),(50,yv 50),(49,yv 49),(47,yv 47)]<|yr 45 45 4<|yr 40 40 4<|yr 35 35 4<|yr 30 30 13<|yr 16 16 4<|yr 11 11 8 [],bv:=[(67,yw 67),(66,yw 66),(58,yw 58),(55,yw 55),(51,yw 76),(48,yw 48),(46,yw 46),(41,yw 41),(36,yw 36),(31,yw 31),(17,yw 17),(12,yw 12)],ct:=[(70,yu 70 59 7 yN 0),(69,yu 79 77 7 yN 0),(68,yu 68 49 5 yW 0),(54,yl 54 9 5 50 yW 0)],bk:=[(3,yc 3 7),(2,yc 5 7),(1,yc 1 5),(0,yb 0)]} 84 <|
    .fin {lo:=71,az:=4,iv:=yo [(137,yv 150)]<|yr 132 145 7<|yo [(124,yv 137),(123,yv 136),(120,yv 133),(119,yv 132),(136,yv 149),(117,yv 130),(116,yv 129),(114,yv 127)]<|yr 112 125 4<|yr 107 120 4<|yr 102 115 4<|yr 97 110 13<|yr 83 96 4<|yr 78 91 8 [],bv:=[(134,yw 147),(133,yw 146),(125,yw 138),(122,yw 135),(118,yw 131),(115,yw 128),(113,yw 126),(108,yw 121),(103,yw 116),(98,yw 111),(84,yw 97),(79,yw 92)],ct:=[(137,yu 150 139 7 yN 0),(136,yu 149 150 7 yN 0),(135,yu 148 129 5 yW 0),(121,yl 134 9 5 50 yW 0)],bk:=[(6,yc 9 7),(5,yc 8 7),(4,yc 7 5)]}))
  (.br (.aC (.var 0) (.lit 5))
   (.ob (.or (.not (.var 48)) (.aC (.var 49) (.lit 0))) <|
    .ob (.aA (.lit 0) (.var 49)) <|
    .loop 71 {lo:=71,az:=4,iv:=[(75,.lit 0),(73,.lit 0),(72,.lit 0)],bv:=[(71,.lit true)],nb:=[4]} <|
    .br (.bS (.var 75) (.var 49))
    (.ob (.not (.var 48)) <|
     .ob (.aA (.lit 0) (.var 75)) <|
     .br (.not (.cell 68 (.var 75) (.lit 0) 4))
     (.ob (.aA (.mul (.add (.var 72) (.lit 1)) (.lit 24)) (.lit 140737488355328)) <|
      .ob (.aA (.lit 0) (.var 72)) <|
      .ob (.aA (.var 72) (.var 73)) <|
      .ob (.aA (.var 73) (.lit 9223372036854775807)) <|
      .ob (.or (.not (.var 71)) (.aC (.var 72) (.lit 0))) <|
      .new 76 [.be (.and (.aA (.add (.var 72) (.lit 1)) (.var 76)) (.aA (.var 76) (.lit 9223372036854775807)))] <|
      .ob (.inr .i64 (.add (.var 75) (.lit 1))) <|
      .back 0 {lo:=71,az:=4,iv:=[(75,.add (.var 75) (.lit 1)),(73,yv 76),(72,.add (.var 72) (.lit 1))],bv:=[(71,.lit false)],ct:=[(74,.up {r:=74,n1:=.add (.var 72) (.lit 1),s1:=3,ks:=[.bool,.int .i64,.int .i64]} 0 [⟨0,(.var 72),(.lit 0),0,.bool (.lit false)⟩,⟨0,(.var 72),(.lit 0),1,.int .i64 (.lit 0)⟩,⟨0,(.var 72),(.lit 0),2,.int .i64 (.lit 0)⟩] (.lit 0))],bk:=[(4,yc 9 3)]})
     (.ob (.aA (.mul (.add (.var 72) (.lit 1)) (.lit 24)) (.lit 140737488355328)) <|
      .ob (.aA (.lit 0) (.var 72)) <|
      .ob (.aA (.var 72) (.var 73)) <|
      .ob (.aA (.var 73) (.lit 9223372036854775807)) <|
      .ob (.or (.not (.var 71)) (.aC (.var 72) (.lit 0))) <|
      .new 76 [.be (.and (.aA (.add (.var 72) (.lit 1)) (.var 76)) (.aA (.var 76) (.lit 9223372036854775807)))] <|
      .ob (.inr .i64 (.add (.var 75) (.lit 1))) <|
      .back 0 {lo:=71,az:=4,iv:=[(75,.add (.var 75) (.lit 1)),(73,yv 76),(72,.add (.var 72) (.lit 1))],bv:=[(71,.lit false)],ct:=[(74,.up {r:=74,n1:=.add (.var 72) (.lit 1),s1:=3,ks:=[.bool,.int .i64,.int .i64]} 0 [⟨0,(.var 72),(.lit 0),0,.bool (.lit true)⟩,⟨0,(.var 72),(.lit 0),1,.int .i64 (.cell 68 (.var 75) (.lit 0) 3)⟩,⟨0,(.var 72),(.lit 0),2,.int .i64 (.cell 68 (.var 75) (.lit 0) 2)⟩] (.lit 0))],bk:=[(4,yc 9 3)]}))
    (.call 2 {lo:=0,az:=0,iv:=[(6,yv 73),(5,yv 72),(2,yv 60),(1,yv 59)],bv:=[(4,yw 71),(0,yw 58)],ct:=[(7,.up {r:=74,n1:=.var 72,s1:=3,ks:=[.bool,.int .i64,.int .i64]} 0 [] (.lit 0)),(3,yu 70 59 7 yN 0)],bk:=[(1,yc 4 3),(0,yc 3 7)]} 76 <|
     .call 4 {lo:=0,az:=0,iv:=yo [(70,yv 77)]<|yr 65 65 7<|yo [(57,yv 57),(56,yv 56)]<|yr 3 3 4<|yo [(53,yv 78),(52,yv 77),(69,.lit 0),(50,yv 50),(49,yv 49),(47,yv 47)]<|yr 45 45 4<|yr 40 40 4<|yr 35 35 4<|yr 30 30 13<|yr 16 16 4<|yr 11 11 8 [],bv:=[(67,yw 67),(66,yw 66),(58,yw 58),(55,yw 55),(51,yw 76),(48,yw 48),(46,yw 46),(41,yw 41),(36,yw 36),(31,yw 31),(17,yw 17),(12,yw 12)],ct:=[(70,yu 70 59 7 yN 0),(69,yu 79 77 7 yN 0),(68,yu 68 49 5 yW 0),(54,yl 54 9 5 50 yW 0)],bk:=[(3,yc 3 7),(2,yc 5 7),(1,yc 1 5),(0,yb 0)]} 84 <|
     .fin {lo:=71,az:=4,iv:=yo [(137,yv 150)]<|yr 132 145 7<|yo [(124,yv 137),(123,yv 136),(120,yv 133),(119,yv 132),(136,yv 149),(117,yv 130),(116,yv 129),(114,yv 127)]<|yr 112 125 4<|yr 107 120 4<|yr 102 115 4<|yr 97 110 13<|yr 83 96 4<|yr 78 91 8 [],bv:=[(134,yw 147),(133,yw 146),(125,yw 138),(122,yw 135),(118,yw 131),(115,yw 128),(113,yw 126),(108,yw 121),(103,yw 116),(98,yw 111),(84,yw 97),(79,yw 92)],ct:=[(137,yu 150 139 7 yN 0),(136,yu 149 150 7 yN 0),(135,yu 148 129 5 yW 0),(121,yl 134 9 5 50 yW 0)],bk:=[(6,yc 9 7),(5,yc 8 7),(4,yc 7 5)]}))
   (.br (.aC (.var 0) (.lit 4))
    (.call 3 {lo:=0,az:=0,iv:=[(4,yv 45),(2,yv 60),(1,yv 59)],bv:=[(0,yw 58)],ct:=[(3,yu 70 59 7 yN 0)],bk:=[(0,yc 3 7)]} 71 <|
     .call 4 {lo:=0,az:=0,iv:=yo [(70,yv 72)]<|yr 65 65 7<|yo [(57,yv 57),(56,yv 56)]<|yr 3 3 4<|yo [(53,yv 73),(52,yv 72),(69,.lit 0),(50,yv 50),(49,yv 49),(47,yv 47)]<|yr 45 45 4<|yr 40 40 4<|yr 35 35 4<|yr 30 30 13<|yr 16 16 4<|yr 11 11 8 [],bv:=[(67,yw 67),(66,yw 66),(58,yw 58),(55,yw 55),(51,yw 71),(48,yw 48),(46,yw 46),(41,yw 41),(36,yw 36),(31,yw 31),(17,yw 17),(12,yw 12)],ct:=[(70,yu 70 59 7 yN 0),(69,yu 74 72 7 yN 0),(68,yu 68 49 5 yW 0),(54,yl 54 9 5 50 yW 0)],bk:=[(3,yc 3 7),(2,yc 4 7),(1,yc 1 5),(0,yb 0)]} 79 <|
     .fin {lo:=71,az:=4,iv:=yo [(137,yv 145)]<|yr 132 140 7<|yo [(124,yv 132),(123,yv 131),(120,yv 128),(119,yv 127),(136,yv 144),(117,yv 125),(116,yv 124),(114,yv 122)]<|yr 112 120 4<|yr 107 115 4<|yr 102 110 4<|yr 97 105 13<|yr 83 91 4<|yr 78 86 8 [],bv:=[(134,yw 142),(133,yw 141),(125,yw 133),(122,yw 130),(118,yw 126),(115,yw 123),(113,yw 121),(108,yw 116),(103,yw 111),(98,yw 106),(84,yw 92),(79,yw 87)],ct:=[(137,yu 145 134 7 yN 0),(136,yu 144 145 7 yN 0),(135,yu 143 124 5 yW 0),(121,yl 129 9 5 50 yW 0)],bk:=[(6,yc 8 7),(5,yc 7 7),(4,yc 6 5)]})
    (.call 4 {lo:=0,az:=0,iv:=yo [(70,yv 70)]<|yr 65 65 7<|yo [(57,yv 57),(56,yv 56)]<|yr 3 3 4<|yo [(53,yv 53),(52,yv 52),(69,yv 69),(50,yv 50),(49,yv 49),(47,yv 47)]<|yr 45 45 4<|yr 40 40 4<|yr 35 35 4<|yr 30 30 13<|yr 16 16 4<|yr 11 11 8 [],bv:=[(67,yw 67),(66,yw 66),(58,yw 58),(55,yw 55),(51,yw 51),(48,yw 48),(46,yw 46),(41,yw 41),(36,yw 36),(31,yw 31),(17,yw 17),(12,yw 12)],ct:=[(70,yu 70 59 7 yN 0),(69,yu 69 70 7 yN 0),(68,yu 68 49 5 yW 0),(54,yl 54 9 5 50 yW 0)],bk:=[(3,yc 3 7),(2,yc 2 7),(1,yc 1 5),(0,yb 0)]} 71 <|
     .fin {lo:=71,az:=4,iv:=yo [(137,yv 137)]<|yr 132 132 7<|yo [(124,yv 124),(123,yv 123),(120,yv 120),(119,yv 119),(136,yv 136),(117,yv 117),(116,yv 116),(114,yv 114)]<|yr 112 112 4<|yr 107 107 4<|yr 102 102 4<|yr 97 97 13<|yr 83 83 4<|yr 78 78 8 [],bv:=[(134,yw 134),(133,yw 133),(125,yw 125),(122,yw 122),(118,yw 118),(115,yw 115),(113,yw 113),(108,yw 108),(103,yw 103),(98,yw 98),(84,yw 84),(79,yw 79)],ct:=[(137,yu 137 126 7 yN 0),(136,yu 136 137 7 yN 0),(135,yu 135 116 5 yW 0),(121,yl 121 9 5 50 yW 0)],bk:=[(6,yc 6 7),(5,yc 5 7),(4,yc 4 5)]}))))
theorem Sg:exec tab UC 8000 [] (gI j5.f j5.nv [] j5.gl j5.hp j5.args)=Fw:=by kernel_rfl
def sP (ρ:Env):Prop:=bJ ρ 4∧(ρ.iv 59≤1000000∧(ρ.iv 0=4∨ρ.iv 49≤100000))∧(ρ.iv 0=4→Em ρ 42)
def Cq (ρ:Env):Prop:=bJ ρ 71∧ae ρ 0 71=(ae ρ 0 4).dQ
theorem Az {r:RS} (h:2≤r.aj∧r.aj≤5) {l:List Nt} (hl:l=r.notes.filter fun n=>!r.kept n):r.dQ=({r with bN:=l}:RS).eY:=by
 subst hl
 unfold RS.dQ
 rw [if_pos h]
def NG (ρ:Env):Prop:=(sP ρ∧ρ.iv 0=3)∧(0≤ρ.iv 75∧ρ.iv 75≤ρ.iv 49)∧(bu ρ 71∧ρ.iv 72=ρ.iv 75)∧pI ρ 74 (ρ.iv 72)=((dZ ρ 68 (ρ.iv 49)).take (ρ.iv 75).toNat).map Wd.num
def Ia (ρ:Env):Prop:=(sP ρ∧ρ.iv 0=5)∧(0≤ρ.iv 75∧ρ.iv 75≤ρ.iv 49)∧(bu ρ 71∧ρ.iv 72=ρ.iv 75)∧iH ρ 74 (ρ.iv 72)=((dZ ρ 68 (ρ.iv 49)).take (ρ.iv 75).toNat).map RS.gN
set_option maxHeartbeats 4000000 in
theorem Si (ρ:Env) (hpre:sP ρ.num):Sat Cq Ay [] ρ Fw:=by
 replace hpre:sP ρ:=hpre
 have hpre':=hpre
 obtain ⟨⟨o1,o2,o3⟩,⟨f1,f2⟩,hw⟩:=hpre
 unfold Fw
 refine Sat.br (fun c=>?_) (fun c=>?_)
 ·simp only [Da] at c
  have e0:(ae ρ 0 4).aj=2:=c
  refine Sat.iF (c:=lM) rfl ⟨o3,f1,o1,by show ρ.iv 49≤1000000;omega⟩ (fun q=>(bJ q 4)∧bu q 71∧(ae q 0 4).dQ=({ae q 0 4 with bN:=aV q 74 (q.iv 72)}:RS).eY) (fun e hq=>?_) fun q hq=>?_
  ·replace hq:JW (aH _ 8 71 ρ (ρ.join 71 e)):=hq
   obtain ⟨q1,q2⟩:=hq
   rw [show bu (aH _ 8 71 ρ (ρ.join 71 e)) 8=bu (ρ.join 71 e) 71 from mP (m:=8) 0] at q1
   rw [show aV (aH _ 8 71 ρ (ρ.join 71 e)) 11 ((aH _ 8 71 ρ (ρ.join 71 e)).iv 9)=aV (ρ.join 71 e) 74 ((ρ.join 71 e).iv 72) from rZ (m:=8) 3 1] at q2
   refine ⟨⟨o1,o2,o3⟩,q1,Az (r:=ae ρ 0 4) ⟨by rw [e0];decide,by rw [e0];decide⟩ (q2.trans ?_)⟩
   refine congr (congrArg List.filter ?_) ?_
   ·funext n
    refine congrArg (fun b=>!b) ?_
    unfold RS.kept
    rw [if_pos e0]
    refine congrArg (fun l:List Wd=>l.any fun w=>RS.ow w n) ?_
    exact Ei rfl fun i=>by simp [aF,aH,-Int.pred_toNat,Sub.af,assoc,CV.I,CV.B,ah,ai,aa.I,aa.B,SC.I,SC.B,IE.den,BE.den]
   ·exact gB rfl fun i=>by simp [bO,aF,aH,-Int.pred_toNat,Sub.af,assoc,CV.I,CV.B,ah,ai,aa.I,aa.B,SC.I,SC.B,IE.den,BE.den]
  obtain ⟨⟨o1,o2,o3⟩,od,hm⟩:=hq
  refine fw (c:=gV) rfl ({ae q 0 4 with bN:=aV q 74 (q.iv 72)}:RS) ({ae q 0 4 with bN:=aV q 74 (q.iv 72)}:RS).eY (by decide) (by decide) (jT rfl rfl rfl rfl) ⟨o1,⟨od,Int.le_refl 0,.inr (by show (0:Int)+_≤_;rw [Int.zero_add];exact Int.le_refl _)⟩,o3⟩ (RS.ext' rfl rfl rfl rfl rfl rfl bA (xS rfl rfl fun i=>by simp [bO,aF,-Int.pred_toNat,Sub.af,assoc,CV.I,CV.B,ah,ai,aa.I,aa.B,SC.I,SC.B,IE.den,BE.den]) rfl rfl rfl rfl bH rfl bB rfl rfl) (fun e hq hr=>⟨hq.1,by rw [←hr];exact hq.2⟩) (fun u=>(bJ u 79)∧ae u 0 79=(ae u 0 4).dQ) (fun e h1 h2=>⟨h1,h2.trans hm.symm⟩) fun u hu=>?_
  obtain ⟨⟨o1,o2,o3⟩,hm⟩:=hu
  exact Sat.fin ⟨⟨(by first | exact o1 | exact o2 | exact o3 | exact ak rfl rfl | assumption),(by first | exact o2 | exact ⟨ak rfl rfl,Int.le_refl 0,.inl rfl⟩ | assumption),(by first | exact o1 | exact o2 | exact o3 | exact ak rfl rfl | assumption)⟩,Eq.trans (b:=(ae u 0 79)) (RS.ext' rfl rfl rfl rfl rfl rfl bA bE rfl rfl rfl rfl bH rfl bB rfl rfl) (Eq.symm (hm.symm))⟩
 simp only [Da] at c
 refine Sat.br (fun c3=>?_) (fun c3=>?_)
 ·simp only [Da] at c3
  refine Sat.ob (aR o1) (Sat.ob (decide_eq_true o1.2.1) (Sat.uK NG (fun r=>(r.iv 49-r.iv 75).toNat) (fun _=>True) ⟨⟨hpre',c3⟩,⟨Int.le_refl 0,o1.2.1⟩,⟨ak rfl rfl,rfl⟩,rfl⟩ (fun _=>trivial) fun q _ hI=>?_))
  replace hI:NG q:=hI
  have hI':=hI
  obtain ⟨⟨hpre',he⟩,⟨i1,i2⟩,⟨os,hl⟩,hrow⟩:=hI
  have hpre:=hpre'
  obtain ⟨⟨o1,o2,o3⟩,⟨f1,f2⟩,hw⟩:=hpre
  refine Sat.br (fun c=>?_) (fun c=>?_)
  ·simp only [Da] at c
   refine Sat.ob (bU o1 (by simp only [Nat.reduceAdd];omega)) (Sat.ob (decide_eq_true i1) ?_)
   obtain ⟨p1,p2,p3,p4⟩:=id os
   refine Sat.ob (by simp only [Da];omega) (Sat.ob (decide_eq_true p2) (Sat.ob (decide_eq_true p3) (Sat.ob (decide_eq_true p4) (Sat.ob (aR os) (Sat.zB (fun u=>NG u∧u.iv 75<u.iv 49∧(u.iv 49-(u.iv 75+1)).toNat<(q.iv 49-q.iv 75).toNat) (fun e=>⟨hI',c,by show (q.iv 49-(q.iv 75+1)).toNat<(q.iv 49-q.iv 75).toNat;omega⟩) fun u hu hb=>?_)))))
   obtain ⟨⟨⟨hpre',he⟩,⟨i1,i2⟩,⟨os,hl⟩,hrow⟩,c,hd⟩:=hu
   simp only [Da] at hb
   obtain ⟨p1,p2,p3,p4⟩:=id os
   replace p2:0≤u.iv 72:=p2
   have hf2:=hpre'.2.1.2
   refine Sat.ob (by simp only [Da];omega) (Sat.back rfl ⟨⟨⟨hpre',he⟩,⟨?_,?_⟩,⟨⟨fun h=>(by cases h),?_,hb.1,hb.2⟩,?_⟩,?_⟩,hd⟩)
   ·show 0≤u.iv 75+1;omega
   ·show u.iv 75+1≤u.iv 49;omega
   ·show 0≤u.iv 72+1;omega
   ·show u.iv 72+1=u.iv 75+1;omega
   ·refine (ND (ρ:=u) (r:=74) (n:=u.iv 72) (w:=Wd.num (aF (u.ic 68 (u.iv 75).toNat 0) (u.bc 68 (u.iv 75).toNat 0))) p2 rfl (fun i hi=>?_) ?_).trans ?_
    ·have hn:¬(u.iv 72).toNat=i:=fun h=>by omega
     simp [lF,aF,-Int.pred_toNat,Sub.af,assoc,CV.I,CV.B,ah,ai,aa.I,aa.B,SC.I,SC.B,IE.den,BE.den,hn]
    ·simp [aF,-Int.pred_toNat,Sub.af,assoc,CV.I,CV.B,ah,ai,aa.I,aa.B,SC.I,SC.B,IE.den,BE.den,hl]
    ·show pI u 74 (u.iv 72) ++ _=((dZ u 68 (u.iv 49)).take (u.iv 75+1).toNat).map Wd.num
     rw [hrow,show (u.iv 75+1).toNat=(u.iv 75).toNat+1 by omega,pJ (by omega),List.map_append]
     rfl
  ·simp only [Da] at c
   have e0:(ae q 0 4).aj=3:=he
   rw [xU (by omega)] at hrow
   refine Sat.iF (c:=nA) rfl ⟨o3,f1,os,by show q.iv 72≤1000000;omega⟩ (fun u=>(bJ u 4)∧bu u 76∧(ae u 0 4).dQ=({ae u 0 4 with bN:=aV u 79 (u.iv 77)}:RS).eY) (fun e hq=>?_) fun u hu=>?_
   ·replace hq:Ny (aH _ 8 76 q (q.join 76 e)):=hq
    obtain ⟨q1,q2⟩:=hq
    rw [show bu (aH _ 8 76 q (q.join 76 e)) 8=bu (q.join 76 e) 76 from mP (m:=8) 0] at q1
    rw [show aV (aH _ 8 76 q (q.join 76 e)) 11 ((aH _ 8 76 q (q.join 76 e)).iv 9)=aV (q.join 76 e) 79 ((q.join 76 e).iv 77) from rZ (m:=8) 3 1] at q2
    refine ⟨⟨o1,o2,o3⟩,q1,Az (r:=ae q 0 4) ⟨by rw [e0];decide,by rw [e0];decide⟩ (q2.trans ?_)⟩
    refine congr (congrArg List.filter ?_) ?_
    ·funext n
     refine congrArg (fun b=>!b) ?_
     unfold RS.kept
     rw [if_neg (show ¬(ae q 0 4).aj=2 by rw [e0];decide),if_pos e0]
     refine (congrArg (fun l:List Int=>l.any fun e=>RS.qy e n) (Eq.trans (b:=pI q 74 (q.iv 72)) (NC rfl fun i=>by simp [aH,-Int.pred_toNat,Sub.af,assoc,CV.I,CV.B,ah,ai,aa.I,aa.B,SC.I,SC.B,IE.den,BE.den]) hrow)).trans ?_
     rw [List.any_map]
     rfl
    ·exact gB rfl fun i=>by simp [bO,aF,aH,-Int.pred_toNat,Sub.af,assoc,CV.I,CV.B,ah,ai,aa.I,aa.B,SC.I,SC.B,IE.den,BE.den]
   obtain ⟨⟨o1,o2,o3⟩,od,hm⟩:=hu
   refine fw (c:=gV) rfl ({ae u 0 4 with bN:=aV u 79 (u.iv 77)}:RS) ({ae u 0 4 with bN:=aV u 79 (u.iv 77)}:RS).eY (by decide) (by decide) (jT rfl rfl rfl rfl) ⟨o1,⟨od,Int.le_refl 0,.inr (by show (0:Int)+_≤_;rw [Int.zero_add];exact Int.le_refl _)⟩,o3⟩ (RS.ext' rfl rfl rfl rfl rfl rfl bA (xS rfl rfl fun i=>by simp [bO,aF,-Int.pred_toNat,Sub.af,assoc,CV.I,CV.B,ah,ai,aa.I,aa.B,SC.I,SC.B,IE.den,BE.den]) rfl rfl rfl rfl bH rfl bB rfl rfl) (fun e hq hr=>⟨hq.1,by rw [←hr];exact hq.2⟩) (fun u=>(bJ u 84)∧ae u 0 84=(ae u 0 4).dQ) (fun e h1 h2=>⟨h1,h2.trans hm.symm⟩) fun u hu=>?_
   obtain ⟨⟨o1,o2,o3⟩,hm⟩:=hu
   exact Sat.fin ⟨⟨(by first | exact o1 | exact o2 | exact o3 | exact ak rfl rfl | assumption),(by first | exact o2 | exact ⟨ak rfl rfl,Int.le_refl 0,.inl rfl⟩ | assumption),(by first | exact o1 | exact o2 | exact o3 | exact ak rfl rfl | assumption)⟩,Eq.trans (b:=(ae u 0 84)) (RS.ext' rfl rfl rfl rfl rfl rfl bA bE rfl rfl rfl rfl bH rfl bB rfl rfl) (Eq.symm (hm.symm))⟩
 simp only [Da] at c3
 refine Sat.br (fun c5=>?_) (fun c5=>?_)
 ·simp only [Da] at c5
  refine Sat.ob (aR o1) (Sat.ob (decide_eq_true o1.2.1) (Sat.uK Ia (fun r=>(r.iv 49-r.iv 75).toNat) (fun _=>True) ⟨⟨hpre',c5⟩,⟨Int.le_refl 0,o1.2.1⟩,⟨ak rfl rfl,rfl⟩,rfl⟩ (fun _=>trivial) fun q _ hI=>?_))
  replace hI:Ia q:=hI
  have hI':=hI
  obtain ⟨⟨hpre',he⟩,⟨i1,i2⟩,⟨os,hl⟩,hrow⟩:=hI
  have hpre:=hpre'
  obtain ⟨⟨o1,o2,o3⟩,⟨f1,f2⟩,hw⟩:=hpre
  refine Sat.br (fun c=>?_) (fun c=>?_)
  ·simp only [Da] at c
   refine Sat.ob (bU o1 (by simp only [Nat.reduceAdd];omega)) (Sat.ob (decide_eq_true i1) ?_)
   obtain ⟨p1,p2,p3,p4⟩:=id os
   refine Sat.br (fun c2=>?_) (fun c2=>?_)
   ·simp only [Da] at c2
    refine Sat.ob (by simp only [Da];omega) (Sat.ob (decide_eq_true p2) (Sat.ob (decide_eq_true p3) (Sat.ob (decide_eq_true p4) (Sat.ob (aR os) (Sat.zB (fun u=>Ia u∧u.iv 75<u.iv 49∧(u.iv 49-(u.iv 75+1)).toNat<(q.iv 49-q.iv 75).toNat∧u.bc 68 (u.iv 75).toNat 0 4=false) (fun e=>⟨hI',c,by show (q.iv 49-(q.iv 75+1)).toNat<(q.iv 49-q.iv 75).toNat;omega,c2⟩) fun u hu hb=>?_)))))
    obtain ⟨⟨⟨hpre',he⟩,⟨i1,i2⟩,⟨os,hl⟩,hrow⟩,c,hd,hc⟩:=hu
    simp only [Da] at hb
    obtain ⟨p1,p2,p3,p4⟩:=id os
    replace p2:0≤u.iv 72:=p2
    have hf2:=hpre'.2.1.2
    refine Sat.ob (by simp only [Da];omega) (Sat.back rfl ⟨⟨⟨hpre',he⟩,⟨?_,?_⟩,⟨⟨fun h=>(by cases h),?_,hb.1,hb.2⟩,?_⟩,?_⟩,hd⟩)
    ·show 0≤u.iv 75+1;omega
    ·show u.iv 75+1≤u.iv 49;omega
    ·show 0≤u.iv 72+1;omega
    ·show u.iv 72+1=u.iv 75+1;omega
    ·refine (r9 (ρ:=u) (r:=74) (n:=u.iv 72) (w:=RS.gN (aF (u.ic 68 (u.iv 75).toNat 0) (u.bc 68 (u.iv 75).toNat 0))) p2 rfl (fun i hi=>?_) ?_).trans ?_
     ·have hn:¬(u.iv 72).toNat=i:=fun h=>by omega
      simp [lF,aF,-Int.pred_toNat,Sub.af,assoc,CV.I,CV.B,ah,ai,aa.I,aa.B,SC.I,SC.B,IE.den,BE.den,hn]
     ·simp [lF,aF,RS.gN,Sp.zero,-Int.pred_toNat,Sub.af,assoc,CV.I,CV.B,ah,ai,aa.I,aa.B,SC.I,SC.B,IE.den,BE.den,hl,hc]
     ·show iH u 74 (u.iv 72) ++ _=((dZ u 68 (u.iv 49)).take (u.iv 75+1).toNat).map RS.gN
      rw [hrow,show (u.iv 75+1).toNat=(u.iv 75).toNat+1 by omega,pJ (by omega),List.map_append]
      rfl
   ·simp only [Da] at c2
    refine Sat.ob (by simp only [Da];omega) (Sat.ob (decide_eq_true p2) (Sat.ob (decide_eq_true p3) (Sat.ob (decide_eq_true p4) (Sat.ob (aR os) (Sat.zB (fun u=>Ia u∧u.iv 75<u.iv 49∧(u.iv 49-(u.iv 75+1)).toNat<(q.iv 49-q.iv 75).toNat∧u.bc 68 (u.iv 75).toNat 0 4=true) (fun e=>⟨hI',c,by show (q.iv 49-(q.iv 75+1)).toNat<(q.iv 49-q.iv 75).toNat;omega,c2⟩) fun u hu hb=>?_)))))
    obtain ⟨⟨⟨hpre',he⟩,⟨i1,i2⟩,⟨os,hl⟩,hrow⟩,c,hd,hc⟩:=hu
    simp only [Da] at hb
    obtain ⟨p1,p2,p3,p4⟩:=id os
    replace p2:0≤u.iv 72:=p2
    have hf2:=hpre'.2.1.2
    refine Sat.ob (by simp only [Da];omega) (Sat.back rfl ⟨⟨⟨hpre',he⟩,⟨?_,?_⟩,⟨⟨fun h=>(by cases h),?_,hb.1,hb.2⟩,?_⟩,?_⟩,hd⟩)
    ·show 0≤u.iv 75+1;omega
    ·show u.iv 75+1≤u.iv 49;omega
    ·show 0≤u.iv 72+1;omega
    ·show u.iv 72+1=u.iv 75+1;omega
    ·refine (r9 (ρ:=u) (r:=74) (n:=u.iv 72) (w:=RS.gN (aF (u.ic 68 (u.iv 75).toNat 0) (u.bc 68 (u.iv 75).toNat 0))) p2 rfl (fun i hi=>?_) ?_).trans ?_
     ·have hn:¬(u.iv 72).toNat=i:=fun h=>by omega
      simp [lF,aF,-Int.pred_toNat,Sub.af,assoc,CV.I,CV.B,ah,ai,aa.I,aa.B,SC.I,SC.B,IE.den,BE.den,hn]
     ·simp [lF,aF,RS.gN,-Int.pred_toNat,Sub.af,assoc,CV.I,CV.B,ah,ai,aa.I,aa.B,SC.I,SC.B,IE.den,BE.den,hl,hc]
     ·show iH u 74 (u.iv 72) ++ _=((dZ u 68 (u.iv 49)).take (u.iv 75+1).toNat).map RS.gN
      rw [hrow,show (u.iv 75+1).toNat=(u.iv 75).toNat+1 by omega,pJ (by omega),List.map_append]
      rfl
  ·simp only [Da] at c
   have e0:(ae q 0 4).aj=5:=he
   rw [xU (by omega)] at hrow
   refine Sat.iF (c:=lN) rfl ⟨o3,f1,os,by show q.iv 72≤1000000;omega⟩ (fun u=>(bJ u 4)∧bu u 76∧(ae u 0 4).dQ=({ae u 0 4 with bN:=aV u 79 (u.iv 77)}:RS).eY) (fun e hq=>?_) fun u hu=>?_
   ·replace hq:JX (aH _ 8 76 q (q.join 76 e)):=hq
    obtain ⟨q1,q2⟩:=hq
    rw [show bu (aH _ 8 76 q (q.join 76 e)) 8=bu (q.join 76 e) 76 from mP (m:=8) 0] at q1
    rw [show aV (aH _ 8 76 q (q.join 76 e)) 11 ((aH _ 8 76 q (q.join 76 e)).iv 9)=aV (q.join 76 e) 79 ((q.join 76 e).iv 77) from rZ (m:=8) 3 1] at q2
    refine ⟨⟨o1,o2,o3⟩,q1,Az (r:=ae q 0 4) ⟨by rw [e0];decide,by rw [e0];decide⟩ (q2.trans ?_)⟩
    refine congr (congrArg List.filter ?_) ?_
    ·funext n
     refine congrArg (fun b=>!b) ?_
     unfold RS.kept
     rw [if_neg (show ¬(ae q 0 4).aj=2 by rw [e0];decide),if_neg (show ¬(ae q 0 4).aj=3 by rw [e0];decide),if_pos e0]
     refine (congrArg (fun l:List Sp=>l.any fun s=>RS.oz s n) (Eq.trans (b:=iH q 74 (q.iv 72)) (En rfl fun i=>by simp [lF,aH,-Int.pred_toNat,Sub.af,assoc,CV.I,CV.B,ah,ai,aa.I,aa.B,SC.I,SC.B,IE.den,BE.den]) hrow)).trans ?_
     rw [List.any_map]
     rfl
    ·exact gB rfl fun i=>by simp [bO,aF,aH,-Int.pred_toNat,Sub.af,assoc,CV.I,CV.B,ah,ai,aa.I,aa.B,SC.I,SC.B,IE.den,BE.den]
   obtain ⟨⟨o1,o2,o3⟩,od,hm⟩:=hu
   refine fw (c:=gV) rfl ({ae u 0 4 with bN:=aV u 79 (u.iv 77)}:RS) ({ae u 0 4 with bN:=aV u 79 (u.iv 77)}:RS).eY (by decide) (by decide) (jT rfl rfl rfl rfl) ⟨o1,⟨od,Int.le_refl 0,.inr (by show (0:Int)+_≤_;rw [Int.zero_add];exact Int.le_refl _)⟩,o3⟩ (RS.ext' rfl rfl rfl rfl rfl rfl bA (xS rfl rfl fun i=>by simp [bO,aF,-Int.pred_toNat,Sub.af,assoc,CV.I,CV.B,ah,ai,aa.I,aa.B,SC.I,SC.B,IE.den,BE.den]) rfl rfl rfl rfl bH rfl bB rfl rfl) (fun e hq hr=>⟨hq.1,by rw [←hr];exact hq.2⟩) (fun u=>(bJ u 84)∧ae u 0 84=(ae u 0 4).dQ) (fun e h1 h2=>⟨h1,h2.trans hm.symm⟩) fun u hu=>?_
   obtain ⟨⟨o1,o2,o3⟩,hm⟩:=hu
   exact Sat.fin ⟨⟨(by first | exact o1 | exact o2 | exact o3 | exact ak rfl rfl | assumption),(by first | exact o2 | exact ⟨ak rfl rfl,Int.le_refl 0,.inl rfl⟩ | assumption),(by first | exact o1 | exact o2 | exact o3 | exact ak rfl rfl | assumption)⟩,Eq.trans (b:=(ae u 0 84)) (RS.ext' rfl rfl rfl rfl rfl rfl bA bE rfl rfl rfl rfl bH rfl bB rfl rfl) (Eq.symm (hm.symm))⟩
 simp only [Da] at c5
 refine Sat.br (fun c4=>?_) (fun c4=>?_)
 ·simp only [Da] at c4
  have e0:(ae ρ 0 4).aj=4:=c4
  obtain ⟨⟨w1,w2⟩,w3,w4⟩:=hw c4
  simp only [Nat.reduceAdd] at w1 w2 w3 w4
  refine Sat.iF (c:=ky) rfl ⟨o3,f1,by show -9223372036854775808≤ρ.iv 45;omega,by show ρ.iv 45≤9223372036854775807;omega⟩ (fun q=>(bJ q 4)∧bu q 71∧(ae q 0 4).dQ=({ae q 0 4 with bN:=aV q 74 (q.iv 72)}:RS).eY) (fun e hq=>?_) fun q hq=>?_
  ·replace hq:Fv (aH _ 8 71 ρ (ρ.join 71 e)):=hq
   obtain ⟨q1,q2⟩:=hq
   rw [show bu (aH _ 8 71 ρ (ρ.join 71 e)) 8=bu (ρ.join 71 e) 71 from mP (m:=8) 0] at q1
   rw [show aV (aH _ 8 71 ρ (ρ.join 71 e)) 11 ((aH _ 8 71 ρ (ρ.join 71 e)).iv 9)=aV (ρ.join 71 e) 74 ((ρ.join 71 e).iv 72) from rZ (m:=8) 3 1] at q2
   refine ⟨⟨o1,o2,o3⟩,q1,Az (r:=ae ρ 0 4) ⟨by rw [e0];decide,by rw [e0];decide⟩ (q2.trans ?_)⟩
   refine congr (congrArg List.filter ?_) ?_
   ·funext n
    refine congrArg (fun b=>!b) ?_
    unfold RS.kept
    rw [if_neg (show ¬(ae ρ 0 4).aj=2 by rw [e0];decide),if_neg (show ¬(ae ρ 0 4).aj=3 by rw [e0];decide),if_neg (show ¬(ae ρ 0 4).aj=5 by rw [e0];decide),if_pos e0]
    rfl
   ·exact gB rfl fun i=>by simp [bO,aF,aH,-Int.pred_toNat,Sub.af,assoc,CV.I,CV.B,ah,ai,aa.I,aa.B,SC.I,SC.B,IE.den,BE.den]
  obtain ⟨⟨o1,o2,o3⟩,od,hm⟩:=hq
  refine fw (c:=gV) rfl ({ae q 0 4 with bN:=aV q 74 (q.iv 72)}:RS) ({ae q 0 4 with bN:=aV q 74 (q.iv 72)}:RS).eY (by decide) (by decide) (jT rfl rfl rfl rfl) ⟨o1,⟨od,Int.le_refl 0,.inr (by show (0:Int)+_≤_;rw [Int.zero_add];exact Int.le_refl _)⟩,o3⟩ (RS.ext' rfl rfl rfl rfl rfl rfl bA (xS rfl rfl fun i=>by simp [bO,aF,-Int.pred_toNat,Sub.af,assoc,CV.I,CV.B,ah,ai,aa.I,aa.B,SC.I,SC.B,IE.den,BE.den]) rfl rfl rfl rfl bH rfl bB rfl rfl) (fun e hq hr=>⟨hq.1,by rw [←hr];exact hq.2⟩) (fun u=>(bJ u 79)∧ae u 0 79=(ae u 0 4).dQ) (fun e h1 h2=>⟨h1,h2.trans hm.symm⟩) fun u hu=>?_
  obtain ⟨⟨o1,o2,o3⟩,hm⟩:=hu
  exact Sat.fin ⟨⟨(by first | exact o1 | exact o2 | exact o3 | exact ak rfl rfl | assumption),(by first | exact o2 | exact ⟨ak rfl rfl,Int.le_refl 0,.inl rfl⟩ | assumption),(by first | exact o1 | exact o2 | exact o3 | exact ak rfl rfl | assumption)⟩,Eq.trans (b:=(ae u 0 79)) (RS.ext' rfl rfl rfl rfl rfl rfl bA bE rfl rfl rfl rfl bH rfl bB rfl rfl) (Eq.symm (hm.symm))⟩
 ·simp only [Da] at c4
  have hm:(ae ρ 0 4).dQ=(ae ρ 0 4).eY:=by
   unfold RS.dQ
   rw [if_neg (show ¬(2≤(ae ρ 0 4).aj∧(ae ρ 0 4).aj≤5) by show ¬(2≤ρ.iv 0∧ρ.iv 0≤5);omega)]
  refine fw (c:=gV) rfl (ae ρ 0 4) (ae ρ 0 4).eY (by decide) (by decide) (jT rfl rfl rfl rfl) ⟨o1,o2,o3⟩ (RS.ext' rfl rfl rfl rfl rfl rfl bA bE rfl rfl rfl rfl bH rfl bB rfl rfl) (fun e hq hr=>⟨hq.1,by rw [←hr];exact hq.2⟩) (fun u=>(bJ u 71)∧ae u 0 71=(ae u 0 4).dQ) (fun e h1 h2=>⟨h1,h2.trans hm.symm⟩) fun u hu=>?_
  obtain ⟨⟨o1,o2,o3⟩,hm⟩:=hu
  exact Sat.fin ⟨⟨(by first | exact o1 | exact o2 | exact o3 | exact ak rfl rfl | assumption),(by first | exact o2 | exact ⟨ak rfl rfl,Int.le_refl 0,.inl rfl⟩ | assumption),(by first | exact o1 | exact o2 | exact o3 | exact ak rfl rfl | assumption)⟩,Eq.trans (b:=(ae u 0 71)) (RS.ext' rfl rfl rfl rfl rfl rfl bA bE rfl rfl rfl rfl bH rfl bB rfl rfl) (Eq.symm (hm.symm))⟩
theorem Sj:bF Tryd.prog j5 sP Cq :=
 dP fC (E:=UC) (cs:=Ay) rfl NF df rfl Sg (by kernel_rfl) (fun ρ _ p hp=>by cases hp) Si
end Go.Proofs.YthomdlajobnmnaaDoor
