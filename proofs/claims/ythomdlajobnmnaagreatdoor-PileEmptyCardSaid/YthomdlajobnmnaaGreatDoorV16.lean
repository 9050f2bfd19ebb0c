/- part 16 of the proof -/
import Derived.Test.YthomdlajobnmnaaGreatDoorV15
set_option linter.unusedSimpArgs false
set_option linter.unusedVariables false
namespace Go.Proofs.YthomdlajobnmnaaGreatDoor
open Go.Rex
section
variable {σ:Sub} {ρ q:Env} {m d:Nat}
theorem qG (k j:Nat):aT (bf σ m d ρ q) (m+k) ((bf σ m d ρ q).iv (m+j))=aT q (d+k) (q.iv (d+j)):=by
 unfold aT
 rw [Gf,pW]
end
theorem Ns {ρ ρ':Env} {r r':Nat} {n n':Int} (hn:n=n') (h:∀i,ρ.ic r i 0 0=ρ'.ic r' i 0 0):oq ρ r n=oq ρ' r' n':=by
 subst hn
 unfold oq
 congr 1
 funext i
 exact h i
theorem DR {ρ ρ':Env} {r r':Nat} {n n':Int} (hn:n=n') (h:∀i,jV ρ r i=jV ρ' r' i):gG ρ r n=gG ρ' r' n':=by
 subst hn
 unfold gG
 congr 1
 funext i
 exact h i
theorem Nu {ρ ρ':Env} {r r':Nat} {n n':Int} {w:Int} (h0:0≤n) (hn:n'=n+1) (h:∀i:Nat,(i:Int)<n→ρ'.ic r' i 0 0=ρ.ic r i 0 0) (hw:ρ'.ic r' n.toNat 0 0=w) :
  oq ρ' r' n'=oq ρ r n ++ [w]:=by
 subst hn hw
 unfold oq
 rw [show (n+1).toNat=n.toNat+1 by omega,List.range_succ,List.map_append]
 congr 1
 exact List.map_congr_left fun i hi=>h i (by have:=List.mem_range.1 hi;omega)
theorem wT {ρ ρ':Env} {r r':Nat} {o n n':Int} (ho:o=0) (hn:n=n') (h:∀i,bN ρ r i=bN ρ' r' i):fV ρ r o n=aT ρ' r' n':=by
 subst ho
 rw [M9]
 exact fB hn h
theorem qH {ρ ρ':Env} {r r':Nat} {n n':Int} {w:Sp} (h0:0≤n) (hn:n'=n+1) (h:∀i:Nat,(i:Int)<n→jV ρ' r' i=jV ρ r i) (hw:jV ρ' r' n.toNat=w) :
  gG ρ' r' n'=gG ρ r n ++ [w]:=by
 subst hn hw
 unfold gG
 rw [show (n+1).toNat=n.toNat+1 by omega,List.range_succ,List.map_append]
 congr 1
 exact List.map_congr_left fun i hi=>h i (by have:=List.mem_range.1 hi;omega)
theorem ou {ρ:Env} {r:Nat} {n:Int} {i:Nat} (h:(i:Int)<n):(dE ρ r n).take (i+1)=(dE ρ r n).take i ++ [aF (ρ.ic r i 0) (ρ.bc r i 0)]:=by
 have hl:i<(dE ρ r n).length:=by rw [sU];omega
 rw [List.take_succ_eq_append_getElem hl]
 simp [dE]
theorem wU {ρ:Env} {r:Nat} {n:Int} {i:Nat} (h:n≤i):(dE ρ r n).take i=dE ρ r n:=List.take_of_length_le (by rw [sU];omega)
def zY:mf:=[(ko,Sv.lL,JA),(l8,Sv.nK,Nn),(kr,Sv.lM,JB),(jA,Sv.jY,E5),(fO,Jt,wL)]
theorem Nv:∀k pre post,(k,pre,post)∈zY→jy k=true∧aY Tryz.prog k pre post:=by
 intro k pre post h
 simp only [zY,List.mem_cons,List.not_mem_nil,or_false,Prod.mk.injEq] at h
 rcases h with ⟨rfl,rfl,rfl⟩ | ⟨rfl,rfl,rfl⟩ | ⟨rfl,rfl,rfl⟩ | ⟨rfl,rfl,rfl⟩ | ⟨rfl,rfl,rfl⟩
 ·exact ⟨by kernel_rfl,Np⟩
 ·exact ⟨by kernel_rfl,P8⟩
 ·exact ⟨by kernel_rfl,Nq⟩
 ·exact ⟨by kernel_rfl,Ky⟩
 ·exact ⟨by kernel_rfl,Ju⟩
noncomputable def Ux:Ex:={sched:=sched,loops:=[Yt,Pt],cons:=[ko,l8,kr,jA,fO],fin:=jm}
def E8:Out :=
 .br (.aB (.var 0) (.lit 2))
 (.call 0 {lo:=0,az:=0,iv:=[(6,yv 50),(5,yv 49),(2,yv 60),(1,yv 59)],bv:=[(4,yw 48),(0,yw 58)],ct:=[(7,yu 68 49 5 yW 0),(3,yu 70 59 7 yN 0)],bk:=[(1,yc 1 5),(0,yc 3 7)]} 71 <|
  .call 4 {lo:=0,az:=0,iv:=yo [(70,yv 72)]<|yr 65 65 7<|yo [(57,yv 57),(56,yv 56)]<|yr 3 3 4<|yo [(53,yv 73),(52,yv 72),(69,.lit 0),(50,yv 50),(49,yv 49),(47,yv 47)]<|yr 45 45 4<|yr 40 40 4<|yr 35 35 4<|yr 30 30 13<|yr 16 16 4<|yr 11 11 8 [],bv:=[(67,yw 67),(66,yw 66),(58,yw 58),(55,yw 55),(51,yw 71),(48,yw 48),(46,yw 46),(41,yw 41),(36,yw 36),(31,yw 31),(17,yw 17),(12,yw 12)],ct:=[(70,yu 70 59 7 yN 0),(69,yu 74 72 7 yN 0),(68,yu 68 49 5 yW 0),(54,yl 54 9 5 50 yW 0)],bk:=[(3,yc 3 7),(2,yc 4 7),(1,yc 1 5),(0,yb 0)]} 79 <|
  .fin {lo:=71,az:=4,iv:=yo [(137,yv 145)]<|yr 132 140 7<|yo [(124,yv 132),(123,yv 131),(120,yv 128),(119,yv 127),(136,yv 144),(117,yv 125),(116,yv 124),(114,yv 122)]<|yr 112 120 4<|yr 107 115 4<|yr 102 110 4<|yr 97 105 13<|yr 83 91 4<|yr 78 86 8 [],bv:=[(134,yw 142),(133,yw 141),(125,yw 133),(122,yw 130),(118,yw 126),(115,yw 123),(113,yw 121),(108,yw 116),(103,yw 111),(98,yw 106),(84,yw 92),(79,yw 87)],ct:=[(137,yu 145 134 7 yN 0),(136,yu 144 145 7 yN 0),(135,yu 143 124 5 yW 0),(121,yl 129 9 5 50 yW 0)],bk:=[(6,yc 8 7),(5,yc 7 7),(4,yc 6 5)]})
 (.br (.aB (.var 0) (.lit 3))
  (.ob (.or (.not (.var 48)) (.aB (.var 49) (.lit 0))) <|
   .ob (.aA (.lit 0) (.var 49)) <|
   .loop 71 {lo:=71,az:=4,iv:=[(75,.lit 0),(73,.lit 0),(72,.lit 0)],bv:=[(71,.lit true)],nb:=[4]} <|
   .br (.bR (.var 75) (.var 49))
   (.ob (.not (.var 48)) <|
    .ob (.aA (.lit 0) (.var 75)) <|
    .ob (.aA (.mul (.add (.var 72) (.lit 1)) (.lit 8)) (.lit 140737488355328)) <|
    .ob (.aA (.lit 0) (.var 72)) <|
    .ob (.aA (.var 72) (.var 73)) <|
    .ob (.aA (.var 73) (.lit 9223372036854775807)) <|
    .ob (.or (.not (.var 71)) (.aB (.var 72) (.lit 0))) <|
    .new 76 [.be (.and (.aA (.add (.var 72) (.lit 1)) (.var 76)) (.aA (.var 76) (.lit 9223372036854775807)))] <|
    .ob (.inr .i64 (.add (.var 75) (.lit 1))) <|
    .back 0 {lo:=71,az:=4,iv:=[(75,.add (.var 75) (.lit 1)),(73,yv 76),(72,.add (.var 72) (.lit 1))],bv:=[(71,.lit false)],ct:=[(74,.up {r:=74,n1:=.add (.var 72) (.lit 1),s1:=1,ks:=yI} 0 [⟨0,(.var 72),(.lit 0),0,.int .i64 (.cell 68 (.var 75) (.lit 0) 3)⟩] (.lit 0))],bk:=[(4,yc 7 1)]})
   (.call 1 {lo:=0,az:=0,iv:=[(6,yv 73),(5,yv 72),(2,yv 60),(1,yv 59)],bv:=[(4,yw 71),(0,yw 58)],ct:=[(7,yu 74 72 1 yI 0),(3,yu 70 59 7 yN 0)],bk:=[(1,yc 4 1),(0,yc 3 7)]} 76 <|
    .call 4 {lo:=0,az:=0,iv:=yo [(70,yv 77)]<|yr 65 65 7<|yo [(57,yv 57),(56,yv 56)]<|yr 3 3 4<|yo [(53,yv 78),(52,yv 77),(69,.lit 0),(50,yv 50),(49,yv 49),(47,yv 47)]<|yr 45 45 4<|yr 40 40 4<|yr 35 35 4<|yr 30 30 13<|yr 16 16 4<|yr 11 11 8 [],bv:=[(67,yw 67),(66,yw 66),(58,yw 58),(55,yw 55),(51,yw 76),(48,yw 48),(46,yw 46),(41,yw 41),(36,yw 36),(31,yw 31),(17,yw 17),(12,yw 12)],ct:=[(70,yu 70 59 7 yN 0),(69,yu 79 77 7 yN 0),(68,yu 68 49 5 yW 0),(54,yl 54 9 5 50 yW 0)],bk:=[(3,yc 3 7),(2,yc 5 7),(1,yc 1 5),(0,yb 0)]} 84 <|
    .fin {lo:=71,az:=4,iv:=yo [(137,yv 150)]<|yr 132 145 7<|yo [(124,yv 137),(123,yv 136),(120,yv 133),(119,yv 132),(136,yv 149),(117,yv 130),(116,yv 129),(114,yv 127)]<|yr 112 125 4<|yr 107 120 4<|yr 102 115 4<|yr 97 110 13<|yr 83 96 4<|yr 78 91 8 [],bv:=[(134,yw 147),(133,yw 146),(125,yw 138),(122,yw 135),(118,yw 131),(115,yw 128),(113,yw 126),(108,yw 121),(103,yw 116),(98,yw 111),(84,yw 97),(79,yw 92)],ct:=[(137,yu 150 139 7 yN 0),(136,yu 149 150 7 yN 0),(135,yu 148 129 5 yW 0),(121,yl 134 9 5 50 yW 0)],bk:=[(6,yc 9 7),(5,yc 8 7),(4,yc 7 5)]}))
  (.br (.aB (.var 0) (.lit 5))
   (.ob (.or (.not (.var 48)) (.aB (.var 49) (.lit 0))) <|
    .ob (.aA (.lit 0) (.var 49)) <|
    .loop 71 {lo:=71,az:=4,iv:=[(75,.lit 0),(73,.lit 0),(72,.lit 0)],bv:=[(71,.lit true)],nb:=[4]} <|
    .br (.bR (.var 75) (.var 49))
    (.ob (.not (.var 48)) <|
     .ob (.aA (.lit 0) (.var 75)) <|
     .br (.not (.cell 68 (.var 75) (.lit 0) 4))
     (.ob (.aA (.mul (.add (.var 72) (.lit 1)) (.lit 24)) (.lit 140737488355328)) <|
      .ob (.aA (.lit 0) (.var 72)) <|
      .ob (.aA (.var 72) (.var 73)) <|
      .ob (.aA (.var 73) (.lit 9223372036854775807)) <|
      .ob (.or (.not (.var 71)) (.aB (.var 72) (.lit 0))) <|
      .new 76 [.be (.and (.aA (.add (.var 72) (.lit 1)) (.var 76)) (.aA (.var 76) (.lit 9223372036854775807)))] <|
      .ob (.inr .i64 (.add (.var 75) (.lit 1))) <|
      .back 0 {lo:=71,az:=4,iv:=[(75,.add (.var 75) (.lit 1)),(73,yv 76),(72,.add (.var 72) (.lit 1))],bv:=[(71,.lit false)],ct:=[(74,.up {r:=74,n1:=.add (.var 72) (.lit 1),s1:=3,ks:=[.bool,.int .i64,.int .i64]} 0 [⟨0,(.var 72),(.lit 0),0,.bool (.lit false)⟩,⟨0,(.var 72),(.lit 0),1,.int .i64 (.lit 0)⟩,⟨0,(.var 72),(.lit 0),2,.int .i64 (.lit 0)⟩] (.lit 0))],bk:=[(4,yc 9 3)]})
     (.ob (.aA (.mul (.add (.var 72) (.lit 1)) (.lit 24)) (.lit 140737488355328)) <|
      .ob (.aA (.lit 0) (.var 72)) <|
      .ob (.aA (.var 72) (.var 73)) <|
      .ob (.aA (.var 73) (.lit 9223372036854775807)) <|
      .ob (.or (.not (.var 71)) (.aB (.var 72) (.lit 0))) <|
      .new 76 [.be (.and (.aA (.add (.var 72) (.lit 1)) (.var 76)) (.aA (.var 76) (.lit 9223372036854775807)))] <|
      .ob (.inr .i64 (.add (.var 75) (.lit 1))) <|
      .back 0 {lo:=71,az:=4,iv:=[(75,.add (.var 75) (.lit 1)),(73,yv 76),(72,.add (.var 72) (.lit 1))],bv:=[(71,.lit false)],ct:=[(74,.up {r:=74,n1:=.add (.var 72) (.lit 1),s1:=3,ks:=[.bool,.int .i64,.int .i64]} 0 [⟨0,(.var 72),(.lit 0),0,.bool (.lit true)⟩,⟨0,(.var 72),(.lit 0),1,.int .i64 (.cell 68 (.var 75) (.lit 0) 3)⟩,⟨0,(.var 72),(.lit 0),2,.int .i64 (.cell 68 (.var 75) (.lit 0) 2)⟩] (.lit 0))],bk:=[(4,yc 9 3)]}))
    (.call 2 {lo:=0,az:=0,iv:=[(6,yv 73),(5,yv 72),(2,yv 60),(1,yv 59)],bv:=[(4,yw 71),(0,yw 58)],ct:=[(7,.up {r:=74,n1:=.var 72,s1:=3,ks:=[.bool,.int .i64,.int .i64]} 0 [] (.lit 0)),(3,yu 70 59 7 yN 0)],bk:=[(1,yc 4 3),(0,yc 3 7)]} 76 <|
     .call 4 {lo:=0,az:=0,iv:=yo [(70,yv 77)]<|yr 65 65 7<|yo [(57,yv 57),(56,yv 56)]<|yr 3 3 4<|yo [(53,yv 78),(52,yv 77),(69,.lit 0),(50,yv 50),(49,yv 49),(47,yv 47)]<|yr 45 45 4<|yr 40 40 4<|yr 35 35 4<|yr 30 30 13<|yr 16 16 4<|yr 11 11 8 [],bv:=[(67,yw 67),(66,yw 66),(58,yw 58),(55,yw 55),(51,yw 76),(48,yw 48),(46,yw 46),(41,yw 41),(36,yw 36),(31,yw 31),(17,yw 17),(12,yw 12)],ct:=[(70,yu 70 59 7 yN 0),(69,yu 79 77 7 yN 0),(68,yu 68 49 5 yW 0),(54,yl 54 9 5 50 yW 0)],bk:=[(3,yc 3 7),(2,yc 5 7),(1,yc 1 5),(0,yb 0)]} 84 <|
     .fin {lo:=71,az:=4,iv:=yo [(137,yv 150)]<|yr 132 145 7<|yo [(124,yv 137),(123,yv 136),(120,yv 133),(119,yv 132),(136,yv 149),(117,yv 130),(116,yv 129),(114,yv 127)]<|yr 112 125 4<|yr 107 120 4<|yr 102 115 4<|yr 97 110 13<|yr 83 96 4<|yr 78 91 8 [],bv:=[(134,yw 147),(133,yw 146),(125,yw 138),(122,yw 135),(118,yw 131),(115,yw 128),(113,yw 126),(108,yw 121),(103,yw 116),(98,yw 111),(84,yw 97),(79,yw 92)],ct:=[(137,yu 150 139 7 yN 0),(136,yu 149 150 7 yN 0),(135,yu 148 129 5 yW 0),(121,yl 134 9 5 50 yW 0)],bk:=[(6,yc 9 7),(5,yc 8 7),(4,yc 7 5)]}))
   (.br (.aB (.var 0) (.lit 4))
    (.call 3 {lo:=0,az:=0,iv:=[(4,yv 45),(2,yv 60),(1,yv 59)],bv:=[(0,yw 58)],ct:=[(3,yu 70 59 7 yN 0)],bk:=[(0,yc 3 7)]} 71 <|
     .call 4 {lo:=0,az:=0,iv:=yo [(70,yv 72)]<|yr 65 65 7<|yo [(57,yv 57),(56,yv 56)]<|yr 3 3 4<|yo [(53,yv 73),(52,yv 72),(69,.lit 0),(50,yv 50),(49,yv 49),(47,yv 47)]<|yr 45 45 4<|yr 40 40 4<|yr 35 35 4<|yr 30 30 13<|yr 16 16 4<|yr 11 11 8 [],bv:=[(67,yw 67),(66,yw 66),(58,yw 58),(55,yw 55),(51,yw 71),(48,yw 48),(46,yw 46),(41,yw 41),(36,yw 36),(31,yw 31),(17,yw 17),(12,yw 12)],ct:=[(70,yu 70 59 7 yN 0),(69,yu 74 72 7 yN 0),(68,yu 68 49 5 yW 0),(54,yl 54 9 5 50 yW 0)],bk:=[(3,yc 3 7),(2,yc 4 7),(1,yc 1 5),(0,yb 0)]} 79 <|
     .fin {lo:=71,az:=4,iv:=yo [(137,yv 145)]<|yr 132 140 7<|yo [(124,yv 132),(123,yv 131),(120,yv 128),(119,yv 127),(136,yv 144),(117,yv 125),(116,yv 124),(114,yv 122)]<|yr 112 120 4<|yr 107 115 4<|yr 102 110 4<|yr 97 105 13<|yr 83 91 4<|yr 78 86 8 [],bv:=[(134,yw 142),(133,yw 141),(125,yw 133),(122,yw 130),(118,yw 126),(115,yw 123),(113,yw 121),(108,yw 116),(103,yw 111),(98,yw 106),(84,yw 92),(79,yw 87)],ct:=[(137,yu 145 134 7 yN 0),(136,yu 144 145 7 yN 0),(135,yu 143 124 5 yW 0),(121,yl 129 9 5 50 yW 0)],bk:=[(6,yc 8 7),(5,yc 7 7),(4,yc 6 5)]})
    (.call 4 {lo:=0,az:=0,iv:=yo [(70,yv 70)]<|yr 65 65 7<|yo [(57,yv 57),(56,yv 56)]<|yr 3 3 4<|yo [(53,yv 53),(52,yv 52),(69,yv 69),(50,yv 50),(49,yv 49),(47,yv 47)]<|yr 45 45 4<|yr 40 40 4<|yr 35 35 4<|yr 30 30 13<|yr 16 16 4<|yr 11 11 8 [],bv:=[(67,yw 67),(66,yw 66),(58,yw 58),(55,yw 55),(51,yw 51),(48,yw 48),(46,yw 46),(41,yw 41),(36,yw 36),(31,yw 31),(17,yw 17),(12,yw 12)],ct:=[(70,yu 70 59 7 yN 0),(69,yu 69 70 7 yN 0),(68,yu 68 49 5 yW 0),(54,yl 54 9 5 50 yW 0)],bk:=[(3,yc 3 7),(2,yc 2 7),(1,yc 1 5),(0,yb 0)]} 71 <|
     .fin {lo:=71,az:=4,iv:=yo [(137,yv 137)]<|yr 132 132 7<|yo [(124,yv 124),(123,yv 123),(120,yv 120),(119,yv 119),(136,yv 136),(117,yv 117),(116,yv 116),(114,yv 114)]<|yr 112 112 4<|yr 107 107 4<|yr 102 102 4<|yr 97 97 13<|yr 83 83 4<|yr 78 78 8 [],bv:=[(134,yw 134),(133,yw 133),(125,yw 125),(122,yw 122),(118,yw 118),(115,yw 115),(113,yw 113),(108,yw 108),(103,yw 103),(98,yw 98),(84,yw 84),(79,yw 79)],ct:=[(137,yu 137 126 7 yN 0),(136,yu 136 137 7 yN 0),(135,yu 135 116 5 yW 0),(121,yl 121 9 5 50 yW 0)],bk:=[(6,yc 6 7),(5,yc 5 7),(4,yc 4 5)]}))))
theorem Sz:exec tab Ux 8000 [] (eG jm.f jm.nv [] jm.gl jm.hp jm.args)=E8:=by kernel_rfl
def qX (ρ:Env):Prop:=bH ρ 4∧(ρ.iv 59≤1000000∧(ρ.iv 0=4∨ρ.iv 49≤100000))∧(ρ.iv 0=4→DN ρ 42)
def BN (ρ:Env):Prop:=bH ρ 71∧aa ρ 0 71=(aa ρ 0 4).gp
theorem zZ {r:RS} (h:2≤r.ak∧r.ak≤5) {l:List Nt} (hl:l=r.notes.filter fun n=>!r.kept n):r.gp=({r with bI:=l}:RS).ed:=by
 subst hl
 unfold RS.gp
 rw [if_pos h]
def Ny (ρ:Env):Prop:=(qX ρ∧ρ.iv 0=3)∧(0≤ρ.iv 75∧ρ.iv 75≤ρ.iv 49)∧(bF ρ 71∧ρ.iv 72=ρ.iv 75)∧oq ρ 74 (ρ.iv 72)=((dE ρ 68 (ρ.iv 49)).take (ρ.iv 75).toNat).map Wd.num
def G9 (ρ:Env):Prop:=(qX ρ∧ρ.iv 0=5)∧(0≤ρ.iv 75∧ρ.iv 75≤ρ.iv 49)∧(bF ρ 71∧ρ.iv 72=ρ.iv 75)∧gG ρ 74 (ρ.iv 72)=((dE ρ 68 (ρ.iv 49)).take (ρ.iv 75).toNat).map RS.jL
set_option maxHeartbeats 4000000 in
theorem SF (ρ:Env) (hpre:qX ρ.num):Sat BN zY [] ρ E8:=by
 replace hpre:qX ρ:=hpre
 have hpre':=hpre
 obtain ⟨⟨o1,o2,o3⟩,⟨f1,f2⟩,hw⟩:=hpre
 unfold E8
 refine Sat.br (fun c=>?_) (fun c=>?_)
 ·simp only [Da] at c
  have e0:(aa ρ 0 4).ak=2:=c
  refine Sat.iH (c:=ko) rfl ⟨o3,f1,o1,by show ρ.iv 49≤1000000;omega⟩ (fun q=>(bH q 4)∧bF q 71∧(aa q 0 4).gp=({aa q 0 4 with bI:=aT q 74 (q.iv 72)}:RS).ed) (fun e hq=>?_) fun q hq=>?_
  ·replace hq:JA (bf _ 8 71 ρ (ρ.join 71 e)):=hq
   obtain ⟨q1,q2⟩:=hq
   rw [show bF (bf _ 8 71 ρ (ρ.join 71 e)) 8=bF (ρ.join 71 e) 71 from lK (m:=8) 0] at q1
   rw [show aT (bf _ 8 71 ρ (ρ.join 71 e)) 11 ((bf _ 8 71 ρ (ρ.join 71 e)).iv 9)=aT (ρ.join 71 e) 74 ((ρ.join 71 e).iv 72) from qG (m:=8) 3 1] at q2
   refine ⟨⟨o1,o2,o3⟩,q1,zZ (r:=aa ρ 0 4) ⟨by rw [e0];decide,by rw [e0];decide⟩ (q2.trans ?_)⟩
   refine congr (congrArg List.filter ?_) ?_
   ·funext n
    refine congrArg (fun b=>!b) ?_
    unfold RS.kept
    rw [if_pos e0]
    refine congrArg (fun l:List Wd=>l.any fun w=>RS.wG w n) ?_
    exact DI rfl fun i=>by simp [aF,bf,-Int.pred_toNat,Sub.ag,assoc,CV.I,CV.B,ah,ai,ae.I,ae.B,SC.I,SC.B,IE.den,BE.den]
   ·exact fB rfl fun i=>by simp [bN,aF,bf,-Int.pred_toNat,Sub.ag,assoc,CV.I,CV.B,ah,ai,ae.I,ae.B,SC.I,SC.B,IE.den,BE.den]
  obtain ⟨⟨o1,o2,o3⟩,od,hm⟩:=hq
  refine dZ (c:=fO) rfl ({aa q 0 4 with bI:=aT q 74 (q.iv 72)}:RS) ({aa q 0 4 with bI:=aT q 74 (q.iv 72)}:RS).ed (by decide) (by decide) (je rfl rfl rfl rfl) ⟨o1,⟨od,Int.le_refl 0,.inr (by show (0:Int)+_≤_;rw [Int.zero_add];exact Int.le_refl _)⟩,o3⟩ (RS.ext' rfl rfl rfl rfl rfl rfl bu (wT rfl rfl fun i=>by simp [bN,aF,-Int.pred_toNat,Sub.ag,assoc,CV.I,CV.B,ah,ai,ae.I,ae.B,SC.I,SC.B,IE.den,BE.den]) rfl rfl rfl rfl bB rfl bz rfl rfl) (fun e hq hr=>⟨hq.1,by rw [←hr];exact hq.2⟩) (fun u=>(bH u 79)∧aa u 0 79=(aa u 0 4).gp) (fun e h1 h2=>⟨h1,h2.trans hm.symm⟩) fun u hu=>?_
  obtain ⟨⟨o1,o2,o3⟩,hm⟩:=hu
  exact Sat.fin ⟨⟨(by first | exact o1 | exact o2 | exact o3 | exact aj rfl rfl | assumption),(by first | exact o2 | exact ⟨aj rfl rfl,Int.le_refl 0,.inl rfl⟩ | assumption),(by first | exact o1 | exact o2 | exact o3 | exact aj rfl rfl | assumption)⟩,Eq.trans (b:=(aa u 0 79)) (RS.ext' rfl rfl rfl rfl rfl rfl bu bC rfl rfl rfl rfl bB rfl bz rfl rfl) (Eq.symm (hm.symm))⟩
 simp only [Da] at c
 refine Sat.br (fun c3=>?_) (fun c3=>?_)
 ·simp only [Da] at c3
  refine Sat.ob (aL o1) (Sat.ob (decide_eq_true o1.2.1) (Sat.wH Ny (fun r=>(r.iv 49-r.iv 75).toNat) (fun _=>True) ⟨⟨hpre',c3⟩,⟨Int.le_refl 0,o1.2.1⟩,⟨aj rfl rfl,rfl⟩,rfl⟩ (fun _=>trivial) fun q _ hI=>?_))
  replace hI:Ny q:=hI
  have hI':=hI
  obtain ⟨⟨hpre',he⟩,⟨i1,i2⟩,⟨os,hl⟩,hrow⟩:=hI
  have hpre:=hpre'
  obtain ⟨⟨o1,o2,o3⟩,⟨f1,f2⟩,hw⟩:=hpre
  refine Sat.br (fun c=>?_) (fun c=>?_)
  ·simp only [Da] at c
   refine Sat.ob (bT o1 (by simp only [Nat.reduceAdd];omega)) (Sat.ob (decide_eq_true i1) ?_)
   obtain ⟨p1,p2,p3,p4⟩:=id os
   refine Sat.ob (by simp only [Da];omega) (Sat.ob (decide_eq_true p2) (Sat.ob (decide_eq_true p3) (Sat.ob (decide_eq_true p4) (Sat.ob (aL os) (Sat.yY (fun u=>Ny u∧u.iv 75<u.iv 49∧(u.iv 49-(u.iv 75+1)).toNat<(q.iv 49-q.iv 75).toNat) (fun e=>⟨hI',c,by show (q.iv 49-(q.iv 75+1)).toNat<(q.iv 49-q.iv 75).toNat;omega⟩) fun u hu hb=>?_)))))
   obtain ⟨⟨⟨hpre',he⟩,⟨i1,i2⟩,⟨os,hl⟩,hrow⟩,c,hd⟩:=hu
   simp only [Da] at hb
   obtain ⟨p1,p2,p3,p4⟩:=id os
   replace p2:0≤u.iv 72:=p2
   have hf2:=hpre'.2.1.2
   refine Sat.ob (by simp only [Da];omega) (Sat.back rfl ⟨⟨⟨hpre',he⟩,⟨?_,?_⟩,⟨⟨fun h=>(by cases h),?_,hb.1,hb.2⟩,?_⟩,?_⟩,hd⟩)
   ·show 0≤u.iv 75+1;omega
   ·show u.iv 75+1≤u.iv 49;omega
   ·show 0≤u.iv 72+1;omega
   ·show u.iv 72+1=u.iv 75+1;omega
   ·refine (Nu (ρ:=u) (r:=74) (n:=u.iv 72) (w:=Wd.num (aF (u.ic 68 (u.iv 75).toNat 0) (u.bc 68 (u.iv 75).toNat 0))) p2 rfl (fun i hi=>?_) ?_).trans ?_
    ·have hn:¬(u.iv 72).toNat=i:=fun h=>by omega
     simp [jV,aF,-Int.pred_toNat,Sub.ag,assoc,CV.I,CV.B,ah,ai,ae.I,ae.B,SC.I,SC.B,IE.den,BE.den,hn]
    ·simp [aF,-Int.pred_toNat,Sub.ag,assoc,CV.I,CV.B,ah,ai,ae.I,ae.B,SC.I,SC.B,IE.den,BE.den,hl]
    ·show oq u 74 (u.iv 72) ++ _=((dE u 68 (u.iv 49)).take (u.iv 75+1).toNat).map Wd.num
     rw [hrow,show (u.iv 75+1).toNat=(u.iv 75).toNat+1 by omega,ou (by omega),List.map_append]
     rfl
  ·simp only [Da] at c
   have e0:(aa q 0 4).ak=3:=he
   rw [wU (by omega)] at hrow
   refine Sat.iH (c:=l8) rfl ⟨o3,f1,os,by show q.iv 72≤1000000;omega⟩ (fun u=>(bH u 4)∧bF u 76∧(aa u 0 4).gp=({aa u 0 4 with bI:=aT u 79 (u.iv 77)}:RS).ed) (fun e hq=>?_) fun u hu=>?_
   ·replace hq:Nn (bf _ 8 76 q (q.join 76 e)):=hq
    obtain ⟨q1,q2⟩:=hq
    rw [show bF (bf _ 8 76 q (q.join 76 e)) 8=bF (q.join 76 e) 76 from lK (m:=8) 0] at q1
    rw [show aT (bf _ 8 76 q (q.join 76 e)) 11 ((bf _ 8 76 q (q.join 76 e)).iv 9)=aT (q.join 76 e) 79 ((q.join 76 e).iv 77) from qG (m:=8) 3 1] at q2
    refine ⟨⟨o1,o2,o3⟩,q1,zZ (r:=aa q 0 4) ⟨by rw [e0];decide,by rw [e0];decide⟩ (q2.trans ?_)⟩
    refine congr (congrArg List.filter ?_) ?_
    ·funext n
     refine congrArg (fun b=>!b) ?_
     unfold RS.kept
     rw [if_neg (show ¬(aa q 0 4).ak=2 by rw [e0];decide),if_pos e0]
     refine (congrArg (fun l:List Int=>l.any fun e=>RS.uR e n) (Eq.trans (b:=oq q 74 (q.iv 72)) (Ns rfl fun i=>by simp [bf,-Int.pred_toNat,Sub.ag,assoc,CV.I,CV.B,ah,ai,ae.I,ae.B,SC.I,SC.B,IE.den,BE.den]) hrow)).trans ?_
     rw [List.any_map]
     rfl
    ·exact fB rfl fun i=>by simp [bN,aF,bf,-Int.pred_toNat,Sub.ag,assoc,CV.I,CV.B,ah,ai,ae.I,ae.B,SC.I,SC.B,IE.den,BE.den]
   obtain ⟨⟨o1,o2,o3⟩,od,hm⟩:=hu
   refine dZ (c:=fO) rfl ({aa u 0 4 with bI:=aT u 79 (u.iv 77)}:RS) ({aa u 0 4 with bI:=aT u 79 (u.iv 77)}:RS).ed (by decide) (by decide) (je rfl rfl rfl rfl) ⟨o1,⟨od,Int.le_refl 0,.inr (by show (0:Int)+_≤_;rw [Int.zero_add];exact Int.le_refl _)⟩,o3⟩ (RS.ext' rfl rfl rfl rfl rfl rfl bu (wT rfl rfl fun i=>by simp [bN,aF,-Int.pred_toNat,Sub.ag,assoc,CV.I,CV.B,ah,ai,ae.I,ae.B,SC.I,SC.B,IE.den,BE.den]) rfl rfl rfl rfl bB rfl bz rfl rfl) (fun e hq hr=>⟨hq.1,by rw [←hr];exact hq.2⟩) (fun u=>(bH u 84)∧aa u 0 84=(aa u 0 4).gp) (fun e h1 h2=>⟨h1,h2.trans hm.symm⟩) fun u hu=>?_
   obtain ⟨⟨o1,o2,o3⟩,hm⟩:=hu
   exact Sat.fin ⟨⟨(by first | exact o1 | exact o2 | exact o3 | exact aj rfl rfl | assumption),(by first | exact o2 | exact ⟨aj rfl rfl,Int.le_refl 0,.inl rfl⟩ | assumption),(by first | exact o1 | exact o2 | exact o3 | exact aj rfl rfl | assumption)⟩,Eq.trans (b:=(aa u 0 84)) (RS.ext' rfl rfl rfl rfl rfl rfl bu bC rfl rfl rfl rfl bB rfl bz rfl rfl) (Eq.symm (hm.symm))⟩
 simp only [Da] at c3
 refine Sat.br (fun c5=>?_) (fun c5=>?_)
 ·simp only [Da] at c5
  refine Sat.ob (aL o1) (Sat.ob (decide_eq_true o1.2.1) (Sat.wH G9 (fun r=>(r.iv 49-r.iv 75).toNat) (fun _=>True) ⟨⟨hpre',c5⟩,⟨Int.le_refl 0,o1.2.1⟩,⟨aj rfl rfl,rfl⟩,rfl⟩ (fun _=>trivial) fun q _ hI=>?_))
  replace hI:G9 q:=hI
  have hI':=hI
  obtain ⟨⟨hpre',he⟩,⟨i1,i2⟩,⟨os,hl⟩,hrow⟩:=hI
  have hpre:=hpre'
  obtain ⟨⟨o1,o2,o3⟩,⟨f1,f2⟩,hw⟩:=hpre
  refine Sat.br (fun c=>?_) (fun c=>?_)
  ·simp only [Da] at c
   refine Sat.ob (bT o1 (by simp only [Nat.reduceAdd];omega)) (Sat.ob (decide_eq_true i1) ?_)
   obtain ⟨p1,p2,p3,p4⟩:=id os
   refine Sat.br (fun c2=>?_) (fun c2=>?_)
   ·simp only [Da] at c2
    refine Sat.ob (by simp only [Da];omega) (Sat.ob (decide_eq_true p2) (Sat.ob (decide_eq_true p3) (Sat.ob (decide_eq_true p4) (Sat.ob (aL os) (Sat.yY (fun u=>G9 u∧u.iv 75<u.iv 49∧(u.iv 49-(u.iv 75+1)).toNat<(q.iv 49-q.iv 75).toNat∧u.bc 68 (u.iv 75).toNat 0 4=false) (fun e=>⟨hI',c,by show (q.iv 49-(q.iv 75+1)).toNat<(q.iv 49-q.iv 75).toNat;omega,c2⟩) fun u hu hb=>?_)))))
    obtain ⟨⟨⟨hpre',he⟩,⟨i1,i2⟩,⟨os,hl⟩,hrow⟩,c,hd,hc⟩:=hu
    simp only [Da] at hb
    obtain ⟨p1,p2,p3,p4⟩:=id os
    replace p2:0≤u.iv 72:=p2
    have hf2:=hpre'.2.1.2
    refine Sat.ob (by simp only [Da];omega) (Sat.back rfl ⟨⟨⟨hpre',he⟩,⟨?_,?_⟩,⟨⟨fun h=>(by cases h),?_,hb.1,hb.2⟩,?_⟩,?_⟩,hd⟩)
    ·show 0≤u.iv 75+1;omega
    ·show u.iv 75+1≤u.iv 49;omega
    ·show 0≤u.iv 72+1;omega
    ·show u.iv 72+1=u.iv 75+1;omega
    ·refine (qH (ρ:=u) (r:=74) (n:=u.iv 72) (w:=RS.jL (aF (u.ic 68 (u.iv 75).toNat 0) (u.bc 68 (u.iv 75).toNat 0))) p2 rfl (fun i hi=>?_) ?_).trans ?_
     ·have hn:¬(u.iv 72).toNat=i:=fun h=>by omega
      simp [jV,aF,-Int.pred_toNat,Sub.ag,assoc,CV.I,CV.B,ah,ai,ae.I,ae.B,SC.I,SC.B,IE.den,BE.den,hn]
     ·simp [jV,aF,RS.jL,Sp.zero,-Int.pred_toNat,Sub.ag,assoc,CV.I,CV.B,ah,ai,ae.I,ae.B,SC.I,SC.B,IE.den,BE.den,hl,hc]
     ·show gG u 74 (u.iv 72) ++ _=((dE u 68 (u.iv 49)).take (u.iv 75+1).toNat).map RS.jL
      rw [hrow,show (u.iv 75+1).toNat=(u.iv 75).toNat+1 by omega,ou (by omega),List.map_append]
      rfl
   ·simp only [Da] at c2
    refine Sat.ob (by simp only [Da];omega) (Sat.ob (decide_eq_true p2) (Sat.ob (decide_eq_true p3) (Sat.ob (decide_eq_true p4) (Sat.ob (aL os) (Sat.yY (fun u=>G9 u∧u.iv 75<u.iv 49∧(u.iv 49-(u.iv 75+1)).toNat<(q.iv 49-q.iv 75).toNat∧u.bc 68 (u.iv 75).toNat 0 4=true) (fun e=>⟨hI',c,by show (q.iv 49-(q.iv 75+1)).toNat<(q.iv 49-q.iv 75).toNat;omega,c2⟩) fun u hu hb=>?_)))))
    obtain ⟨⟨⟨hpre',he⟩,⟨i1,i2⟩,⟨os,hl⟩,hrow⟩,c,hd,hc⟩:=hu
    simp only [Da] at hb
    obtain ⟨p1,p2,p3,p4⟩:=id os
    replace p2:0≤u.iv 72:=p2
    have hf2:=hpre'.2.1.2
    refine Sat.ob (by simp only [Da];omega) (Sat.back rfl ⟨⟨⟨hpre',he⟩,⟨?_,?_⟩,⟨⟨fun h=>(by cases h),?_,hb.1,hb.2⟩,?_⟩,?_⟩,hd⟩)
    ·show 0≤u.iv 75+1;omega
    ·show u.iv 75+1≤u.iv 49;omega
    ·show 0≤u.iv 72+1;omega
    ·show u.iv 72+1=u.iv 75+1;omega
    ·refine (qH (ρ:=u) (r:=74) (n:=u.iv 72) (w:=RS.jL (aF (u.ic 68 (u.iv 75).toNat 0) (u.bc 68 (u.iv 75).toNat 0))) p2 rfl (fun i hi=>?_) ?_).trans ?_
     ·have hn:¬(u.iv 72).toNat=i:=fun h=>by omega
      simp [jV,aF,-Int.pred_toNat,Sub.ag,assoc,CV.I,CV.B,ah,ai,ae.I,ae.B,SC.I,SC.B,IE.den,BE.den,hn]
     ·simp [jV,aF,RS.jL,-Int.pred_toNat,Sub.ag,assoc,CV.I,CV.B,ah,ai,ae.I,ae.B,SC.I,SC.B,IE.den,BE.den,hl,hc]
     ·show gG u 74 (u.iv 72) ++ _=((dE u 68 (u.iv 49)).take (u.iv 75+1).toNat).map RS.jL
      rw [hrow,show (u.iv 75+1).toNat=(u.iv 75).toNat+1 by omega,ou (by omega),List.map_append]
      rfl
  ·simp only [Da] at c
   have e0:(aa q 0 4).ak=5:=he
   rw [wU (by omega)] at hrow
   refine Sat.iH (c:=kr) rfl ⟨o3,f1,os,by show q.iv 72≤1000000;omega⟩ (fun u=>(bH u 4)∧bF u 76∧(aa u 0 4).gp=({aa u 0 4 with bI:=aT u 79 (u.iv 77)}:RS).ed) (fun e hq=>?_) fun u hu=>?_
   ·replace hq:JB (bf _ 8 76 q (q.join 76 e)):=hq
    obtain ⟨q1,q2⟩:=hq
    rw [show bF (bf _ 8 76 q (q.join 76 e)) 8=bF (q.join 76 e) 76 from lK (m:=8) 0] at q1
    rw [show aT (bf _ 8 76 q (q.join 76 e)) 11 ((bf _ 8 76 q (q.join 76 e)).iv 9)=aT (q.join 76 e) 79 ((q.join 76 e).iv 77) from qG (m:=8) 3 1] at q2
    refine ⟨⟨o1,o2,o3⟩,q1,zZ (r:=aa q 0 4) ⟨by rw [e0];decide,by rw [e0];decide⟩ (q2.trans ?_)⟩
    refine congr (congrArg List.filter ?_) ?_
    ·funext n
     refine congrArg (fun b=>!b) ?_
     unfold RS.kept
     rw [if_neg (show ¬(aa q 0 4).ak=2 by rw [e0];decide),if_neg (show ¬(aa q 0 4).ak=3 by rw [e0];decide),if_pos e0]
     refine (congrArg (fun l:List Sp=>l.any fun s=>RS.rM s n) (Eq.trans (b:=gG q 74 (q.iv 72)) (DR rfl fun i=>by simp [jV,bf,-Int.pred_toNat,Sub.ag,assoc,CV.I,CV.B,ah,ai,ae.I,ae.B,SC.I,SC.B,IE.den,BE.den]) hrow)).trans ?_
     rw [List.any_map]
     rfl
    ·exact fB rfl fun i=>by simp [bN,aF,bf,-Int.pred_toNat,Sub.ag,assoc,CV.I,CV.B,ah,ai,ae.I,ae.B,SC.I,SC.B,IE.den,BE.den]
   obtain ⟨⟨o1,o2,o3⟩,od,hm⟩:=hu
   refine dZ (c:=fO) rfl ({aa u 0 4 with bI:=aT u 79 (u.iv 77)}:RS) ({aa u 0 4 with bI:=aT u 79 (u.iv 77)}:RS).ed (by decide) (by decide) (je rfl rfl rfl rfl) ⟨o1,⟨od,Int.le_refl 0,.inr (by show (0:Int)+_≤_;rw [Int.zero_add];exact Int.le_refl _)⟩,o3⟩ (RS.ext' rfl rfl rfl rfl rfl rfl bu (wT rfl rfl fun i=>by simp [bN,aF,-Int.pred_toNat,Sub.ag,assoc,CV.I,CV.B,ah,ai,ae.I,ae.B,SC.I,SC.B,IE.den,BE.den]) rfl rfl rfl rfl bB rfl bz rfl rfl) (fun e hq hr=>⟨hq.1,by rw [←hr];exact hq.2⟩) (fun u=>(bH u 84)∧aa u 0 84=(aa u 0 4).gp) (fun e h1 h2=>⟨h1,h2.trans hm.symm⟩) fun u hu=>?_
   obtain ⟨⟨o1,o2,o3⟩,hm⟩:=hu
   exact Sat.fin ⟨⟨(by first | exact o1 | exact o2 | exact o3 | exact aj rfl rfl | assumption),(by first | exact o2 | exact ⟨aj rfl rfl,Int.le_refl 0,.inl rfl⟩ | assumption),(by first | exact o1 | exact o2 | exact o3 | exact aj rfl rfl | assumption)⟩,Eq.trans (b:=(aa u 0 84)) (RS.ext' rfl rfl rfl rfl rfl rfl bu bC rfl rfl rfl rfl bB rfl bz rfl rfl) (Eq.symm (hm.symm))⟩
 simp only [Da] at c5
 refine Sat.br (fun c4=>?_) (fun c4=>?_)
 ·simp only [Da] at c4
  have e0:(aa ρ 0 4).ak=4:=c4
  obtain ⟨⟨w1,w2⟩,w3,w4⟩:=hw c4
  simp only [Nat.reduceAdd] at w1 w2 w3 w4
  refine Sat.iH (c:=jA) rfl ⟨o3,f1,by show -9223372036854775808≤ρ.iv 45;omega,by show ρ.iv 45≤9223372036854775807;omega⟩ (fun q=>(bH q 4)∧bF q 71∧(aa q 0 4).gp=({aa q 0 4 with bI:=aT q 74 (q.iv 72)}:RS).ed) (fun e hq=>?_) fun q hq=>?_
  ·replace hq:E5 (bf _ 8 71 ρ (ρ.join 71 e)):=hq
   obtain ⟨q1,q2⟩:=hq
   rw [show bF (bf _ 8 71 ρ (ρ.join 71 e)) 8=bF (ρ.join 71 e) 71 from lK (m:=8) 0] at q1
   rw [show aT (bf _ 8 71 ρ (ρ.join 71 e)) 11 ((bf _ 8 71 ρ (ρ.join 71 e)).iv 9)=aT (ρ.join 71 e) 74 ((ρ.join 71 e).iv 72) from qG (m:=8) 3 1] at q2
   refine ⟨⟨o1,o2,o3⟩,q1,zZ (r:=aa ρ 0 4) ⟨by rw [e0];decide,by rw [e0];decide⟩ (q2.trans ?_)⟩
   refine congr (congrArg List.filter ?_) ?_
   ·funext n
    refine congrArg (fun b=>!b) ?_
    unfold RS.kept
    rw [if_neg (show ¬(aa ρ 0 4).ak=2 by rw [e0];decide),if_neg (show ¬(aa ρ 0 4).ak=3 by rw [e0];decide),if_neg (show ¬(aa ρ 0 4).ak=5 by rw [e0];decide),if_pos e0]
    rfl
   ·exact fB rfl fun i=>by simp [bN,aF,bf,-Int.pred_toNat,Sub.ag,assoc,CV.I,CV.B,ah,ai,ae.I,ae.B,SC.I,SC.B,IE.den,BE.den]
  obtain ⟨⟨o1,o2,o3⟩,od,hm⟩:=hq
  refine dZ (c:=fO) rfl ({aa q 0 4 with bI:=aT q 74 (q.iv 72)}:RS) ({aa q 0 4 with bI:=aT q 74 (q.iv 72)}:RS).ed (by decide) (by decide) (je rfl rfl rfl rfl) ⟨o1,⟨od,Int.le_refl 0,.inr (by show (0:Int)+_≤_;rw [Int.zero_add];exact Int.le_refl _)⟩,o3⟩ (RS.ext' rfl rfl rfl rfl rfl rfl bu (wT rfl rfl fun i=>by simp [bN,aF,-Int.pred_toNat,Sub.ag,assoc,CV.I,CV.B,ah,ai,ae.I,ae.B,SC.I,SC.B,IE.den,BE.den]) rfl rfl rfl rfl bB rfl bz rfl rfl) (fun e hq hr=>⟨hq.1,by rw [←hr];exact hq.2⟩) (fun u=>(bH u 79)∧aa u 0 79=(aa u 0 4).gp) (fun e h1 h2=>⟨h1,h2.trans hm.symm⟩) fun u hu=>?_
  obtain ⟨⟨o1,o2,o3⟩,hm⟩:=hu
  exact Sat.fin ⟨⟨(by first | exact o1 | exact o2 | exact o3 | exact aj rfl rfl | assumption),(by first | exact o2 | exact ⟨aj rfl rfl,Int.le_refl 0,.inl rfl⟩ | assumption),(by first | exact o1 | exact o2 | exact o3 | exact aj rfl rfl | assumption)⟩,Eq.trans (b:=(aa u 0 79)) (RS.ext' rfl rfl rfl rfl rfl rfl bu bC rfl rfl rfl rfl bB rfl bz rfl rfl) (Eq.symm (hm.symm))⟩
 ·simp only [Da] at c4
  have hm:(aa ρ 0 4).gp=(aa ρ 0 4).ed:=by
   unfold RS.gp
   rw [if_neg (show ¬(2≤(aa ρ 0 4).ak∧(aa ρ 0 4).ak≤5) by show ¬(2≤ρ.iv 0∧ρ.iv 0≤5);omega)]
  refine dZ (c:=fO) rfl (aa ρ 0 4) (aa ρ 0 4).ed (by decide) (by decide) (je rfl rfl rfl rfl) ⟨o1,o2,o3⟩ (RS.ext' rfl rfl rfl rfl rfl rfl bu bC rfl rfl rfl rfl bB rfl bz rfl rfl) (fun e hq hr=>⟨hq.1,by rw [←hr];exact hq.2⟩) (fun u=>(bH u 71)∧aa u 0 71=(aa u 0 4).gp) (fun e h1 h2=>⟨h1,h2.trans hm.symm⟩) fun u hu=>?_
  obtain ⟨⟨o1,o2,o3⟩,hm⟩:=hu
  exact Sat.fin ⟨⟨(by first | exact o1 | exact o2 | exact o3 | exact aj rfl rfl | assumption),(by first | exact o2 | exact ⟨aj rfl rfl,Int.le_refl 0,.inl rfl⟩ | assumption),(by first | exact o1 | exact o2 | exact o3 | exact aj rfl rfl | assumption)⟩,Eq.trans (b:=(aa u 0 71)) (RS.ext' rfl rfl rfl rfl rfl rfl bu bC rfl rfl rfl rfl bB rfl bz rfl rfl) (Eq.symm (hm.symm))⟩
theorem SG:aY Tryz.prog jm qX BN :=
 cZ dD (E:=Ux) (cs:=zY) rfl Nv bS rfl Sz (by kernel_rfl) (fun ρ _ p hp=>by cases hp) SF
end Go.Proofs.YthomdlajobnmnaaGreatDoor
