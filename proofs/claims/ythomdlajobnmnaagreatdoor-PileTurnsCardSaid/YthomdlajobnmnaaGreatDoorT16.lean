/- part 16 of the proof -/
import Derived.Test.YthomdlajobnmnaaGreatDoorT15
set_option linter.unusedSimpArgs false
set_option linter.unusedVariables false
namespace Go.Proofs.YthomdlajobnmnaaGreatDoor
open Go.Rex
section
variable {σ:Sub} {ρ q:Env} {m d:Nat}
theorem qP (k j:Nat):aQ (aZ σ m d ρ q) (m+k) ((aZ σ m d ρ q).iv (m+j))=aQ q (d+k) (q.iv (d+j)):=by
 unfold aQ
 rw [Gz,qc]
end
theorem NR {ρ ρ':Env} {r r':Nat} {n n':Int} (hn:n=n') (h:∀i,ρ.ic r i 0 0=ρ'.ic r' i 0 0):oz ρ r n=oz ρ' r' n':=by
 subst hn
 unfold oz
 congr 1
 funext i
 exact h i
theorem Ed {ρ ρ':Env} {r r':Nat} {n n':Int} (hn:n=n') (h:∀i,kg ρ r i=kg ρ' r' i):gL ρ r n=gL ρ' r' n':=by
 subst hn
 unfold gL
 congr 1
 funext i
 exact h i
theorem NS {ρ ρ':Env} {r r':Nat} {n n':Int} {w:Int} (h0:0≤n) (hn:n'=n+1) (h:∀i:Nat,(i:Int)<n→ρ'.ic r' i 0 0=ρ.ic r i 0 0) (hw:ρ'.ic r' n.toNat 0 0=w) :
  oz ρ' r' n'=oz ρ r n ++ [w]:=by
 subst hn hw
 unfold oz
 rw [show (n+1).toNat=n.toNat+1 by omega,List.range_succ,List.map_append]
 congr 1
 exact List.map_congr_left fun i hi=>h i (by have:=List.mem_range.1 hi;omega)
theorem wW {ρ ρ':Env} {r r':Nat} {o n n':Int} (ho:o=0) (hn:n=n') (h:∀i,bM ρ r i=bM ρ' r' i):gF ρ r o n=aQ ρ' r' n':=by
 subst ho
 rw [NA]
 exact fI hn h
theorem qQ {ρ ρ':Env} {r r':Nat} {n n':Int} {w:Sp} (h0:0≤n) (hn:n'=n+1) (h:∀i:Nat,(i:Int)<n→kg ρ' r' i=kg ρ r i) (hw:kg ρ' r' n.toNat=w) :
  gL ρ' r' n'=gL ρ r n ++ [w]:=by
 subst hn hw
 unfold gL
 rw [show (n+1).toNat=n.toNat+1 by omega,List.range_succ,List.map_append]
 congr 1
 exact List.map_congr_left fun i hi=>h i (by have:=List.mem_range.1 hi;omega)
theorem oC {ρ:Env} {r:Nat} {n:Int} {i:Nat} (h:(i:Int)<n):(dG ρ r n).take (i+1)=(dG ρ r n).take i ++ [aG (ρ.ic r i 0) (ρ.bc r i 0)]:=by
 have hl:i<(dG ρ r n).length:=by rw [tF];omega
 rw [List.take_succ_eq_append_getElem hl]
 simp [dG]
theorem wX {ρ:Env} {r:Nat} {n:Int} {i:Nat} (h:n≤i):(dG ρ r n).take i=dG ρ r n:=List.take_of_length_le (by rw [tF];omega)
def Ae:mr:=[(kD,Sv.lN,JU),(mg,Sv.nJ,NM),(kE,Sv.lQ,JV),(jH,Sv.ku,Fs),(fU,JN,wO)]
theorem NT:∀k pre post,(k,pre,post)∈Ae→jG k=true∧bf Tryz.prog k pre post:=by
 intro k pre post h
 simp only [Ae,List.mem_cons,List.not_mem_nil,or_false,Prod.mk.injEq] at h
 rcases h with ⟨rfl,rfl,rfl⟩ | ⟨rfl,rfl,rfl⟩ | ⟨rfl,rfl,rfl⟩ | ⟨rfl,rfl,rfl⟩ | ⟨rfl,rfl,rfl⟩
 ·exact ⟨by kernel_rfl,NN⟩
 ·exact ⟨by kernel_rfl,Qs⟩
 ·exact ⟨by kernel_rfl,NP⟩
 ·exact ⟨by kernel_rfl,KX⟩
 ·exact ⟨by kernel_rfl,JO⟩
noncomputable def Vd:Ex:={sched:=sched,loops:=[Y9,PW],cons:=[kD,mg,kE,jH,fU],fin:=jA}
def Fu:Out :=
 .br (.aB (.var 0) (.lit 2))
 (.call 0 {lo:=0,az:=0,iv:=[(6,yv 50),(5,yv 49),(2,yv 60),(1,yv 59)],bv:=[(4,yw 48),(0,yw 58)],ct:=[(7,yu 68 49 5 yW 0),(3,yu 70 59 7 yN 0)],bk:=[(1,yc 1 5),(0,yc 3 7)]} 71 <|
  .call 4 {lo:=0,az:=0,iv:=yo [(70,yv 72)]<|yr 65 65 7<|yo [(57,yv 57),(56,yv 56)]<|yr 3 3 4<|yo [(53,yv 73),(52,yv 72),(69,.lit 0),(50,yv 50),(49,yv 49),(47,yv 47)]<|yr 45 45 4<|yr 40 40 4<|yr 35 35 4<|yr 30 30 13<|yr 16 16 4<|yr 11 11 8 [],bv:=[(67,yw 67),(66,yw 66),(58,yw 58),(55,yw 55),(51,yw 71),(48,yw 48),(46,yw 46),(41,yw 41),(36,yw 36),(31,yw 31),(17,yw 17),(12,yw 12)],ct:=[(70,yu 70 59 7 yN 0),(69,yu 74 72 7 yN 0),(68,yu 68 49 5 yW 0),(54,yl 54 9 5 50 yW 0)],bk:=[(3,yc 3 7),(2,yc 4 7),(1,yc 1 5),(0,yb 0)]} 79 <|
  .fin {lo:=71,az:=4,iv:=yo [(137,yv 145)]<|yr 132 140 7<|yo [(124,yv 132),(123,yv 131),(120,yv 128),(119,yv 127),(136,yv 144),(117,yv 125),(116,yv 124),(114,yv 122)]<|yr 112 120 4<|yr 107 115 4<|yr 102 110 4<|yr 97 105 13<|yr 83 91 4<|yr 78 86 8 [],bv:=[(134,yw 142),(133,yw 141),(125,yw 133),(122,yw 130),(118,yw 126),(115,yw 123),(113,yw 121),(108,yw 116),(103,yw 111),(98,yw 106),(84,yw 92),(79,yw 87)],ct:=[(137,yu 145 134 7 yN 0),(136,yu 144 145 7 yN 0),(135,yu 143 124 5 yW 0),(121,yl 129 9 5 50 yW 0)],bk:=[(6,yc 8 7),(5,yc 7 7),(4,yc 6 5)]})
 (.br (.aB (.var 0) (.lit 3))
  (.ob (.or (.not (.var 48)) (.aB (.var 49) (.lit 0))) <|
   .ob (.aA (.lit 0) (.var 49)) <|
   .loop 71 {lo:=71,az:=4,iv:=[(75,.lit 0),(73,.lit 0),(72,.lit 0)],bv:=[(71,.lit true)],nb:=[4]} <|
   .br (.bR (.var 75) (.var 49))
   (.ob (.not (.var 48)) <|
    .ob (.aA (.lit 0) (.var 75)) <|
    .ob (.aA (.mul (.add (.var 72) (.lit 1)) (.lit 8)) (.lit 140737488355328)) <|
    .ob (.aA (.lit 0) (.var 72)) <|
    .ob (.aA (.var 72) (.var 73)) <|
    .ob (.aA (.var 73) (.lit 9223372036854775807)) <|
    .ob (.or (.not (.var 71)) (.aB (.var 72) (.lit 0))) <|
    .new 76 [.be (.and (.aA (.add (.var 72) (.lit 1)) (.var 76)) (.aA (.var 76) (.lit 9223372036854775807)))] <|
    .ob (.inr .i64 (.add (.var 75) (.lit 1))) <|
    .back 0 {lo:=71,az:=4,iv:=[(75,.add (.var 75) (.lit 1)),(73,yv 76),(72,.add (.var 72) (.lit 1))],bv:=[(71,.lit false)],ct:=[(74,.up {r:=74,n1:=.add (.var 72) (.lit 1),s1:=1,ks:=yI} 0 [⟨0,(.var 72),(.lit 0),0,.int .i64 (.cell 68 (.var 75) (.lit 0) 3)⟩] (.lit 0))],bk:=[(4,yc 7 1)]})
   (.call 1 {lo:=0,az:=0,iv:=[(6,yv 73),(5,yv 72),(2,yv 60),(1,yv 59)],bv:=[(4,yw 71),(0,yw 58)],ct:=[(7,yu 74 72 1 yI 0),(3,yu 70 59 7 yN 0)],bk:=[(1,yc 4 1),(0,yc 3 7)]} 76 <|
    .call 4 {lo:=0,az:=0,iv:=yo [(70,yv 77)]<|yr 65 65 7<|yo [(57,yv 57),(56,yv 56)]<|yr 3 3 4<|yo [(53,yv 78),(52,yv 77),(69,.lit 0),(50,yv 50),(49,yv 49),(47,yv 47)]<|yr 45 45 4<|yr 40 40 4<|yr 35 35 4<|yr 30 30 13<|yr 16 16 4<|yr 11 11 8 [],bv:=[(67,yw 67),(66,yw 66),(58,yw 58),(55,yw 55),(51,yw 76),(48,yw 48),(46,yw 46),(41,yw 41),(36,yw 36),(31,yw 31),(17,yw 17),(12,yw 12)],ct:=[(70,yu 70 59 7 yN 0),(69,yu 79 77 7 yN 0),(68,yu 68 49 5 yW 0),(54,yl 54 9 5 50 yW 0)],bk:=[(3,yc 3 7),(2,yc 5 7),(1,yc 1 5),(0,yb 0)]} 84 <|
    .fin {lo:=71,az:=4,iv:=yo [(137,yv 150)]<|yr 132 145 7<|yo [(124,yv 137),(123,yv 136),(120,yv 133),(119,yv 132),(136,yv 149),(117,yv 130),(116,yv 129),(114,yv 127)]<|yr 112 125 4<|yr 107 120 4<|yr 102 115 4<|yr 97 110 13<|yr 83 96 4<|yr 78 91 8 [],bv:=[(134,yw 147),(133,yw 146),(125,yw 138),(122,yw 135),(118,yw 131),(115,yw 128),(113,yw 126),(108,yw 121),(103,yw 116),(98,yw 111),(84,yw 97),(79,yw 92)],ct:=[(137,yu 150 139 7 yN 0),(136,yu 149 150 7 yN 0),(135,yu 148 129 5 yW 0),(121,yl 134 9 5 50 yW 0)],bk:=[(6,yc 9 7),(5,yc 8 7),(4,yc 7 5)]}))
  (.br (.aB (.var 0) (.lit 5))
   (.ob (.or (.not (.var 48)) (.aB (.var 49) (.lit 0))) <|
    .ob (.aA (.lit 0) (.var 49)) <|
    .loop 71 {lo:=71,az:=4,iv:=[(75,.lit 0),(73,.lit 0),(72,.lit 0)],bv:=[(71,.lit true)],nb:=[4]} <|
    .br (.bR (.var 75) (.var 49))
    (.ob (.not (.var 48)) <|
     .ob (.aA (.lit 0) (.var 75)) <|
     .br (.not (.cell 68 (.var 75) (.lit 0) 4))
     (.ob (.aA (.mul (.add (.var 72) (.lit 1)) (.lit 24)) (.lit 140737488355328)) <|
      .ob (.aA (.lit 0) (.var 72)) <|
      .ob (.aA (.var 72) (.var 73)) <|
      .ob (.aA (.var 73) (.lit 9223372036854775807)) <|
      .ob (.or (.not (.var 71)) (.aB (.var 72) (.lit 0))) <|
      .new 76 [.be (.and (.aA (.add (.var 72) (.lit 1)) (.var 76)) (.aA (.var 76) (.lit 9223372036854775807)))] <|
      .ob (.inr .i64 (.add (.var 75) (.lit 1))) <|
      .back 0 {lo:=71,az:=4,iv:=[(75,.add (.var 75) (.lit 1)),(73,yv 76),(72,.add (.var 72) (.lit 1))],bv:=[(71,.lit false)],ct:=[(74,.up {r:=74,n1:=.add (.var 72) (.lit 1),s1:=3,ks:=[.bool,.int .i64,.int .i64]} 0 [⟨0,(.var 72),(.lit 0),0,.bool (.lit false)⟩,⟨0,(.var 72),(.lit 0),1,.int .i64 (.lit 0)⟩,⟨0,(.var 72),(.lit 0),2,.int .i64 (.lit 0)⟩] (.lit 0))],bk:=[(4,yc 9 3)]})
     (.ob (.aA (.mul (.add (.var 72) (.lit 1)) (.lit 24)) (.lit 140737488355328)) <|
      .ob (.aA (.lit 0) (.var 72)) <|
      .ob (.aA (.var 72) (.var 73)) <|
      .ob (.aA (.var 73) (.lit 9223372036854775807)) <|
      .ob (.or (.not (.var 71)) (.aB (.var 72) (.lit 0))) <|
      .new 76 [.be (.and (.aA (.add (.var 72) (.lit 1)) (.var 76)) (.aA (.var 76) (.lit 9223372036854775807)))] <|
      .ob (.inr .i64 (.add (.var 75) (.lit 1))) <|
      .back 0 {lo:=71,az:=4,iv:=[(75,.add (.var 75) (.lit 1)),(73,yv 76),(72,.add (.var 72) (.lit 1))],bv:=[(71,.lit false)],ct:=[(74,.up {r:=74,n1:=.add (.var 72) (.lit 1),s1:=3,ks:=[.bool,.int .i64,.int .i64]} 0 [⟨0,(.var 72),(.lit 0),0,.bool (.lit true)⟩,⟨0,(.var 72),(.lit 0),1,.int .i64 (.cell 68 (.var 75) (.lit 0) 3)⟩,⟨0,(.var 72),(.lit 0),2,.int .i64 (.cell 68 (.var 75) (.lit 0) 2)⟩] (.lit 0))],bk:=[(4,yc 9 3)]}))
    (.call 2 {lo:=0,az:=0,iv:=[(6,yv 73),(5,yv 72),(2,yv 60),(1,yv 59)],bv:=[(4,yw 71),(0,yw 58)],ct:=[(7,.up {r:=74,n1:=.var 72,s1:=3,ks:=[.bool,.int .i64,.int .i64]} 0 [] (.lit 0)),(3,yu 70 59 7 yN 0)],bk:=[(1,yc 4 3),(0,yc 3 7)]} 76 <|
     .call 4 {lo:=0,az:=0,iv:=yo [(70,yv 77)]<|yr 65 65 7<|yo [(57,yv 57),(56,yv 56)]<|yr 3 3 4<|yo [(53,yv 78),(52,yv 77),(69,.lit 0),(50,yv 50),(49,yv 49),(47,yv 47)]<|yr 45 45 4<|yr 40 40 4<|yr 35 35 4<|yr 30 30 13<|yr 16 16 4<|yr 11 11 8 [],bv:=[(67,yw 67),(66,yw 66),(58,yw 58),(55,yw 55),(51,yw 76),(48,yw 48),(46,yw 46),(41,yw 41),(36,yw 36),(31,yw 31),(17,yw 17),(12,yw 12)],ct:=[(70,yu 70 59 7 yN 0),(69,yu 79 77 7 yN 0),(68,yu 68 49 5 yW 0),(54,yl 54 9 5 50 yW 0)],bk:=[(3,yc 3 7),(2,yc 5 7),(1,yc 1 5),(0,yb 0)]} 84 <|
     .fin {lo:=71,az:=4,iv:=yo [(137,yv 150)]<|yr 132 145 7<|yo [(124,yv 137),(123,yv 136),(120,yv 133),(119,yv 132),(136,yv 149),(117,yv 130),(116,yv 129),(114,yv 127)]<|yr 112 125 4<|yr 107 120 4<|yr 102 115 4<|yr 97 110 13<|yr 83 96 4<|yr 78 91 8 [],bv:=[(134,yw 147),(133,yw 146),(125,yw 138),(122,yw 135),(118,yw 131),(115,yw 128),(113,yw 126),(108,yw 121),(103,yw 116),(98,yw 111),(84,yw 97),(79,yw 92)],ct:=[(137,yu 150 139 7 yN 0),(136,yu 149 150 7 yN 0),(135,yu 148 129 5 yW 0),(121,yl 134 9 5 50 yW 0)],bk:=[(6,yc 9 7),(5,yc 8 7),(4,yc 7 5)]}))
   (.br (.aB (.var 0) (.lit 4))
    (.call 3 {lo:=0,az:=0,iv:=[(4,yv 45),(2,yv 60),(1,yv 59)],bv:=[(0,yw 58)],ct:=[(3,yu 70 59 7 yN 0)],bk:=[(0,yc 3 7)]} 71 <|
     .call 4 {lo:=0,az:=0,iv:=yo [(70,yv 72)]<|yr 65 65 7<|yo [(57,yv 57),(56,yv 56)]<|yr 3 3 4<|yo [(53,yv 73),(52,yv 72),(69,.lit 0),(50,yv 50),(49,yv 49),(47,yv 47)]<|yr 45 45 4<|yr 40 40 4<|yr 35 35 4<|yr 30 30 13<|yr 16 16 4<|yr 11 11 8 [],bv:=[(67,yw 67),(66,yw 66),(58,yw 58),(55,yw 55),(51,yw 71),(48,yw 48),(46,yw 46),(41,yw 41),(36,yw 36),(31,yw 31),(17,yw 17),(12,yw 12)],ct:=[(70,yu 70 59 7 yN 0),(69,yu 74 72 7 yN 0),(68,yu 68 49 5 yW 0),(54,yl 54 9 5 50 yW 0)],bk:=[(3,yc 3 7),(2,yc 4 7),(1,yc 1 5),(0,yb 0)]} 79 <|
     .fin {lo:=71,az:=4,iv:=yo [(137,yv 145)]<|yr 132 140 7<|yo [(124,yv 132),(123,yv 131),(120,yv 128),(119,yv 127),(136,yv 144),(117,yv 125),(116,yv 124),(114,yv 122)]<|yr 112 120 4<|yr 107 115 4<|yr 102 110 4<|yr 97 105 13<|yr 83 91 4<|yr 78 86 8 [],bv:=[(134,yw 142),(133,yw 141),(125,yw 133),(122,yw 130),(118,yw 126),(115,yw 123),(113,yw 121),(108,yw 116),(103,yw 111),(98,yw 106),(84,yw 92),(79,yw 87)],ct:=[(137,yu 145 134 7 yN 0),(136,yu 144 145 7 yN 0),(135,yu 143 124 5 yW 0),(121,yl 129 9 5 50 yW 0)],bk:=[(6,yc 8 7),(5,yc 7 7),(4,yc 6 5)]})
    (.call 4 {lo:=0,az:=0,iv:=yo [(70,yv 70)]<|yr 65 65 7<|yo [(57,yv 57),(56,yv 56)]<|yr 3 3 4<|yo [(53,yv 53),(52,yv 52),(69,yv 69),(50,yv 50),(49,yv 49),(47,yv 47)]<|yr 45 45 4<|yr 40 40 4<|yr 35 35 4<|yr 30 30 13<|yr 16 16 4<|yr 11 11 8 [],bv:=[(67,yw 67),(66,yw 66),(58,yw 58),(55,yw 55),(51,yw 51),(48,yw 48),(46,yw 46),(41,yw 41),(36,yw 36),(31,yw 31),(17,yw 17),(12,yw 12)],ct:=[(70,yu 70 59 7 yN 0),(69,yu 69 70 7 yN 0),(68,yu 68 49 5 yW 0),(54,yl 54 9 5 50 yW 0)],bk:=[(3,yc 3 7),(2,yc 2 7),(1,yc 1 5),(0,yb 0)]} 71 <|
     .fin {lo:=71,az:=4,iv:=yo [(137,yv 137)]<|yr 132 132 7<|yo [(124,yv 124),(123,yv 123),(120,yv 120),(119,yv 119),(136,yv 136),(117,yv 117),(116,yv 116),(114,yv 114)]<|yr 112 112 4<|yr 107 107 4<|yr 102 102 4<|yr 97 97 13<|yr 83 83 4<|yr 78 78 8 [],bv:=[(134,yw 134),(133,yw 133),(125,yw 125),(122,yw 122),(118,yw 118),(115,yw 115),(113,yw 113),(108,yw 108),(103,yw 103),(98,yw 98),(84,yw 84),(79,yw 79)],ct:=[(137,yu 137 126 7 yN 0),(136,yu 136 137 7 yN 0),(135,yu 135 116 5 yW 0),(121,yl 121 9 5 50 yW 0)],bk:=[(6,yc 6 7),(5,yc 5 7),(4,yc 4 5)]}))))
theorem Tn:exec tab Vd 8000 [] (fB jA.f jA.nv [] jA.gl jA.hp jA.args)=Fu:=by kernel_rfl
def rC (ρ:Env):Prop:=bE ρ 4∧(ρ.iv 59≤1000000∧(ρ.iv 0=4∨ρ.iv 49≤100000))∧(ρ.iv 0=4→Ec ρ 42)
def Ce (ρ:Env):Prop:=bE ρ 71∧aa ρ 0 71=(aa ρ 0 4).fV
theorem Af {r:RS} (h:2≤r.av∧r.av≤5) {l:List Nt} (hl:l=r.notes.filter fun n=>!r.kept n):r.fV=({r with bG:=l}:RS).ed:=by
 subst hl
 unfold RS.fV
 rw [if_pos h]
def NU (ρ:Env):Prop:=(rC ρ∧ρ.iv 0=3)∧(0≤ρ.iv 75∧ρ.iv 75≤ρ.iv 49)∧(bD ρ 71∧ρ.iv 72=ρ.iv 75)∧oz ρ 74 (ρ.iv 72)=((dG ρ 68 (ρ.iv 49)).take (ρ.iv 75).toNat).map Wd.num
def H6 (ρ:Env):Prop:=(rC ρ∧ρ.iv 0=5)∧(0≤ρ.iv 75∧ρ.iv 75≤ρ.iv 49)∧(bD ρ 71∧ρ.iv 72=ρ.iv 75)∧gL ρ 74 (ρ.iv 72)=((dG ρ 68 (ρ.iv 49)).take (ρ.iv 75).toNat).map RS.jP
set_option maxHeartbeats 4000000 in
theorem Tp (ρ:Env) (hpre:rC ρ.num):Sat Ce Ae [] ρ Fu:=by
 replace hpre:rC ρ:=hpre
 have hpre':=hpre
 obtain ⟨⟨o1,o2,o3⟩,⟨f1,f2⟩,hw⟩:=hpre
 unfold Fu
 refine Sat.br (fun c=>?_) (fun c=>?_)
 ·simp only [Da] at c
  have e0:(aa ρ 0 4).av=2:=c
  refine Sat.iL (c:=kD) rfl ⟨o3,f1,o1,by show ρ.iv 49≤1000000;omega⟩ (fun q=>(bE q 4)∧bD q 71∧(aa q 0 4).fV=({aa q 0 4 with bG:=aQ q 74 (q.iv 72)}:RS).ed) (fun e hq=>?_) fun q hq=>?_
  ·replace hq:JU (aZ _ 8 71 ρ (ρ.join 71 e)):=hq
   obtain ⟨q1,q2⟩:=hq
   rw [show bD (aZ _ 8 71 ρ (ρ.join 71 e)) 8=bD (ρ.join 71 e) 71 from lM (m:=8) 0] at q1
   rw [show aQ (aZ _ 8 71 ρ (ρ.join 71 e)) 11 ((aZ _ 8 71 ρ (ρ.join 71 e)).iv 9)=aQ (ρ.join 71 e) 74 ((ρ.join 71 e).iv 72) from qP (m:=8) 3 1] at q2
   refine ⟨⟨o1,o2,o3⟩,q1,Af (r:=aa ρ 0 4) ⟨by rw [e0];decide,by rw [e0];decide⟩ (q2.trans ?_)⟩
   refine congr (congrArg List.filter ?_) ?_
   ·funext n
    refine congrArg (fun b=>!b) ?_
    unfold RS.kept
    rw [if_pos e0]
    refine congrArg (fun l:List Wd=>l.any fun w=>RS.wI w n) ?_
    exact D8 rfl fun i=>by simp [aG,aZ,-Int.pred_toNat,Sub.ag,assoc,CV.I,CV.B,ah,ai,ae.I,ae.B,SC.I,SC.B,IE.den,BE.den]
   ·exact fI rfl fun i=>by simp [bM,aG,aZ,-Int.pred_toNat,Sub.ag,assoc,CV.I,CV.B,ah,ai,ae.I,ae.B,SC.I,SC.B,IE.den,BE.den]
  obtain ⟨⟨o1,o2,o3⟩,od,hm⟩:=hq
  refine eH (c:=fU) rfl ({aa q 0 4 with bG:=aQ q 74 (q.iv 72)}:RS) ({aa q 0 4 with bG:=aQ q 74 (q.iv 72)}:RS).ed (by decide) (by decide) (jk rfl rfl rfl rfl) ⟨o1,⟨od,Int.le_refl 0,.inr (by show (0:Int)+_≤_;rw [Int.zero_add];exact Int.le_refl _)⟩,o3⟩ (RS.ext' rfl rfl rfl rfl rfl rfl bu (wW rfl rfl fun i=>by simp [bM,aG,-Int.pred_toNat,Sub.ag,assoc,CV.I,CV.B,ah,ai,ae.I,ae.B,SC.I,SC.B,IE.den,BE.den]) rfl rfl rfl rfl bB rfl bz rfl rfl) (fun e hq hr=>⟨hq.1,by rw [←hr];exact hq.2⟩) (fun u=>(bE u 79)∧aa u 0 79=(aa u 0 4).fV) (fun e h1 h2=>⟨h1,h2.trans hm.symm⟩) fun u hu=>?_
  obtain ⟨⟨o1,o2,o3⟩,hm⟩:=hu
  exact Sat.fin ⟨⟨(by first | exact o1 | exact o2 | exact o3 | exact aj rfl rfl | assumption),(by first | exact o2 | exact ⟨aj rfl rfl,Int.le_refl 0,.inl rfl⟩ | assumption),(by first | exact o1 | exact o2 | exact o3 | exact aj rfl rfl | assumption)⟩,Eq.trans (b:=(aa u 0 79)) (RS.ext' rfl rfl rfl rfl rfl rfl bu bC rfl rfl rfl rfl bB rfl bz rfl rfl) (Eq.symm (hm.symm))⟩
 simp only [Da] at c
 refine Sat.br (fun c3=>?_) (fun c3=>?_)
 ·simp only [Da] at c3
  refine Sat.ob (aL o1) (Sat.ob (decide_eq_true o1.2.1) (Sat.wJ NU (fun r=>(r.iv 49-r.iv 75).toNat) (fun _=>True) ⟨⟨hpre',c3⟩,⟨Int.le_refl 0,o1.2.1⟩,⟨aj rfl rfl,rfl⟩,rfl⟩ (fun _=>trivial) fun q _ hI=>?_))
  replace hI:NU q:=hI
  have hI':=hI
  obtain ⟨⟨hpre',he⟩,⟨i1,i2⟩,⟨os,hl⟩,hrow⟩:=hI
  have hpre:=hpre'
  obtain ⟨⟨o1,o2,o3⟩,⟨f1,f2⟩,hw⟩:=hpre
  refine Sat.br (fun c=>?_) (fun c=>?_)
  ·simp only [Da] at c
   refine Sat.ob (bP o1 (by simp only [Nat.reduceAdd];omega)) (Sat.ob (decide_eq_true i1) ?_)
   obtain ⟨p1,p2,p3,p4⟩:=id os
   refine Sat.ob (by simp only [Da];omega) (Sat.ob (decide_eq_true p2) (Sat.ob (decide_eq_true p3) (Sat.ob (decide_eq_true p4) (Sat.ob (aL os) (Sat.yZ (fun u=>NU u∧u.iv 75<u.iv 49∧(u.iv 49-(u.iv 75+1)).toNat<(q.iv 49-q.iv 75).toNat) (fun e=>⟨hI',c,by show (q.iv 49-(q.iv 75+1)).toNat<(q.iv 49-q.iv 75).toNat;omega⟩) fun u hu hb=>?_)))))
   obtain ⟨⟨⟨hpre',he⟩,⟨i1,i2⟩,⟨os,hl⟩,hrow⟩,c,hd⟩:=hu
   simp only [Da] at hb
   obtain ⟨p1,p2,p3,p4⟩:=id os
   replace p2:0≤u.iv 72:=p2
   have hf2:=hpre'.2.1.2
   refine Sat.ob (by simp only [Da];omega) (Sat.back rfl ⟨⟨⟨hpre',he⟩,⟨?_,?_⟩,⟨⟨fun h=>(by cases h),?_,hb.1,hb.2⟩,?_⟩,?_⟩,hd⟩)
   ·show 0≤u.iv 75+1;omega
   ·show u.iv 75+1≤u.iv 49;omega
   ·show 0≤u.iv 72+1;omega
   ·show u.iv 72+1=u.iv 75+1;omega
   ·refine (NS (ρ:=u) (r:=74) (n:=u.iv 72) (w:=Wd.num (aG (u.ic 68 (u.iv 75).toNat 0) (u.bc 68 (u.iv 75).toNat 0))) p2 rfl (fun i hi=>?_) ?_).trans ?_
    ·have hn:¬(u.iv 72).toNat=i:=fun h=>by omega
     simp [kg,aG,-Int.pred_toNat,Sub.ag,assoc,CV.I,CV.B,ah,ai,ae.I,ae.B,SC.I,SC.B,IE.den,BE.den,hn]
    ·simp [aG,-Int.pred_toNat,Sub.ag,assoc,CV.I,CV.B,ah,ai,ae.I,ae.B,SC.I,SC.B,IE.den,BE.den,hl]
    ·show oz u 74 (u.iv 72) ++ _=((dG u 68 (u.iv 49)).take (u.iv 75+1).toNat).map Wd.num
     rw [hrow,show (u.iv 75+1).toNat=(u.iv 75).toNat+1 by omega,oC (by omega),List.map_append]
     rfl
  ·simp only [Da] at c
   have e0:(aa q 0 4).av=3:=he
   rw [wX (by omega)] at hrow
   refine Sat.iL (c:=mg) rfl ⟨o3,f1,os,by show q.iv 72≤1000000;omega⟩ (fun u=>(bE u 4)∧bD u 76∧(aa u 0 4).fV=({aa u 0 4 with bG:=aQ u 79 (u.iv 77)}:RS).ed) (fun e hq=>?_) fun u hu=>?_
   ·replace hq:NM (aZ _ 8 76 q (q.join 76 e)):=hq
    obtain ⟨q1,q2⟩:=hq
    rw [show bD (aZ _ 8 76 q (q.join 76 e)) 8=bD (q.join 76 e) 76 from lM (m:=8) 0] at q1
    rw [show aQ (aZ _ 8 76 q (q.join 76 e)) 11 ((aZ _ 8 76 q (q.join 76 e)).iv 9)=aQ (q.join 76 e) 79 ((q.join 76 e).iv 77) from qP (m:=8) 3 1] at q2
    refine ⟨⟨o1,o2,o3⟩,q1,Af (r:=aa q 0 4) ⟨by rw [e0];decide,by rw [e0];decide⟩ (q2.trans ?_)⟩
    refine congr (congrArg List.filter ?_) ?_
    ·funext n
     refine congrArg (fun b=>!b) ?_
     unfold RS.kept
     rw [if_neg (show ¬(aa q 0 4).av=2 by rw [e0];decide),if_pos e0]
     refine (congrArg (fun l:List Int=>l.any fun e=>RS.uU e n) (Eq.trans (b:=oz q 74 (q.iv 72)) (NR rfl fun i=>by simp [aZ,-Int.pred_toNat,Sub.ag,assoc,CV.I,CV.B,ah,ai,ae.I,ae.B,SC.I,SC.B,IE.den,BE.den]) hrow)).trans ?_
     rw [List.any_map]
     rfl
    ·exact fI rfl fun i=>by simp [bM,aG,aZ,-Int.pred_toNat,Sub.ag,assoc,CV.I,CV.B,ah,ai,ae.I,ae.B,SC.I,SC.B,IE.den,BE.den]
   obtain ⟨⟨o1,o2,o3⟩,od,hm⟩:=hu
   refine eH (c:=fU) rfl ({aa u 0 4 with bG:=aQ u 79 (u.iv 77)}:RS) ({aa u 0 4 with bG:=aQ u 79 (u.iv 77)}:RS).ed (by decide) (by decide) (jk rfl rfl rfl rfl) ⟨o1,⟨od,Int.le_refl 0,.inr (by show (0:Int)+_≤_;rw [Int.zero_add];exact Int.le_refl _)⟩,o3⟩ (RS.ext' rfl rfl rfl rfl rfl rfl bu (wW rfl rfl fun i=>by simp [bM,aG,-Int.pred_toNat,Sub.ag,assoc,CV.I,CV.B,ah,ai,ae.I,ae.B,SC.I,SC.B,IE.den,BE.den]) rfl rfl rfl rfl bB rfl bz rfl rfl) (fun e hq hr=>⟨hq.1,by rw [←hr];exact hq.2⟩) (fun u=>(bE u 84)∧aa u 0 84=(aa u 0 4).fV) (fun e h1 h2=>⟨h1,h2.trans hm.symm⟩) fun u hu=>?_
   obtain ⟨⟨o1,o2,o3⟩,hm⟩:=hu
   exact Sat.fin ⟨⟨(by first | exact o1 | exact o2 | exact o3 | exact aj rfl rfl | assumption),(by first | exact o2 | exact ⟨aj rfl rfl,Int.le_refl 0,.inl rfl⟩ | assumption),(by first | exact o1 | exact o2 | exact o3 | exact aj rfl rfl | assumption)⟩,Eq.trans (b:=(aa u 0 84)) (RS.ext' rfl rfl rfl rfl rfl rfl bu bC rfl rfl rfl rfl bB rfl bz rfl rfl) (Eq.symm (hm.symm))⟩
 simp only [Da] at c3
 refine Sat.br (fun c5=>?_) (fun c5=>?_)
 ·simp only [Da] at c5
  refine Sat.ob (aL o1) (Sat.ob (decide_eq_true o1.2.1) (Sat.wJ H6 (fun r=>(r.iv 49-r.iv 75).toNat) (fun _=>True) ⟨⟨hpre',c5⟩,⟨Int.le_refl 0,o1.2.1⟩,⟨aj rfl rfl,rfl⟩,rfl⟩ (fun _=>trivial) fun q _ hI=>?_))
  replace hI:H6 q:=hI
  have hI':=hI
  obtain ⟨⟨hpre',he⟩,⟨i1,i2⟩,⟨os,hl⟩,hrow⟩:=hI
  have hpre:=hpre'
  obtain ⟨⟨o1,o2,o3⟩,⟨f1,f2⟩,hw⟩:=hpre
  refine Sat.br (fun c=>?_) (fun c=>?_)
  ·simp only [Da] at c
   refine Sat.ob (bP o1 (by simp only [Nat.reduceAdd];omega)) (Sat.ob (decide_eq_true i1) ?_)
   obtain ⟨p1,p2,p3,p4⟩:=id os
   refine Sat.br (fun c2=>?_) (fun c2=>?_)
   ·simp only [Da] at c2
    refine Sat.ob (by simp only [Da];omega) (Sat.ob (decide_eq_true p2) (Sat.ob (decide_eq_true p3) (Sat.ob (decide_eq_true p4) (Sat.ob (aL os) (Sat.yZ (fun u=>H6 u∧u.iv 75<u.iv 49∧(u.iv 49-(u.iv 75+1)).toNat<(q.iv 49-q.iv 75).toNat∧u.bc 68 (u.iv 75).toNat 0 4=false) (fun e=>⟨hI',c,by show (q.iv 49-(q.iv 75+1)).toNat<(q.iv 49-q.iv 75).toNat;omega,c2⟩) fun u hu hb=>?_)))))
    obtain ⟨⟨⟨hpre',he⟩,⟨i1,i2⟩,⟨os,hl⟩,hrow⟩,c,hd,hc⟩:=hu
    simp only [Da] at hb
    obtain ⟨p1,p2,p3,p4⟩:=id os
    replace p2:0≤u.iv 72:=p2
    have hf2:=hpre'.2.1.2
    refine Sat.ob (by simp only [Da];omega) (Sat.back rfl ⟨⟨⟨hpre',he⟩,⟨?_,?_⟩,⟨⟨fun h=>(by cases h),?_,hb.1,hb.2⟩,?_⟩,?_⟩,hd⟩)
    ·show 0≤u.iv 75+1;omega
    ·show u.iv 75+1≤u.iv 49;omega
    ·show 0≤u.iv 72+1;omega
    ·show u.iv 72+1=u.iv 75+1;omega
    ·refine (qQ (ρ:=u) (r:=74) (n:=u.iv 72) (w:=RS.jP (aG (u.ic 68 (u.iv 75).toNat 0) (u.bc 68 (u.iv 75).toNat 0))) p2 rfl (fun i hi=>?_) ?_).trans ?_
     ·have hn:¬(u.iv 72).toNat=i:=fun h=>by omega
      simp [kg,aG,-Int.pred_toNat,Sub.ag,assoc,CV.I,CV.B,ah,ai,ae.I,ae.B,SC.I,SC.B,IE.den,BE.den,hn]
     ·simp [kg,aG,RS.jP,Sp.zero,-Int.pred_toNat,Sub.ag,assoc,CV.I,CV.B,ah,ai,ae.I,ae.B,SC.I,SC.B,IE.den,BE.den,hl,hc]
     ·show gL u 74 (u.iv 72) ++ _=((dG u 68 (u.iv 49)).take (u.iv 75+1).toNat).map RS.jP
      rw [hrow,show (u.iv 75+1).toNat=(u.iv 75).toNat+1 by omega,oC (by omega),List.map_append]
      rfl
   ·simp only [Da] at c2
    refine Sat.ob (by simp only [Da];omega) (Sat.ob (decide_eq_true p2) (Sat.ob (decide_eq_true p3) (Sat.ob (decide_eq_true p4) (Sat.ob (aL os) (Sat.yZ (fun u=>H6 u∧u.iv 75<u.iv 49∧(u.iv 49-(u.iv 75+1)).toNat<(q.iv 49-q.iv 75).toNat∧u.bc 68 (u.iv 75).toNat 0 4=true) (fun e=>⟨hI',c,by show (q.iv 49-(q.iv 75+1)).toNat<(q.iv 49-q.iv 75).toNat;omega,c2⟩) fun u hu hb=>?_)))))
    obtain ⟨⟨⟨hpre',he⟩,⟨i1,i2⟩,⟨os,hl⟩,hrow⟩,c,hd,hc⟩:=hu
    simp only [Da] at hb
    obtain ⟨p1,p2,p3,p4⟩:=id os
    replace p2:0≤u.iv 72:=p2
    have hf2:=hpre'.2.1.2
    refine Sat.ob (by simp only [Da];omega) (Sat.back rfl ⟨⟨⟨hpre',he⟩,⟨?_,?_⟩,⟨⟨fun h=>(by cases h),?_,hb.1,hb.2⟩,?_⟩,?_⟩,hd⟩)
    ·show 0≤u.iv 75+1;omega
    ·show u.iv 75+1≤u.iv 49;omega
    ·show 0≤u.iv 72+1;omega
    ·show u.iv 72+1=u.iv 75+1;omega
    ·refine (qQ (ρ:=u) (r:=74) (n:=u.iv 72) (w:=RS.jP (aG (u.ic 68 (u.iv 75).toNat 0) (u.bc 68 (u.iv 75).toNat 0))) p2 rfl (fun i hi=>?_) ?_).trans ?_
     ·have hn:¬(u.iv 72).toNat=i:=fun h=>by omega
      simp [kg,aG,-Int.pred_toNat,Sub.ag,assoc,CV.I,CV.B,ah,ai,ae.I,ae.B,SC.I,SC.B,IE.den,BE.den,hn]
     ·simp [kg,aG,RS.jP,-Int.pred_toNat,Sub.ag,assoc,CV.I,CV.B,ah,ai,ae.I,ae.B,SC.I,SC.B,IE.den,BE.den,hl,hc]
     ·show gL u 74 (u.iv 72) ++ _=((dG u 68 (u.iv 49)).take (u.iv 75+1).toNat).map RS.jP
      rw [hrow,show (u.iv 75+1).toNat=(u.iv 75).toNat+1 by omega,oC (by omega),List.map_append]
      rfl
  ·simp only [Da] at c
   have e0:(aa q 0 4).av=5:=he
   rw [wX (by omega)] at hrow
   refine Sat.iL (c:=kE) rfl ⟨o3,f1,os,by show q.iv 72≤1000000;omega⟩ (fun u=>(bE u 4)∧bD u 76∧(aa u 0 4).fV=({aa u 0 4 with bG:=aQ u 79 (u.iv 77)}:RS).ed) (fun e hq=>?_) fun u hu=>?_
   ·replace hq:JV (aZ _ 8 76 q (q.join 76 e)):=hq
    obtain ⟨q1,q2⟩:=hq
    rw [show bD (aZ _ 8 76 q (q.join 76 e)) 8=bD (q.join 76 e) 76 from lM (m:=8) 0] at q1
    rw [show aQ (aZ _ 8 76 q (q.join 76 e)) 11 ((aZ _ 8 76 q (q.join 76 e)).iv 9)=aQ (q.join 76 e) 79 ((q.join 76 e).iv 77) from qP (m:=8) 3 1] at q2
    refine ⟨⟨o1,o2,o3⟩,q1,Af (r:=aa q 0 4) ⟨by rw [e0];decide,by rw [e0];decide⟩ (q2.trans ?_)⟩
    refine congr (congrArg List.filter ?_) ?_
    ·funext n
     refine congrArg (fun b=>!b) ?_
     unfold RS.kept
     rw [if_neg (show ¬(aa q 0 4).av=2 by rw [e0];decide),if_neg (show ¬(aa q 0 4).av=3 by rw [e0];decide),if_pos e0]
     refine (congrArg (fun l:List Sp=>l.any fun s=>RS.rY s n) (Eq.trans (b:=gL q 74 (q.iv 72)) (Ed rfl fun i=>by simp [kg,aZ,-Int.pred_toNat,Sub.ag,assoc,CV.I,CV.B,ah,ai,ae.I,ae.B,SC.I,SC.B,IE.den,BE.den]) hrow)).trans ?_
     rw [List.any_map]
     rfl
    ·exact fI rfl fun i=>by simp [bM,aG,aZ,-Int.pred_toNat,Sub.ag,assoc,CV.I,CV.B,ah,ai,ae.I,ae.B,SC.I,SC.B,IE.den,BE.den]
   obtain ⟨⟨o1,o2,o3⟩,od,hm⟩:=hu
   refine eH (c:=fU) rfl ({aa u 0 4 with bG:=aQ u 79 (u.iv 77)}:RS) ({aa u 0 4 with bG:=aQ u 79 (u.iv 77)}:RS).ed (by decide) (by decide) (jk rfl rfl rfl rfl) ⟨o1,⟨od,Int.le_refl 0,.inr (by show (0:Int)+_≤_;rw [Int.zero_add];exact Int.le_refl _)⟩,o3⟩ (RS.ext' rfl rfl rfl rfl rfl rfl bu (wW rfl rfl fun i=>by simp [bM,aG,-Int.pred_toNat,Sub.ag,assoc,CV.I,CV.B,ah,ai,ae.I,ae.B,SC.I,SC.B,IE.den,BE.den]) rfl rfl rfl rfl bB rfl bz rfl rfl) (fun e hq hr=>⟨hq.1,by rw [←hr];exact hq.2⟩) (fun u=>(bE u 84)∧aa u 0 84=(aa u 0 4).fV) (fun e h1 h2=>⟨h1,h2.trans hm.symm⟩) fun u hu=>?_
   obtain ⟨⟨o1,o2,o3⟩,hm⟩:=hu
   exact Sat.fin ⟨⟨(by first | exact o1 | exact o2 | exact o3 | exact aj rfl rfl | assumption),(by first | exact o2 | exact ⟨aj rfl rfl,Int.le_refl 0,.inl rfl⟩ | assumption),(by first | exact o1 | exact o2 | exact o3 | exact aj rfl rfl | assumption)⟩,Eq.trans (b:=(aa u 0 84)) (RS.ext' rfl rfl rfl rfl rfl rfl bu bC rfl rfl rfl rfl bB rfl bz rfl rfl) (Eq.symm (hm.symm))⟩
 simp only [Da] at c5
 refine Sat.br (fun c4=>?_) (fun c4=>?_)
 ·simp only [Da] at c4
  have e0:(aa ρ 0 4).av=4:=c4
  obtain ⟨⟨w1,w2⟩,w3,w4⟩:=hw c4
  simp only [Nat.reduceAdd] at w1 w2 w3 w4
  refine Sat.iL (c:=jH) rfl ⟨o3,f1,by show -9223372036854775808≤ρ.iv 45;omega,by show ρ.iv 45≤9223372036854775807;omega⟩ (fun q=>(bE q 4)∧bD q 71∧(aa q 0 4).fV=({aa q 0 4 with bG:=aQ q 74 (q.iv 72)}:RS).ed) (fun e hq=>?_) fun q hq=>?_
  ·replace hq:Fs (aZ _ 8 71 ρ (ρ.join 71 e)):=hq
   obtain ⟨q1,q2⟩:=hq
   rw [show bD (aZ _ 8 71 ρ (ρ.join 71 e)) 8=bD (ρ.join 71 e) 71 from lM (m:=8) 0] at q1
   rw [show aQ (aZ _ 8 71 ρ (ρ.join 71 e)) 11 ((aZ _ 8 71 ρ (ρ.join 71 e)).iv 9)=aQ (ρ.join 71 e) 74 ((ρ.join 71 e).iv 72) from qP (m:=8) 3 1] at q2
   refine ⟨⟨o1,o2,o3⟩,q1,Af (r:=aa ρ 0 4) ⟨by rw [e0];decide,by rw [e0];decide⟩ (q2.trans ?_)⟩
   refine congr (congrArg List.filter ?_) ?_
   ·funext n
    refine congrArg (fun b=>!b) ?_
    unfold RS.kept
    rw [if_neg (show ¬(aa ρ 0 4).av=2 by rw [e0];decide),if_neg (show ¬(aa ρ 0 4).av=3 by rw [e0];decide),if_neg (show ¬(aa ρ 0 4).av=5 by rw [e0];decide),if_pos e0]
    rfl
   ·exact fI rfl fun i=>by simp [bM,aG,aZ,-Int.pred_toNat,Sub.ag,assoc,CV.I,CV.B,ah,ai,ae.I,ae.B,SC.I,SC.B,IE.den,BE.den]
  obtain ⟨⟨o1,o2,o3⟩,od,hm⟩:=hq
  refine eH (c:=fU) rfl ({aa q 0 4 with bG:=aQ q 74 (q.iv 72)}:RS) ({aa q 0 4 with bG:=aQ q 74 (q.iv 72)}:RS).ed (by decide) (by decide) (jk rfl rfl rfl rfl) ⟨o1,⟨od,Int.le_refl 0,.inr (by show (0:Int)+_≤_;rw [Int.zero_add];exact Int.le_refl _)⟩,o3⟩ (RS.ext' rfl rfl rfl rfl rfl rfl bu (wW rfl rfl fun i=>by simp [bM,aG,-Int.pred_toNat,Sub.ag,assoc,CV.I,CV.B,ah,ai,ae.I,ae.B,SC.I,SC.B,IE.den,BE.den]) rfl rfl rfl rfl bB rfl bz rfl rfl) (fun e hq hr=>⟨hq.1,by rw [←hr];exact hq.2⟩) (fun u=>(bE u 79)∧aa u 0 79=(aa u 0 4).fV) (fun e h1 h2=>⟨h1,h2.trans hm.symm⟩) fun u hu=>?_
  obtain ⟨⟨o1,o2,o3⟩,hm⟩:=hu
  exact Sat.fin ⟨⟨(by first | exact o1 | exact o2 | exact o3 | exact aj rfl rfl | assumption),(by first | exact o2 | exact ⟨aj rfl rfl,Int.le_refl 0,.inl rfl⟩ | assumption),(by first | exact o1 | exact o2 | exact o3 | exact aj rfl rfl | assumption)⟩,Eq.trans (b:=(aa u 0 79)) (RS.ext' rfl rfl rfl rfl rfl rfl bu bC rfl rfl rfl rfl bB rfl bz rfl rfl) (Eq.symm (hm.symm))⟩
 ·simp only [Da] at c4
  have hm:(aa ρ 0 4).fV=(aa ρ 0 4).ed:=by
   unfold RS.fV
   rw [if_neg (show ¬(2≤(aa ρ 0 4).av∧(aa ρ 0 4).av≤5) by show ¬(2≤ρ.iv 0∧ρ.iv 0≤5);omega)]
  refine eH (c:=fU) rfl (aa ρ 0 4) (aa ρ 0 4).ed (by decide) (by decide) (jk rfl rfl rfl rfl) ⟨o1,o2,o3⟩ (RS.ext' rfl rfl rfl rfl rfl rfl bu bC rfl rfl rfl rfl bB rfl bz rfl rfl) (fun e hq hr=>⟨hq.1,by rw [←hr];exact hq.2⟩) (fun u=>(bE u 71)∧aa u 0 71=(aa u 0 4).fV) (fun e h1 h2=>⟨h1,h2.trans hm.symm⟩) fun u hu=>?_
  obtain ⟨⟨o1,o2,o3⟩,hm⟩:=hu
  exact Sat.fin ⟨⟨(by first | exact o1 | exact o2 | exact o3 | exact aj rfl rfl | assumption),(by first | exact o2 | exact ⟨aj rfl rfl,Int.le_refl 0,.inl rfl⟩ | assumption),(by first | exact o1 | exact o2 | exact o3 | exact aj rfl rfl | assumption)⟩,Eq.trans (b:=(aa u 0 71)) (RS.ext' rfl rfl rfl rfl rfl rfl bu bC rfl rfl rfl rfl bB rfl bz rfl rfl) (Eq.symm (hm.symm))⟩
theorem Tq:bf Tryz.prog jA rC Ce :=
 dw dY (E:=Vd) (cs:=Ae) rfl NT bZ rfl Tn (by kernel_rfl) (fun ρ _ p hp=>by cases hp) Tp
end Go.Proofs.YthomdlajobnmnaaGreatDoor
