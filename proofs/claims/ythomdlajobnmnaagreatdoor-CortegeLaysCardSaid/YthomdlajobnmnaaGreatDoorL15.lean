/- part 15 of the proof -/
import Derived.Test.YthomdlajobnmnaaGreatDoorL14
set_option linter.unusedSimpArgs false
set_option linter.unusedVariables false
namespace Go.Proofs.YthomdlajobnmnaaGreatDoor
open Go.Rex
section
variable {σ:Sub} {ρ q:Env} {m d:Nat}
theorem rf (k j:Nat):aT (bf σ m d ρ q) (m+k) ((bf σ m d ρ q).iv (m+j))=aT q (d+k) (q.iv (d+j)):=by
 unfold aT
 rw [Hf,qA]
end
theorem OC {ρ ρ':Env} {r r':Nat} {n n':Int} (hn:n=n') (h:∀i,ρ.ic r i 0 0=ρ'.ic r' i 0 0):oV ρ r n=oV ρ' r' n':=by
 subst hn
 unfold oV
 congr 1
 funext i
 exact h i
theorem EE {ρ ρ':Env} {r r':Nat} {n n':Int} (hn:n=n') (h:∀i,kG ρ r i=kG ρ' r' i):gW ρ r n=gW ρ' r' n':=by
 subst hn
 unfold gW
 congr 1
 funext i
 exact h i
theorem OD {ρ ρ':Env} {r r':Nat} {n n':Int} {w:Int} (h0:0≤n) (hn:n'=n+1) (h:∀i:Nat,(i:Int)<n→ρ'.ic r' i 0 0=ρ.ic r i 0 0) (hw:ρ'.ic r' n.toNat 0 0=w) :
  oV ρ' r' n'=oV ρ r n ++ [w]:=by
 subst hn hw
 unfold oV
 rw [show (n+1).toNat=n.toNat+1 by omega,List.range_succ,List.map_append]
 congr 1
 exact List.map_congr_left fun i hi=>h i (by have:=List.mem_range.1 hi;omega)
theorem xE {ρ ρ':Env} {r r':Nat} {o n n':Int} (ho:o=0) (hn:n=n') (h:∀i,bR ρ r i=bR ρ' r' i):gH ρ r o n=aT ρ' r' n':=by
 subst ho
 rw [Oi]
 exact fJ hn h
theorem rq {ρ ρ':Env} {r r':Nat} {n n':Int} {w:Sp} (h0:0≤n) (hn:n'=n+1) (h:∀i:Nat,(i:Int)<n→kG ρ' r' i=kG ρ r i) (hw:kG ρ' r' n.toNat=w) :
  gW ρ' r' n'=gW ρ r n ++ [w]:=by
 subst hn hw
 unfold gW
 rw [show (n+1).toNat=n.toNat+1 by omega,List.range_succ,List.map_append]
 congr 1
 exact List.map_congr_left fun i hi=>h i (by have:=List.mem_range.1 hi;omega)
theorem oW {ρ:Env} {r:Nat} {n:Int} {i:Nat} (h:(i:Int)<n):(dL ρ r n).take (i+1)=(dL ρ r n).take i ++ [aF (ρ.ic r i 0) (ρ.bc r i 0)]:=by
 have hl:i<(dL ρ r n).length:=by rw [uf];omega
 rw [List.take_succ_eq_append_getElem hl]
 simp [dL]
theorem xG {ρ:Env} {r:Nat} {n:Int} {i:Nat} (h:n≤i):(dL ρ r n).take i=dL ρ r n:=List.take_of_length_le (by rw [uf];omega)
def AQ:mY:=[(kY,Sv.mg,Kr),(mV,Sv.og,Oy),(kZ,Sv.mh,Kt),(jN,Sv.kP,F5),(fZ,Kj,xw)]
theorem OE:∀k pre post,(k,pre,post)∈AQ→jM k=true∧aV Tryz.prog k pre post:=by
 intro k pre post h
 simp only [AQ,List.mem_cons,List.not_mem_nil,or_false,Prod.mk.injEq] at h
 rcases h with ⟨rfl,rfl,rfl⟩ | ⟨rfl,rfl,rfl⟩ | ⟨rfl,rfl,rfl⟩ | ⟨rfl,rfl,rfl⟩ | ⟨rfl,rfl,rfl⟩
 ·exact ⟨by kernel_rfl,Oz⟩
 ·exact ⟨by kernel_rfl,QS⟩
 ·exact ⟨by kernel_rfl,OA⟩
 ·exact ⟨by kernel_rfl,LC⟩
 ·exact ⟨by kernel_rfl,Kk⟩
noncomputable def VL:Ex:={sched:=sched,loops:=[ZY,Qp],cons:=[kY,mV,kZ,jN,fZ],fin:=jG}
def F6:Out :=
 .br (.aB (.var 0) (.lit 2))
 (.call 0 {lo:=0,az:=0,iv:=[(6,yv 50),(5,yv 49),(2,yv 60),(1,yv 59)],bv:=[(4,yw 48),(0,yw 58)],ct:=[(7,yu 68 49 5 yW 0),(3,yu 70 59 7 yN 0)],bk:=[(1,yc 1 5),(0,yc 3 7)]} 71 <|
  .call 4 {lo:=0,az:=0,iv:=yo [(70,yv 72)]<|yr 65 65 7<|yo [(57,yv 57),(56,yv 56)]<|yr 3 3 4<|yo [(53,yv 73),(52,yv 72),(69,.lit 0),(50,yv 50),(49,yv 49),(47,yv 47)]<|yr 45 45 4<|yr 40 40 4<|yr 35 35 4<|yr 30 30 13<|yr 16 16 4<|yr 11 11 8 [],bv:=[(67,yw 67),(66,yw 66),(58,yw 58),(55,yw 55),(51,yw 71),(48,yw 48),(46,yw 46),(41,yw 41),(36,yw 36),(31,yw 31),(17,yw 17),(12,yw 12)],ct:=[(70,yu 70 59 7 yN 0),(69,yu 74 72 7 yN 0),(68,yu 68 49 5 yW 0),(54,yl 54 9 5 50 yW 0)],bk:=[(3,yc 3 7),(2,yc 4 7),(1,yc 1 5),(0,yb 0)]} 79 <|
  .fin {lo:=71,az:=4,iv:=yo [(137,yv 145)]<|yr 132 140 7<|yo [(124,yv 132),(123,yv 131),(120,yv 128),(119,yv 127),(136,yv 144),(117,yv 125),(116,yv 124),(114,yv 122)]<|yr 112 120 4<|yr 107 115 4<|yr 102 110 4<|yr 97 105 13<|yr 83 91 4<|yr 78 86 8 [],bv:=[(134,yw 142),(133,yw 141),(125,yw 133),(122,yw 130),(118,yw 126),(115,yw 123),(113,yw 121),(108,yw 116),(103,yw 111),(98,yw 106),(84,yw 92),(79,yw 87)],ct:=[(137,yu 145 134 7 yN 0),(136,yu 144 145 7 yN 0),(135,yu 143 124 5 yW 0),(121,yl 129 9 5 50 yW 0)],bk:=[(6,yc 8 7),(5,yc 7 7),(4,yc 6 5)]})
 (.br (.aB (.var 0) (.lit 3))
  (.ob (.or (.not (.var 48)) (.aB (.var 49) (.lit 0))) <|
   .ob (.aA (.lit 0) (.var 49)) <|
   .loop 71 {lo:=71,az:=4,iv:=[(75,.lit 0),(73,.lit 0),(72,.lit 0)],bv:=[(71,.lit true)],nb:=[4]} <|
   .br (.bS (.var 75) (.var 49))
   (.ob (.not (.var 48)) <|
    .ob (.aA (.lit 0) (.var 75)) <|
    .ob (.aA (.mul (.add (.var 72) (.lit 1)) (.lit 8)) (.lit 140737488355328)) <|
    .ob (.aA (.lit 0) (.var 72)) <|
    .ob (.aA (.var 72) (.var 73)) <|
    .ob (.aA (.var 73) (.lit 9223372036854775807)) <|
    .ob (.or (.not (.var 71)) (.aB (.var 72) (.lit 0))) <|
    .new 76 [.be (.and (.aA (.add (.var 72) (.lit 1)) (.var 76)) (.aA (.var 76) (.lit 9223372036854775807)))] <|
    .ob (.inr .i64 (.add (.var 75) (.lit 1))) <|
    .back 0 {lo:=71,az:=4,iv:=[(75,.add (.var 75) (.lit 1)),(73,yv 76),(72,.add (.var 72) (.lit 1))],bv:=[(71,.lit false)],ct:=[(74,.up {r:=74,n1:=.add (.var 72) (.lit 1),s1:=1,ks:=yI} 0 [⟨0,(.var 72),(.lit 0),0,.int .i64 (.cell 68 (.var 75) (.lit 0) 3)⟩] (.lit 0))],bk:=[(4,yc 7 1)]})
   (.call 1 {lo:=0,az:=0,iv:=[(6,yv 73),(5,yv 72),(2,yv 60),(1,yv 59)],bv:=[(4,yw 71),(0,yw 58)],ct:=[(7,yu 74 72 1 yI 0),(3,yu 70 59 7 yN 0)],bk:=[(1,yc 4 1),(0,yc 3 7)]} 76 <|
    .call 4 {lo:=0,az:=0,iv:=yo [(70,yv 77)]<|yr 65 65 7<|yo [(57,yv 57),(56,yv 56)]<|yr 3 3 4<|yo [(53,yv 78),(52,yv 77),(69,.lit 0),(50,yv 50),(49,yv 49),(47,yv 47)]<|yr 45 45 4<|yr 40 40 4<|yr 35 35 4<|yr 30 30 13<|yr 16 16 4<|yr 11 11 8 [],bv:=[(67,yw 67),(66,yw 66),(58,yw 58),(55,yw 55),(51,yw 76),(48,yw 48),(46,yw 46),(41,yw 41),(36,yw 36),(31,yw 31),(17,yw 17),(12,yw 12)],ct:=[(70,yu 70 59 7 yN 0),(69,yu 79 77 7 yN 0),(68,yu 68 49 5 yW 0),(54,yl 54 9 5 50 yW 0)],bk:=[(3,yc 3 7),(2,yc 5 7),(1,yc 1 5),(0,yb 0)]} 84 <|
    .fin {lo:=71,az:=4,iv:=yo [(137,yv 150)]<|yr 132 145 7<|yo [(124,yv 137),(123,yv 136),(120,yv 133),(119,yv 132),(136,yv 149),(117,yv 130),(116,yv 129),(114,yv 127)]<|yr 112 125 4<|yr 107 120 4<|yr 102 115 4<|yr 97 110 13<|yr 83 96 4<|yr 78 91 8 [],bv:=[(134,yw 147),(133,yw 146),(125,yw 138),(122,yw 135),(118,yw 131),(115,yw 128),(113,yw 126),(108,yw 121),(103,yw 116),(98,yw 111),(84,yw 97),(79,yw 92)],ct:=[(137,yu 150 139 7 yN 0),(136,yu 149 150 7 yN 0),(135,yu 148 129 5 yW 0),(121,yl 134 9 5 50 yW 0)],bk:=[(6,yc 9 7),(5,yc 8 7),(4,yc 7 5)]}))
  (.br (.aB (.var 0) (.lit 5))
   (.ob (.or (.not (.var 48)) (.aB (.var 49) (.lit 0))) <|
    .ob (.aA (.lit 0) (.var 49)) <|
    .loop 71 {lo:=71,az:=4,iv:=[(75,.lit 0),(73,.lit 0),(72,.lit 0)],bv:=[(71,.lit true)],nb:=[4]} <|
    .br (.bS (.var 75) (.var 49))
    (.ob (.not (.var 48)) <|
     .ob (.aA (.lit 0) (.var 75)) <|
     .br (.not (.cell 68 (.var 75) (.lit 0) 4))
     (.ob (.aA (.mul (.add (.var 72) (.lit 1)) (.lit 24)) (.lit 140737488355328)) <|
      .ob (.aA (.lit 0) (.var 72)) <|
      .ob (.aA (.var 72) (.var 73)) <|
      .ob (.aA (.var 73) (.lit 9223372036854775807)) <|
      .ob (.or (.not (.var 71)) (.aB (.var 72) (.lit 0))) <|
      .new 76 [.be (.and (.aA (.add (.var 72) (.lit 1)) (.var 76)) (.aA (.var 76) (.lit 9223372036854775807)))] <|
      .ob (.inr .i64 (.add (.var 75) (.lit 1))) <|
      .back 0 {lo:=71,az:=4,iv:=[(75,.add (.var 75) (.lit 1)),(73,yv 76),(72,.add (.var 72) (.lit 1))],bv:=[(71,.lit false)],ct:=[(74,.up {r:=74,n1:=.add (.var 72) (.lit 1),s1:=3,ks:=[.bool,.int .i64,.int .i64]} 0 [⟨0,(.var 72),(.lit 0),0,.bool (.lit false)⟩,⟨0,(.var 72),(.lit 0),1,.int .i64 (.lit 0)⟩,⟨0,(.var 72),(.lit 0),2,.int .i64 (.lit 0)⟩] (.lit 0))],bk:=[(4,yc 9 3)]})
     (.ob (.aA (.mul (.add (.var 72) (.lit 1)) (.lit 24)) (.lit 140737488355328)) <|
      .ob (.aA (.lit 0) (.var 72)) <|
      .ob (.aA (.var 72) (.var 73)) <|
      .ob (.aA (.var 73) (.lit 9223372036854775807)) <|
      .ob (.or (.not (.var 71)) (.aB (.var 72) (.lit 0))) <|
      .new 76 [.be (.and (.aA (.add (.var 72) (.lit 1)) (.var 76)) (.aA (.var 76) (.lit 9223372036854775807)))] <|
      .ob (.inr .i64 (.add (.var 75) (.lit 1))) <|
      .back 0 {lo:=71,az:=4,iv:=[(75,.add (.var 75) (.lit 1)),(73,yv 76),(72,.add (.var 72) (.lit 1))],bv:=[(71,.lit false)],ct:=[(74,.up {r:=74,n1:=.add (.var 72) (.lit 1),s1:=3,ks:=[.bool,.int .i64,.int .i64]} 0 [⟨0,(.var 72),(.lit 0),0,.bool (.lit true)⟩,⟨0,(.var 72),(.lit 0),1,.int .i64 (.cell 68 (.var 75) (.lit 0) 3)⟩,⟨0,(.var 72),(.lit 0),2,.int .i64 (.cell 68 (.var 75) (.lit 0) 2)⟩] (.lit 0))],bk:=[(4,yc 9 3)]}))
    (.call 2 {lo:=0,az:=0,iv:=[(6,yv 73),(5,yv 72),(2,yv 60),(1,yv 59)],bv:=[(4,yw 71),(0,yw 58)],ct:=[(7,.up {r:=74,n1:=.var 72,s1:=3,ks:=[.bool,.int .i64,.int .i64]} 0 [] (.lit 0)),(3,yu 70 59 7 yN 0)],bk:=[(1,yc 4 3),(0,yc 3 7)]} 76 <|
     .call 4 {lo:=0,az:=0,iv:=yo [(70,yv 77)]<|yr 65 65 7<|yo [(57,yv 57),(56,yv 56)]<|yr 3 3 4<|yo [(53,yv 78),(52,yv 77),(69,.lit 0),(50,yv 50),(49,yv 49),(47,yv 47)]<|yr 45 45 4<|yr 40 40 4<|yr 35 35 4<|yr 30 30 13<|yr 16 16 4<|yr 11 11 8 [],bv:=[(67,yw 67),(66,yw 66),(58,yw 58),(55,yw 55),(51,yw 76),(48,yw 48),(46,yw 46),(41,yw 41),(36,yw 36),(31,yw 31),(17,yw 17),(12,yw 12)],ct:=[(70,yu 70 59 7 yN 0),(69,yu 79 77 7 yN 0),(68,yu 68 49 5 yW 0),(54,yl 54 9 5 50 yW 0)],bk:=[(3,yc 3 7),(2,yc 5 7),(1,yc 1 5),(0,yb 0)]} 84 <|
     .fin {lo:=71,az:=4,iv:=yo [(137,yv 150)]<|yr 132 145 7<|yo [(124,yv 137),(123,yv 136),(120,yv 133),(119,yv 132),(136,yv 149),(117,yv 130),(116,yv 129),(114,yv 127)]<|yr 112 125 4<|yr 107 120 4<|yr 102 115 4<|yr 97 110 13<|yr 83 96 4<|yr 78 91 8 [],bv:=[(134,yw 147),(133,yw 146),(125,yw 138),(122,yw 135),(118,yw 131),(115,yw 128),(113,yw 126),(108,yw 121),(103,yw 116),(98,yw 111),(84,yw 97),(79,yw 92)],ct:=[(137,yu 150 139 7 yN 0),(136,yu 149 150 7 yN 0),(135,yu 148 129 5 yW 0),(121,yl 134 9 5 50 yW 0)],bk:=[(6,yc 9 7),(5,yc 8 7),(4,yc 7 5)]}))
   (.br (.aB (.var 0) (.lit 4))
    (.call 3 {lo:=0,az:=0,iv:=[(4,yv 45),(2,yv 60),(1,yv 59)],bv:=[(0,yw 58)],ct:=[(3,yu 70 59 7 yN 0)],bk:=[(0,yc 3 7)]} 71 <|
     .call 4 {lo:=0,az:=0,iv:=yo [(70,yv 72)]<|yr 65 65 7<|yo [(57,yv 57),(56,yv 56)]<|yr 3 3 4<|yo [(53,yv 73),(52,yv 72),(69,.lit 0),(50,yv 50),(49,yv 49),(47,yv 47)]<|yr 45 45 4<|yr 40 40 4<|yr 35 35 4<|yr 30 30 13<|yr 16 16 4<|yr 11 11 8 [],bv:=[(67,yw 67),(66,yw 66),(58,yw 58),(55,yw 55),(51,yw 71),(48,yw 48),(46,yw 46),(41,yw 41),(36,yw 36),(31,yw 31),(17,yw 17),(12,yw 12)],ct:=[(70,yu 70 59 7 yN 0),(69,yu 74 72 7 yN 0),(68,yu 68 49 5 yW 0),(54,yl 54 9 5 50 yW 0)],bk:=[(3,yc 3 7),(2,yc 4 7),(1,yc 1 5),(0,yb 0)]} 79 <|
     .fin {lo:=71,az:=4,iv:=yo [(137,yv 145)]<|yr 132 140 7<|yo [(124,yv 132),(123,yv 131),(120,yv 128),(119,yv 127),(136,yv 144),(117,yv 125),(116,yv 124),(114,yv 122)]<|yr 112 120 4<|yr 107 115 4<|yr 102 110 4<|yr 97 105 13<|yr 83 91 4<|yr 78 86 8 [],bv:=[(134,yw 142),(133,yw 141),(125,yw 133),(122,yw 130),(118,yw 126),(115,yw 123),(113,yw 121),(108,yw 116),(103,yw 111),(98,yw 106),(84,yw 92),(79,yw 87)],ct:=[(137,yu 145 134 7 yN 0),(136,yu 144 145 7 yN 0),(135,yu 143 124 5 yW 0),(121,yl 129 9 5 50 yW 0)],bk:=[(6,yc 8 7),(5,yc 7 7),(4,yc 6 5)]})
    (.call 4 {lo:=0,az:=0,iv:=yo [(70,yv 70)]<|yr 65 65 7<|yo [(57,yv 57),(56,yv 56)]<|yr 3 3 4<|yo [(53,yv 53),(52,yv 52),(69,yv 69),(50,yv 50),(49,yv 49),(47,yv 47)]<|yr 45 45 4<|yr 40 40 4<|yr 35 35 4<|yr 30 30 13<|yr 16 16 4<|yr 11 11 8 [],bv:=[(67,yw 67),(66,yw 66),(58,yw 58),(55,yw 55),(51,yw 51),(48,yw 48),(46,yw 46),(41,yw 41),(36,yw 36),(31,yw 31),(17,yw 17),(12,yw 12)],ct:=[(70,yu 70 59 7 yN 0),(69,yu 69 70 7 yN 0),(68,yu 68 49 5 yW 0),(54,yl 54 9 5 50 yW 0)],bk:=[(3,yc 3 7),(2,yc 2 7),(1,yc 1 5),(0,yb 0)]} 71 <|
     .fin {lo:=71,az:=4,iv:=yo [(137,yv 137)]<|yr 132 132 7<|yo [(124,yv 124),(123,yv 123),(120,yv 120),(119,yv 119),(136,yv 136),(117,yv 117),(116,yv 116),(114,yv 114)]<|yr 112 112 4<|yr 107 107 4<|yr 102 102 4<|yr 97 97 13<|yr 83 83 4<|yr 78 78 8 [],bv:=[(134,yw 134),(133,yw 133),(125,yw 125),(122,yw 122),(118,yw 118),(115,yw 115),(113,yw 113),(108,yw 108),(103,yw 103),(98,yw 98),(84,yw 84),(79,yw 79)],ct:=[(137,yu 137 126 7 yN 0),(136,yu 136 137 7 yN 0),(135,yu 135 116 5 yW 0),(121,yl 121 9 5 50 yW 0)],bk:=[(6,yc 6 7),(5,yc 5 7),(4,yc 4 5)]}))))
theorem Ud:exec tab VL 8000 [] (dZ jG.f jG.nv [] jG.gl jG.hp jG.args)=F6:=by kernel_rfl
def rP (ρ:Env):Prop:=bK ρ 4∧(ρ.iv 59≤1000000∧(ρ.iv 0=4∨ρ.iv 49≤100000))∧(ρ.iv 0=4→ED ρ 42)
def CK (ρ:Env):Prop:=bK ρ 71∧aa ρ 0 71=(aa ρ 0 4).gK
theorem AR {r:RS} (h:2≤r.av∧r.av≤5) {l:List Nt} (hl:l=r.notes.filter fun n=>!r.kept n):r.gK=({r with bL:=l}:RS).eD:=by
 subst hl
 unfold RS.gK
 rw [if_pos h]
def OG (ρ:Env):Prop:=(rP ρ∧ρ.iv 0=3)∧(0≤ρ.iv 75∧ρ.iv 75≤ρ.iv 49)∧(bG ρ 71∧ρ.iv 72=ρ.iv 75)∧oV ρ 74 (ρ.iv 72)=((dL ρ 68 (ρ.iv 49)).take (ρ.iv 75).toNat).map Wd.num
def IB (ρ:Env):Prop:=(rP ρ∧ρ.iv 0=5)∧(0≤ρ.iv 75∧ρ.iv 75≤ρ.iv 49)∧(bG ρ 71∧ρ.iv 72=ρ.iv 75)∧gW ρ 74 (ρ.iv 72)=((dL ρ 68 (ρ.iv 49)).take (ρ.iv 75).toNat).map RS.j4
set_option maxHeartbeats 4000000 in
theorem Ue (ρ:Env) (hpre:rP ρ.num):Sat CK AQ [] ρ F6:=by
 replace hpre:rP ρ:=hpre
 have hpre':=hpre
 obtain ⟨⟨o1,o2,o3⟩,⟨f1,f2⟩,hw⟩:=hpre
 unfold F6
 refine Sat.br (fun c=>?_) (fun c=>?_)
 ·simp only [Da] at c
  have e0:(aa ρ 0 4).av=2:=c
  refine Sat.iT (c:=kY) rfl ⟨o3,f1,o1,by show ρ.iv 49≤1000000;omega⟩ (fun q=>(bK q 4)∧bG q 71∧(aa q 0 4).gK=({aa q 0 4 with bL:=aT q 74 (q.iv 72)}:RS).eD) (fun e hq=>?_) fun q hq=>?_
  ·replace hq:Kr (bf _ 8 71 ρ (ρ.join 71 e)):=hq
   obtain ⟨q1,q2⟩:=hq
   rw [show bG (bf _ 8 71 ρ (ρ.join 71 e)) 8=bG (ρ.join 71 e) 71 from mf (m:=8) 0] at q1
   rw [show aT (bf _ 8 71 ρ (ρ.join 71 e)) 11 ((bf _ 8 71 ρ (ρ.join 71 e)).iv 9)=aT (ρ.join 71 e) 74 ((ρ.join 71 e).iv 72) from rf (m:=8) 3 1] at q2
   refine ⟨⟨o1,o2,o3⟩,q1,AR (r:=aa ρ 0 4) ⟨by rw [e0];decide,by rw [e0];decide⟩ (q2.trans ?_)⟩
   refine congr (congrArg List.filter ?_) ?_
   ·funext n
    refine congrArg (fun b=>!b) ?_
    unfold RS.kept
    rw [if_pos e0]
    refine congrArg (fun l:List Wd=>l.any fun w=>RS.xh w n) ?_
    exact Ez rfl fun i=>by simp [aF,bf,-Int.pred_toNat,Sub.ag,assoc,CV.I,CV.B,ah,ai,ae.I,ae.B,SC.I,SC.B,IE.den,BE.den]
   ·exact fJ rfl fun i=>by simp [bR,aF,bf,-Int.pred_toNat,Sub.ag,assoc,CV.I,CV.B,ah,ai,ae.I,ae.B,SC.I,SC.B,IE.den,BE.den]
  obtain ⟨⟨o1,o2,o3⟩,od,hm⟩:=hq
  refine eB (c:=fZ) rfl ({aa q 0 4 with bL:=aT q 74 (q.iv 72)}:RS) ({aa q 0 4 with bL:=aT q 74 (q.iv 72)}:RS).eD (by decide) (by decide) (jq rfl rfl rfl rfl) ⟨o1,⟨od,Int.le_refl 0,.inr (by show (0:Int)+_≤_;rw [Int.zero_add];exact Int.le_refl _)⟩,o3⟩ (RS.ext' rfl rfl rfl rfl rfl rfl bA (xE rfl rfl fun i=>by simp [bR,aF,-Int.pred_toNat,Sub.ag,assoc,CV.I,CV.B,ah,ai,ae.I,ae.B,SC.I,SC.B,IE.den,BE.den]) rfl rfl rfl rfl bE rfl bB rfl rfl) (fun e hq hr=>⟨hq.1,by rw [←hr];exact hq.2⟩) (fun u=>(bK u 79)∧aa u 0 79=(aa u 0 4).gK) (fun e h1 h2=>⟨h1,h2.trans hm.symm⟩) fun u hu=>?_
  obtain ⟨⟨o1,o2,o3⟩,hm⟩:=hu
  exact Sat.fin ⟨⟨(by first | exact o1 | exact o2 | exact o3 | exact aj rfl rfl | assumption),(by first | exact o2 | exact ⟨aj rfl rfl,Int.le_refl 0,.inl rfl⟩ | assumption),(by first | exact o1 | exact o2 | exact o3 | exact aj rfl rfl | assumption)⟩,Eq.trans (b:=(aa u 0 79)) (RS.ext' rfl rfl rfl rfl rfl rfl bA bF rfl rfl rfl rfl bE rfl bB rfl rfl) (Eq.symm (hm.symm))⟩
 simp only [Da] at c
 refine Sat.br (fun c3=>?_) (fun c3=>?_)
 ·simp only [Da] at c3
  refine Sat.ob (aK o1) (Sat.ob (decide_eq_true o1.2.1) (Sat.xk OG (fun r=>(r.iv 49-r.iv 75).toNat) (fun _=>True) ⟨⟨hpre',c3⟩,⟨Int.le_refl 0,o1.2.1⟩,⟨aj rfl rfl,rfl⟩,rfl⟩ (fun _=>trivial) fun q _ hI=>?_))
  replace hI:OG q:=hI
  have hI':=hI
  obtain ⟨⟨hpre',he⟩,⟨i1,i2⟩,⟨os,hl⟩,hrow⟩:=hI
  have hpre:=hpre'
  obtain ⟨⟨o1,o2,o3⟩,⟨f1,f2⟩,hw⟩:=hpre
  refine Sat.br (fun c=>?_) (fun c=>?_)
  ·simp only [Da] at c
   refine Sat.ob (bW o1 (by simp only [Nat.reduceAdd];omega)) (Sat.ob (decide_eq_true i1) ?_)
   obtain ⟨p1,p2,p3,p4⟩:=id os
   refine Sat.ob (by simp only [Da];omega) (Sat.ob (decide_eq_true p2) (Sat.ob (decide_eq_true p3) (Sat.ob (decide_eq_true p4) (Sat.ob (aK os) (Sat.zD (fun u=>OG u∧u.iv 75<u.iv 49∧(u.iv 49-(u.iv 75+1)).toNat<(q.iv 49-q.iv 75).toNat) (fun e=>⟨hI',c,by show (q.iv 49-(q.iv 75+1)).toNat<(q.iv 49-q.iv 75).toNat;omega⟩) fun u hu hb=>?_)))))
   obtain ⟨⟨⟨hpre',he⟩,⟨i1,i2⟩,⟨os,hl⟩,hrow⟩,c,hd⟩:=hu
   simp only [Da] at hb
   obtain ⟨p1,p2,p3,p4⟩:=id os
   replace p2:0≤u.iv 72:=p2
   have hf2:=hpre'.2.1.2
   refine Sat.ob (by simp only [Da];omega) (Sat.back rfl ⟨⟨⟨hpre',he⟩,⟨?_,?_⟩,⟨⟨fun h=>(by cases h),?_,hb.1,hb.2⟩,?_⟩,?_⟩,hd⟩)
   ·show 0≤u.iv 75+1;omega
   ·show u.iv 75+1≤u.iv 49;omega
   ·show 0≤u.iv 72+1;omega
   ·show u.iv 72+1=u.iv 75+1;omega
   ·refine (OD (ρ:=u) (r:=74) (n:=u.iv 72) (w:=Wd.num (aF (u.ic 68 (u.iv 75).toNat 0) (u.bc 68 (u.iv 75).toNat 0))) p2 rfl (fun i hi=>?_) ?_).trans ?_
    ·have hn:¬(u.iv 72).toNat=i:=fun h=>by omega
     simp [kG,aF,-Int.pred_toNat,Sub.ag,assoc,CV.I,CV.B,ah,ai,ae.I,ae.B,SC.I,SC.B,IE.den,BE.den,hn]
    ·simp [aF,-Int.pred_toNat,Sub.ag,assoc,CV.I,CV.B,ah,ai,ae.I,ae.B,SC.I,SC.B,IE.den,BE.den,hl]
    ·show oV u 74 (u.iv 72) ++ _=((dL u 68 (u.iv 49)).take (u.iv 75+1).toNat).map Wd.num
     rw [hrow,show (u.iv 75+1).toNat=(u.iv 75).toNat+1 by omega,oW (by omega),List.map_append]
     rfl
  ·simp only [Da] at c
   have e0:(aa q 0 4).av=3:=he
   rw [xG (by omega)] at hrow
   refine Sat.iT (c:=mV) rfl ⟨o3,f1,os,by show q.iv 72≤1000000;omega⟩ (fun u=>(bK u 4)∧bG u 76∧(aa u 0 4).gK=({aa u 0 4 with bL:=aT u 79 (u.iv 77)}:RS).eD) (fun e hq=>?_) fun u hu=>?_
   ·replace hq:Oy (bf _ 8 76 q (q.join 76 e)):=hq
    obtain ⟨q1,q2⟩:=hq
    rw [show bG (bf _ 8 76 q (q.join 76 e)) 8=bG (q.join 76 e) 76 from mf (m:=8) 0] at q1
    rw [show aT (bf _ 8 76 q (q.join 76 e)) 11 ((bf _ 8 76 q (q.join 76 e)).iv 9)=aT (q.join 76 e) 79 ((q.join 76 e).iv 77) from rf (m:=8) 3 1] at q2
    refine ⟨⟨o1,o2,o3⟩,q1,AR (r:=aa q 0 4) ⟨by rw [e0];decide,by rw [e0];decide⟩ (q2.trans ?_)⟩
    refine congr (congrArg List.filter ?_) ?_
    ·funext n
     refine congrArg (fun b=>!b) ?_
     unfold RS.kept
     rw [if_neg (show ¬(aa q 0 4).av=2 by rw [e0];decide),if_pos e0]
     refine (congrArg (fun l:List Int=>l.any fun e=>RS.vH e n) (Eq.trans (b:=oV q 74 (q.iv 72)) (OC rfl fun i=>by simp [bf,-Int.pred_toNat,Sub.ag,assoc,CV.I,CV.B,ah,ai,ae.I,ae.B,SC.I,SC.B,IE.den,BE.den]) hrow)).trans ?_
     rw [List.any_map]
     rfl
    ·exact fJ rfl fun i=>by simp [bR,aF,bf,-Int.pred_toNat,Sub.ag,assoc,CV.I,CV.B,ah,ai,ae.I,ae.B,SC.I,SC.B,IE.den,BE.den]
   obtain ⟨⟨o1,o2,o3⟩,od,hm⟩:=hu
   refine eB (c:=fZ) rfl ({aa u 0 4 with bL:=aT u 79 (u.iv 77)}:RS) ({aa u 0 4 with bL:=aT u 79 (u.iv 77)}:RS).eD (by decide) (by decide) (jq rfl rfl rfl rfl) ⟨o1,⟨od,Int.le_refl 0,.inr (by show (0:Int)+_≤_;rw [Int.zero_add];exact Int.le_refl _)⟩,o3⟩ (RS.ext' rfl rfl rfl rfl rfl rfl bA (xE rfl rfl fun i=>by simp [bR,aF,-Int.pred_toNat,Sub.ag,assoc,CV.I,CV.B,ah,ai,ae.I,ae.B,SC.I,SC.B,IE.den,BE.den]) rfl rfl rfl rfl bE rfl bB rfl rfl) (fun e hq hr=>⟨hq.1,by rw [←hr];exact hq.2⟩) (fun u=>(bK u 84)∧aa u 0 84=(aa u 0 4).gK) (fun e h1 h2=>⟨h1,h2.trans hm.symm⟩) fun u hu=>?_
   obtain ⟨⟨o1,o2,o3⟩,hm⟩:=hu
   exact Sat.fin ⟨⟨(by first | exact o1 | exact o2 | exact o3 | exact aj rfl rfl | assumption),(by first | exact o2 | exact ⟨aj rfl rfl,Int.le_refl 0,.inl rfl⟩ | assumption),(by first | exact o1 | exact o2 | exact o3 | exact aj rfl rfl | assumption)⟩,Eq.trans (b:=(aa u 0 84)) (RS.ext' rfl rfl rfl rfl rfl rfl bA bF rfl rfl rfl rfl bE rfl bB rfl rfl) (Eq.symm (hm.symm))⟩
 simp only [Da] at c3
 refine Sat.br (fun c5=>?_) (fun c5=>?_)
 ·simp only [Da] at c5
  refine Sat.ob (aK o1) (Sat.ob (decide_eq_true o1.2.1) (Sat.xk IB (fun r=>(r.iv 49-r.iv 75).toNat) (fun _=>True) ⟨⟨hpre',c5⟩,⟨Int.le_refl 0,o1.2.1⟩,⟨aj rfl rfl,rfl⟩,rfl⟩ (fun _=>trivial) fun q _ hI=>?_))
  replace hI:IB q:=hI
  have hI':=hI
  obtain ⟨⟨hpre',he⟩,⟨i1,i2⟩,⟨os,hl⟩,hrow⟩:=hI
  have hpre:=hpre'
  obtain ⟨⟨o1,o2,o3⟩,⟨f1,f2⟩,hw⟩:=hpre
  refine Sat.br (fun c=>?_) (fun c=>?_)
  ·simp only [Da] at c
   refine Sat.ob (bW o1 (by simp only [Nat.reduceAdd];omega)) (Sat.ob (decide_eq_true i1) ?_)
   obtain ⟨p1,p2,p3,p4⟩:=id os
   refine Sat.br (fun c2=>?_) (fun c2=>?_)
   ·simp only [Da] at c2
    refine Sat.ob (by simp only [Da];omega) (Sat.ob (decide_eq_true p2) (Sat.ob (decide_eq_true p3) (Sat.ob (decide_eq_true p4) (Sat.ob (aK os) (Sat.zD (fun u=>IB u∧u.iv 75<u.iv 49∧(u.iv 49-(u.iv 75+1)).toNat<(q.iv 49-q.iv 75).toNat∧u.bc 68 (u.iv 75).toNat 0 4=false) (fun e=>⟨hI',c,by show (q.iv 49-(q.iv 75+1)).toNat<(q.iv 49-q.iv 75).toNat;omega,c2⟩) fun u hu hb=>?_)))))
    obtain ⟨⟨⟨hpre',he⟩,⟨i1,i2⟩,⟨os,hl⟩,hrow⟩,c,hd,hc⟩:=hu
    simp only [Da] at hb
    obtain ⟨p1,p2,p3,p4⟩:=id os
    replace p2:0≤u.iv 72:=p2
    have hf2:=hpre'.2.1.2
    refine Sat.ob (by simp only [Da];omega) (Sat.back rfl ⟨⟨⟨hpre',he⟩,⟨?_,?_⟩,⟨⟨fun h=>(by cases h),?_,hb.1,hb.2⟩,?_⟩,?_⟩,hd⟩)
    ·show 0≤u.iv 75+1;omega
    ·show u.iv 75+1≤u.iv 49;omega
    ·show 0≤u.iv 72+1;omega
    ·show u.iv 72+1=u.iv 75+1;omega
    ·refine (rq (ρ:=u) (r:=74) (n:=u.iv 72) (w:=RS.j4 (aF (u.ic 68 (u.iv 75).toNat 0) (u.bc 68 (u.iv 75).toNat 0))) p2 rfl (fun i hi=>?_) ?_).trans ?_
     ·have hn:¬(u.iv 72).toNat=i:=fun h=>by omega
      simp [kG,aF,-Int.pred_toNat,Sub.ag,assoc,CV.I,CV.B,ah,ai,ae.I,ae.B,SC.I,SC.B,IE.den,BE.den,hn]
     ·simp [kG,aF,RS.j4,Sp.zero,-Int.pred_toNat,Sub.ag,assoc,CV.I,CV.B,ah,ai,ae.I,ae.B,SC.I,SC.B,IE.den,BE.den,hl,hc]
     ·show gW u 74 (u.iv 72) ++ _=((dL u 68 (u.iv 49)).take (u.iv 75+1).toNat).map RS.j4
      rw [hrow,show (u.iv 75+1).toNat=(u.iv 75).toNat+1 by omega,oW (by omega),List.map_append]
      rfl
   ·simp only [Da] at c2
    refine Sat.ob (by simp only [Da];omega) (Sat.ob (decide_eq_true p2) (Sat.ob (decide_eq_true p3) (Sat.ob (decide_eq_true p4) (Sat.ob (aK os) (Sat.zD (fun u=>IB u∧u.iv 75<u.iv 49∧(u.iv 49-(u.iv 75+1)).toNat<(q.iv 49-q.iv 75).toNat∧u.bc 68 (u.iv 75).toNat 0 4=true) (fun e=>⟨hI',c,by show (q.iv 49-(q.iv 75+1)).toNat<(q.iv 49-q.iv 75).toNat;omega,c2⟩) fun u hu hb=>?_)))))
    obtain ⟨⟨⟨hpre',he⟩,⟨i1,i2⟩,⟨os,hl⟩,hrow⟩,c,hd,hc⟩:=hu
    simp only [Da] at hb
    obtain ⟨p1,p2,p3,p4⟩:=id os
    replace p2:0≤u.iv 72:=p2
    have hf2:=hpre'.2.1.2
    refine Sat.ob (by simp only [Da];omega) (Sat.back rfl ⟨⟨⟨hpre',he⟩,⟨?_,?_⟩,⟨⟨fun h=>(by cases h),?_,hb.1,hb.2⟩,?_⟩,?_⟩,hd⟩)
    ·show 0≤u.iv 75+1;omega
    ·show u.iv 75+1≤u.iv 49;omega
    ·show 0≤u.iv 72+1;omega
    ·show u.iv 72+1=u.iv 75+1;omega
    ·refine (rq (ρ:=u) (r:=74) (n:=u.iv 72) (w:=RS.j4 (aF (u.ic 68 (u.iv 75).toNat 0) (u.bc 68 (u.iv 75).toNat 0))) p2 rfl (fun i hi=>?_) ?_).trans ?_
     ·have hn:¬(u.iv 72).toNat=i:=fun h=>by omega
      simp [kG,aF,-Int.pred_toNat,Sub.ag,assoc,CV.I,CV.B,ah,ai,ae.I,ae.B,SC.I,SC.B,IE.den,BE.den,hn]
     ·simp [kG,aF,RS.j4,-Int.pred_toNat,Sub.ag,assoc,CV.I,CV.B,ah,ai,ae.I,ae.B,SC.I,SC.B,IE.den,BE.den,hl,hc]
     ·show gW u 74 (u.iv 72) ++ _=((dL u 68 (u.iv 49)).take (u.iv 75+1).toNat).map RS.j4
      rw [hrow,show (u.iv 75+1).toNat=(u.iv 75).toNat+1 by omega,oW (by omega),List.map_append]
      rfl
  ·simp only [Da] at c
   have e0:(aa q 0 4).av=5:=he
   rw [xG (by omega)] at hrow
   refine Sat.iT (c:=kZ) rfl ⟨o3,f1,os,by show q.iv 72≤1000000;omega⟩ (fun u=>(bK u 4)∧bG u 76∧(aa u 0 4).gK=({aa u 0 4 with bL:=aT u 79 (u.iv 77)}:RS).eD) (fun e hq=>?_) fun u hu=>?_
   ·replace hq:Kt (bf _ 8 76 q (q.join 76 e)):=hq
    obtain ⟨q1,q2⟩:=hq
    rw [show bG (bf _ 8 76 q (q.join 76 e)) 8=bG (q.join 76 e) 76 from mf (m:=8) 0] at q1
    rw [show aT (bf _ 8 76 q (q.join 76 e)) 11 ((bf _ 8 76 q (q.join 76 e)).iv 9)=aT (q.join 76 e) 79 ((q.join 76 e).iv 77) from rf (m:=8) 3 1] at q2
    refine ⟨⟨o1,o2,o3⟩,q1,AR (r:=aa q 0 4) ⟨by rw [e0];decide,by rw [e0];decide⟩ (q2.trans ?_)⟩
    refine congr (congrArg List.filter ?_) ?_
    ·funext n
     refine congrArg (fun b=>!b) ?_
     unfold RS.kept
     rw [if_neg (show ¬(aa q 0 4).av=2 by rw [e0];decide),if_neg (show ¬(aa q 0 4).av=3 by rw [e0];decide),if_pos e0]
     refine (congrArg (fun l:List Sp=>l.any fun s=>RS.sI s n) (Eq.trans (b:=gW q 74 (q.iv 72)) (EE rfl fun i=>by simp [kG,bf,-Int.pred_toNat,Sub.ag,assoc,CV.I,CV.B,ah,ai,ae.I,ae.B,SC.I,SC.B,IE.den,BE.den]) hrow)).trans ?_
     rw [List.any_map]
     rfl
    ·exact fJ rfl fun i=>by simp [bR,aF,bf,-Int.pred_toNat,Sub.ag,assoc,CV.I,CV.B,ah,ai,ae.I,ae.B,SC.I,SC.B,IE.den,BE.den]
   obtain ⟨⟨o1,o2,o3⟩,od,hm⟩:=hu
   refine eB (c:=fZ) rfl ({aa u 0 4 with bL:=aT u 79 (u.iv 77)}:RS) ({aa u 0 4 with bL:=aT u 79 (u.iv 77)}:RS).eD (by decide) (by decide) (jq rfl rfl rfl rfl) ⟨o1,⟨od,Int.le_refl 0,.inr (by show (0:Int)+_≤_;rw [Int.zero_add];exact Int.le_refl _)⟩,o3⟩ (RS.ext' rfl rfl rfl rfl rfl rfl bA (xE rfl rfl fun i=>by simp [bR,aF,-Int.pred_toNat,Sub.ag,assoc,CV.I,CV.B,ah,ai,ae.I,ae.B,SC.I,SC.B,IE.den,BE.den]) rfl rfl rfl rfl bE rfl bB rfl rfl) (fun e hq hr=>⟨hq.1,by rw [←hr];exact hq.2⟩) (fun u=>(bK u 84)∧aa u 0 84=(aa u 0 4).gK) (fun e h1 h2=>⟨h1,h2.trans hm.symm⟩) fun u hu=>?_
   obtain ⟨⟨o1,o2,o3⟩,hm⟩:=hu
   exact Sat.fin ⟨⟨(by first | exact o1 | exact o2 | exact o3 | exact aj rfl rfl | assumption),(by first | exact o2 | exact ⟨aj rfl rfl,Int.le_refl 0,.inl rfl⟩ | assumption),(by first | exact o1 | exact o2 | exact o3 | exact aj rfl rfl | assumption)⟩,Eq.trans (b:=(aa u 0 84)) (RS.ext' rfl rfl rfl rfl rfl rfl bA bF rfl rfl rfl rfl bE rfl bB rfl rfl) (Eq.symm (hm.symm))⟩
 simp only [Da] at c5
 refine Sat.br (fun c4=>?_) (fun c4=>?_)
 ·simp only [Da] at c4
  have e0:(aa ρ 0 4).av=4:=c4
  obtain ⟨⟨w1,w2⟩,w3,w4⟩:=hw c4
  simp only [Nat.reduceAdd] at w1 w2 w3 w4
  refine Sat.iT (c:=jN) rfl ⟨o3,f1,by show -9223372036854775808≤ρ.iv 45;omega,by show ρ.iv 45≤9223372036854775807;omega⟩ (fun q=>(bK q 4)∧bG q 71∧(aa q 0 4).gK=({aa q 0 4 with bL:=aT q 74 (q.iv 72)}:RS).eD) (fun e hq=>?_) fun q hq=>?_
  ·replace hq:F5 (bf _ 8 71 ρ (ρ.join 71 e)):=hq
   obtain ⟨q1,q2⟩:=hq
   rw [show bG (bf _ 8 71 ρ (ρ.join 71 e)) 8=bG (ρ.join 71 e) 71 from mf (m:=8) 0] at q1
   rw [show aT (bf _ 8 71 ρ (ρ.join 71 e)) 11 ((bf _ 8 71 ρ (ρ.join 71 e)).iv 9)=aT (ρ.join 71 e) 74 ((ρ.join 71 e).iv 72) from rf (m:=8) 3 1] at q2
   refine ⟨⟨o1,o2,o3⟩,q1,AR (r:=aa ρ 0 4) ⟨by rw [e0];decide,by rw [e0];decide⟩ (q2.trans ?_)⟩
   refine congr (congrArg List.filter ?_) ?_
   ·funext n
    refine congrArg (fun b=>!b) ?_
    unfold RS.kept
    rw [if_neg (show ¬(aa ρ 0 4).av=2 by rw [e0];decide),if_neg (show ¬(aa ρ 0 4).av=3 by rw [e0];decide),if_neg (show ¬(aa ρ 0 4).av=5 by rw [e0];decide),if_pos e0]
    rfl
   ·exact fJ rfl fun i=>by simp [bR,aF,bf,-Int.pred_toNat,Sub.ag,assoc,CV.I,CV.B,ah,ai,ae.I,ae.B,SC.I,SC.B,IE.den,BE.den]
  obtain ⟨⟨o1,o2,o3⟩,od,hm⟩:=hq
  refine eB (c:=fZ) rfl ({aa q 0 4 with bL:=aT q 74 (q.iv 72)}:RS) ({aa q 0 4 with bL:=aT q 74 (q.iv 72)}:RS).eD (by decide) (by decide) (jq rfl rfl rfl rfl) ⟨o1,⟨od,Int.le_refl 0,.inr (by show (0:Int)+_≤_;rw [Int.zero_add];exact Int.le_refl _)⟩,o3⟩ (RS.ext' rfl rfl rfl rfl rfl rfl bA (xE rfl rfl fun i=>by simp [bR,aF,-Int.pred_toNat,Sub.ag,assoc,CV.I,CV.B,ah,ai,ae.I,ae.B,SC.I,SC.B,IE.den,BE.den]) rfl rfl rfl rfl bE rfl bB rfl rfl) (fun e hq hr=>⟨hq.1,by rw [←hr];exact hq.2⟩) (fun u=>(bK u 79)∧aa u 0 79=(aa u 0 4).gK) (fun e h1 h2=>⟨h1,h2.trans hm.symm⟩) fun u hu=>?_
  obtain ⟨⟨o1,o2,o3⟩,hm⟩:=hu
  exact Sat.fin ⟨⟨(by first | exact o1 | exact o2 | exact o3 | exact aj rfl rfl | assumption),(by first | exact o2 | exact ⟨aj rfl rfl,Int.le_refl 0,.inl rfl⟩ | assumption),(by first | exact o1 | exact o2 | exact o3 | exact aj rfl rfl | assumption)⟩,Eq.trans (b:=(aa u 0 79)) (RS.ext' rfl rfl rfl rfl rfl rfl bA bF rfl rfl rfl rfl bE rfl bB rfl rfl) (Eq.symm (hm.symm))⟩
 ·simp only [Da] at c4
  have hm:(aa ρ 0 4).gK=(aa ρ 0 4).eD:=by
   unfold RS.gK
   rw [if_neg (show ¬(2≤(aa ρ 0 4).av∧(aa ρ 0 4).av≤5) by show ¬(2≤ρ.iv 0∧ρ.iv 0≤5);omega)]
  refine eB (c:=fZ) rfl (aa ρ 0 4) (aa ρ 0 4).eD (by decide) (by decide) (jq rfl rfl rfl rfl) ⟨o1,o2,o3⟩ (RS.ext' rfl rfl rfl rfl rfl rfl bA bF rfl rfl rfl rfl bE rfl bB rfl rfl) (fun e hq hr=>⟨hq.1,by rw [←hr];exact hq.2⟩) (fun u=>(bK u 71)∧aa u 0 71=(aa u 0 4).gK) (fun e h1 h2=>⟨h1,h2.trans hm.symm⟩) fun u hu=>?_
  obtain ⟨⟨o1,o2,o3⟩,hm⟩:=hu
  exact Sat.fin ⟨⟨(by first | exact o1 | exact o2 | exact o3 | exact aj rfl rfl | assumption),(by first | exact o2 | exact ⟨aj rfl rfl,Int.le_refl 0,.inl rfl⟩ | assumption),(by first | exact o1 | exact o2 | exact o3 | exact aj rfl rfl | assumption)⟩,Eq.trans (b:=(aa u 0 71)) (RS.ext' rfl rfl rfl rfl rfl rfl bA bF rfl rfl rfl rfl bE rfl bB rfl rfl) (Eq.symm (hm.symm))⟩
theorem Uf:aV Tryz.prog jG rP CK :=
 cK dF (E:=VL) (cs:=AQ) rfl OE bO rfl Ud (by kernel_rfl) (fun ρ _ p hp=>by cases hp) Ue
end Go.Proofs.YthomdlajobnmnaaGreatDoor
