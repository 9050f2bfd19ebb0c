/- part 14 of the proof -/
import Derived.Test.YthomdlajobnmnaaGreatDoorX13
set_option linter.unusedSimpArgs false
set_option linter.unusedVariables false
namespace Go.Proofs.YthomdlajobnmnaaGreatDoor
open Go.Rex
section
variable {σ:Sub} {ρ q:Env} {m d:Nat}
theorem sD (k j:Nat):aT (bf σ m d ρ q) (m+k) ((bf σ m d ρ q).iv (m+j))=aT q (d+k) (q.iv (d+j)):=by
 unfold aT
 rw [Kb,rD]
end
theorem SY {ρ ρ':Env} {r r':Nat} {n n':Int} (hn:n=n') (h:∀i,ρ.ic r i 0 0=ρ'.ic r' i 0 0):pY ρ r n=pY ρ' r' n':=by
 subst hn
 unfold pY
 congr 1
 funext i
 exact h i
theorem G5 {ρ ρ':Env} {r r':Nat} {n n':Int} (hn:n=n') (h:∀i,lG ρ r i=lG ρ' r' i):iB ρ r n=iB ρ' r' n':=by
 subst hn
 unfold iB
 congr 1
 funext i
 exact h i
theorem S9 {ρ ρ':Env} {r r':Nat} {n n':Int} {w:Int} (h0:0≤n) (hn:n'=n+1) (h:∀i:Nat,(i:Int)<n→ρ'.ic r' i 0 0=ρ.ic r i 0 0) (hw:ρ'.ic r' n.toNat 0 0=w) :
  pY ρ' r' n'=pY ρ r n ++ [w]:=by
 subst hn hw
 unfold pY
 rw [show (n+1).toNat=n.toNat+1 by omega,List.range_succ,List.map_append]
 congr 1
 exact List.map_congr_left fun i hi=>h i (by have:=List.mem_range.1 hi;omega)
theorem zu {ρ ρ':Env} {r r':Nat} {o n n':Int} (ho:o=0) (hn:n=n') (h:∀i,bN ρ r i=bN ρ' r' i):gX ρ r o n=aT ρ' r' n':=by
 subst ho
 rw [R9]
 exact gp hn h
theorem sF {ρ ρ':Env} {r r':Nat} {n n':Int} {w:Sp} (h0:0≤n) (hn:n'=n+1) (h:∀i:Nat,(i:Int)<n→lG ρ' r' i=lG ρ r i) (hw:lG ρ' r' n.toNat=w) :
  iB ρ' r' n'=iB ρ r n ++ [w]:=by
 subst hn hw
 unfold iB
 rw [show (n+1).toNat=n.toNat+1 by omega,List.range_succ,List.map_append]
 congr 1
 exact List.map_congr_left fun i hi=>h i (by have:=List.mem_range.1 hi;omega)
theorem p8 {ρ:Env} {r:Nat} {n:Int} {i:Nat} (h:(i:Int)<n):(dJ ρ r n).take (i+1)=(dJ ρ r n).take i ++ [aO (ρ.ic r i 0) (ρ.bc r i 0)]:=by
 have hl:i<(dJ ρ r n).length:=by rw [vo];omega
 rw [List.take_succ_eq_append_getElem hl]
 simp [dJ]
theorem zw {ρ:Env} {r:Nat} {n:Int} {i:Nat} (h:n≤i):(dJ ρ r n).take i=dJ ρ r n:=List.take_of_length_le (by rw [vo];omega)
def Dg:mO:=[(lW,Sv.mY,NA),(nK,Sv.oW,SN),(lX,Sv.mZ,NB),(ky,Sv.lM,I6),(gP,Nn,zi)]
theorem Ta:∀k pre post,(k,pre,post)∈Dg→ku k=true∧bg Tryz.prog k pre post:=by
 intro k pre post h
 simp only [Dg,List.mem_cons,List.not_mem_nil,or_false,Prod.mk.injEq] at h
 rcases h with ⟨rfl,rfl,rfl⟩ | ⟨rfl,rfl,rfl⟩ | ⟨rfl,rfl,rfl⟩ | ⟨rfl,rfl,rfl⟩ | ⟨rfl,rfl,rfl⟩
 ·exact ⟨by kernel_rfl,SQ⟩
 ·exact ⟨by kernel_rfl,VI⟩
 ·exact ⟨by kernel_rfl,SS⟩
 ·exact ⟨by kernel_rfl,O9⟩
 ·exact ⟨by kernel_rfl,Np⟩
noncomputable def aan:Ex:={sched:=sched,loops:=[af1,Vd],cons:=[lW,nK,lX,ky,gP],fin:=jZ}
abbrev aeu:List (Nat × IE):=yo [(70,yv 72)]<|yr 65 65 7<|yo [(57,yv 57),(56,yv 56)]<|yr 3 3 4<|yo [(53,yv 73),(52,yv 72),yz 69,(50,yv 50),(49,yv 49),(47,yv 47)]<|yr 45 45 4<|yr 40 40 4<|yr 35 35 4<|yr 30 30 13<|yr 16 16 4<|yr 11 11 8 []
abbrev aev:List (Nat × BE):=[(67,yw 67),(66,yw 66),(58,yw 58),(55,yw 55),(51,yw 71),(48,yw 48),(46,yw 46),(41,yw 41),(36,yw 36),(31,yw 31),(17,yw 17),(12,yw 12)]
abbrev aew:List (Nat × CV):=[(70,yu 70 59 7 yN 0),(69,yu 74 72 7 yN 0),(68,yu 68 49 5 yW 0),(54,yl 54 9 5 50 yW 0)]
abbrev aex:List (Nat × IE):=yo [(137,yv 145)]<|yr 132 140 7<|yo [(124,yv 132),(123,yv 131),(120,yv 128),(119,yv 127),(136,yv 144),(117,yv 125),(116,yv 124),(114,yv 122)]<|yr 112 120 4<|yr 107 115 4<|yr 102 110 4<|yr 97 105 13<|yr 83 91 4<|yr 78 86 8 []
abbrev aey:List (Nat × BE):=[(134,yw 142),(133,yw 141),(125,yw 133),(122,yw 130),(118,yw 126),(115,yw 123),(113,yw 121),(108,yw 116),(103,yw 111),(98,yw 106),(84,yw 92),(79,yw 87)]
abbrev aez:List (Nat × CV):=[(137,yu 145 134 7 yN 0),(136,yu 144 145 7 yN 0),(135,yu 143 124 5 yW 0),(121,yl 129 9 5 50 yW 0)]
abbrev YU:List (Nat × IE):=[(75,.add (.var 75) y1),(73,yv 76),(72,.add (.var 72) y1)]
abbrev aeA:List (Nat × IE):=yo [(70,yv 77)]<|yr 65 65 7<|yo [(57,yv 57),(56,yv 56)]<|yr 3 3 4<|yo [(53,yv 78),(52,yv 77),yz 69,(50,yv 50),(49,yv 49),(47,yv 47)]<|yr 45 45 4<|yr 40 40 4<|yr 35 35 4<|yr 30 30 13<|yr 16 16 4<|yr 11 11 8 []
abbrev aeB:List (Nat × BE):=[(67,yw 67),(66,yw 66),(58,yw 58),(55,yw 55),(51,yw 76),(48,yw 48),(46,yw 46),(41,yw 41),(36,yw 36),(31,yw 31),(17,yw 17),(12,yw 12)]
abbrev aeC:List (Nat × CV):=[(70,yu 70 59 7 yN 0),(69,yu 79 77 7 yN 0),(68,yu 68 49 5 yW 0),(54,yl 54 9 5 50 yW 0)]
abbrev aeD:List (Nat × IE):=yo [(137,yv 150)]<|yr 132 145 7<|yo [(124,yv 137),(123,yv 136),(120,yv 133),(119,yv 132),(136,yv 149),(117,yv 130),(116,yv 129),(114,yv 127)]<|yr 112 125 4<|yr 107 120 4<|yr 102 115 4<|yr 97 110 13<|yr 83 96 4<|yr 78 91 8 []
abbrev aeE:List (Nat × BE):=[(134,yw 147),(133,yw 146),(125,yw 138),(122,yw 135),(118,yw 131),(115,yw 128),(113,yw 126),(108,yw 121),(103,yw 116),(98,yw 111),(84,yw 97),(79,yw 92)]
abbrev aeF:List (Nat × CV):=[(137,yu 150 139 7 yN 0),(136,yu 149 150 7 yN 0),(135,yu 148 129 5 yW 0),(121,yl 134 9 5 50 yW 0)]
def I7:Out :=
 .br (.aA (.var 0) (.lit 2))
 (.call 0 {lo:=0,ah:=0,iv:=[(6,yv 50),(5,yv 49),(2,yv 60),(1,yv 59)],bv:=[(4,yw 48),(0,yw 58)],ct:=[(7,yu 68 49 5 yW 0),(3,yu 70 59 7 yN 0)],bk:=[(1,yc 1 5),(0,yc 3 7)]} 71 <|
  .call 4 {lo:=0,ah:=0,iv:=aeu,bv:=aev,ct:=aew,bk:=[(3,yc 3 7),(2,yc 4 7),(1,yc 1 5),(0,yb 0)]} 79 <|
  .fin {lo:=71,ah:=4,iv:=aex,bv:=aey,ct:=aez,bk:=[(6,yc 8 7),(5,yc 7 7),(4,yc 6 5)]})
 (.br (.aA (.var 0) (.lit 3))
  (.ob (.or (.not (.var 48)) (.aA (.var 49) y0)) <|
   .ob (.ai y0 (.var 49)) <|
   .loop 71 {lo:=71,ah:=4,iv:=[yz 75,yz 73,yz 72],bv:=[(71,.lit true)],nb:=[4]} <|
   .br (.bO (.var 75) (.var 49))
   (.ob (.not (.var 48)) <|
    .ob (.ai y0 (.var 75)) <|
    .ob (.ai (.mul (.add (.var 72) y1) (.lit 8)) (.lit 140737488355328)) <|
    .ob (.ai y0 (.var 72)) <|
    .ob (.ai (.var 72) (.var 73)) <|
    .ob (.ai (.var 73) (.lit 9223372036854775807)) <|
    .ob (.or (.not (.var 71)) (.aA (.var 72) y0)) <|
    .new 76 [.be (.and (.ai (.add (.var 72) y1) (.var 76)) (.ai (.var 76) (.lit 9223372036854775807)))] <|
    .ob (.inr .i64 (.add (.var 75) y1)) <|
    .back 0 {lo:=71,ah:=4,iv:=YU,bv:=[(71,.lit false)],ct:=[(74,.up {r:=74,n1:=.add (.var 72) y1,s1:=1,ks:=yI} 0 [⟨0,(.var 72),y0,0,.int .i64 (.cell 68 (.var 75) y0 3)⟩] y0)],bk:=[(4,yc 7 1)]})
   (.call 1 {lo:=0,ah:=0,iv:=[(6,yv 73),(5,yv 72),(2,yv 60),(1,yv 59)],bv:=[(4,yw 71),(0,yw 58)],ct:=[(7,yu 74 72 1 yI 0),(3,yu 70 59 7 yN 0)],bk:=[(1,yc 4 1),(0,yc 3 7)]} 76 <|
    .call 4 {lo:=0,ah:=0,iv:=aeA,bv:=aeB,ct:=aeC,bk:=[(3,yc 3 7),(2,yc 5 7),(1,yc 1 5),(0,yb 0)]} 84 <|
    .fin {lo:=71,ah:=4,iv:=aeD,bv:=aeE,ct:=aeF,bk:=[(6,yc 9 7),(5,yc 8 7),(4,yc 7 5)]}))
  (.br (.aA (.var 0) (.lit 5))
   (.ob (.or (.not (.var 48)) (.aA (.var 49) y0)) <|
    .ob (.ai y0 (.var 49)) <|
    .loop 71 {lo:=71,ah:=4,iv:=[yz 75,yz 73,yz 72],bv:=[(71,.lit true)],nb:=[4]} <|
    .br (.bO (.var 75) (.var 49))
    (.ob (.not (.var 48)) <|
     .ob (.ai y0 (.var 75)) <|
     .br (.not (.cell 68 (.var 75) y0 4))
     (.ob (.ai (.mul (.add (.var 72) y1) (.lit 24)) (.lit 140737488355328)) <|
      .ob (.ai y0 (.var 72)) <|
      .ob (.ai (.var 72) (.var 73)) <|
      .ob (.ai (.var 73) (.lit 9223372036854775807)) <|
      .ob (.or (.not (.var 71)) (.aA (.var 72) y0)) <|
      .new 76 [.be (.and (.ai (.add (.var 72) y1) (.var 76)) (.ai (.var 76) (.lit 9223372036854775807)))] <|
      .ob (.inr .i64 (.add (.var 75) y1)) <|
      .back 0 {lo:=71,ah:=4,iv:=YU,bv:=[(71,.lit false)],ct:=[(74,.up {r:=74,n1:=.add (.var 72) y1,s1:=3,ks:=[.bool,.int .i64,.int .i64]} 0 [⟨0,(.var 72),y0,0,.bool (.lit false)⟩,⟨0,(.var 72),y0,1,.int .i64 y0⟩,⟨0,(.var 72),y0,2,.int .i64 y0⟩] y0)],bk:=[(4,yc 9 3)]})
     (.ob (.ai (.mul (.add (.var 72) y1) (.lit 24)) (.lit 140737488355328)) <|
      .ob (.ai y0 (.var 72)) <|
      .ob (.ai (.var 72) (.var 73)) <|
      .ob (.ai (.var 73) (.lit 9223372036854775807)) <|
      .ob (.or (.not (.var 71)) (.aA (.var 72) y0)) <|
      .new 76 [.be (.and (.ai (.add (.var 72) y1) (.var 76)) (.ai (.var 76) (.lit 9223372036854775807)))] <|
      .ob (.inr .i64 (.add (.var 75) y1)) <|
      .back 0 {lo:=71,ah:=4,iv:=YU,bv:=[(71,.lit false)],ct:=[(74,.up {r:=74,n1:=.add (.var 72) y1,s1:=3,ks:=[.bool,.int .i64,.int .i64]} 0 [⟨0,(.var 72),y0,0,.bool (.lit true)⟩,⟨0,(.var 72),y0,1,.int .i64 (.cell 68 (.var 75) y0 3)⟩,⟨0,(.var 72),y0,2,.int .i64 (.cell 68 (.var 75) y0 2)⟩] y0)],bk:=[(4,yc 9 3)]}))
    (.call 2 {lo:=0,ah:=0,iv:=[(6,yv 73),(5,yv 72),(2,yv 60),(1,yv 59)],bv:=[(4,yw 71),(0,yw 58)],ct:=[(7,.up {r:=74,n1:=.var 72,s1:=3,ks:=[.bool,.int .i64,.int .i64]} 0 [] y0),(3,yu 70 59 7 yN 0)],bk:=[(1,yc 4 3),(0,yc 3 7)]} 76 <|
     .call 4 {lo:=0,ah:=0,iv:=aeA,bv:=aeB,ct:=aeC,bk:=[(3,yc 3 7),(2,yc 5 7),(1,yc 1 5),(0,yb 0)]} 84 <|
     .fin {lo:=71,ah:=4,iv:=aeD,bv:=aeE,ct:=aeF,bk:=[(6,yc 9 7),(5,yc 8 7),(4,yc 7 5)]}))
   (.br (.aA (.var 0) (.lit 4))
    (.call 3 {lo:=0,ah:=0,iv:=[(4,yv 45),(2,yv 60),(1,yv 59)],bv:=[(0,yw 58)],ct:=[(3,yu 70 59 7 yN 0)],bk:=[(0,yc 3 7)]} 71 <|
     .call 4 {lo:=0,ah:=0,iv:=aeu,bv:=aev,ct:=aew,bk:=[(3,yc 3 7),(2,yc 4 7),(1,yc 1 5),(0,yb 0)]} 79 <|
     .fin {lo:=71,ah:=4,iv:=aex,bv:=aey,ct:=aez,bk:=[(6,yc 8 7),(5,yc 7 7),(4,yc 6 5)]})
    (.call 4 {lo:=0,ah:=0,iv:=yo [(70,yv 70)]<|yr 65 65 7<|yo [(57,yv 57),(56,yv 56)]<|yr 3 3 4<|yo [(53,yv 53),(52,yv 52),(69,yv 69),(50,yv 50),(49,yv 49),(47,yv 47)]<|yr 45 45 4<|yr 40 40 4<|yr 35 35 4<|yr 30 30 13<|yr 16 16 4<|yr 11 11 8 [],bv:=[(67,yw 67),(66,yw 66),(58,yw 58),(55,yw 55),(51,yw 51),(48,yw 48),(46,yw 46),(41,yw 41),(36,yw 36),(31,yw 31),(17,yw 17),(12,yw 12)],ct:=[(70,yu 70 59 7 yN 0),(69,yu 69 70 7 yN 0),(68,yu 68 49 5 yW 0),(54,yl 54 9 5 50 yW 0)],bk:=[(3,yc 3 7),(2,yc 2 7),(1,yc 1 5),(0,yb 0)]} 71 <|
     .fin {lo:=71,ah:=4,iv:=yo [(137,yv 137)]<|yr 132 132 7<|yo [(124,yv 124),(123,yv 123),(120,yv 120),(119,yv 119),(136,yv 136),(117,yv 117),(116,yv 116),(114,yv 114)]<|yr 112 112 4<|yr 107 107 4<|yr 102 102 4<|yr 97 97 13<|yr 83 83 4<|yr 78 78 8 [],bv:=[(134,yw 134),(133,yw 133),(125,yw 125),(122,yw 122),(118,yw 118),(115,yw 115),(113,yw 113),(108,yw 108),(103,yw 103),(98,yw 98),(84,yw 84),(79,yw 79)],ct:=[(137,yu 137 126 7 yN 0),(136,yu 136 137 7 yN 0),(135,yu 135 116 5 yW 0),(121,yl 121 9 5 50 yW 0)],bk:=[(6,yc 6 7),(5,yc 5 7),(4,yc 4 5)]}))))
theorem YV:exec tab aan 8000 [] (fE jZ.f jZ.nv [] jZ.gl jZ.hp jZ.args)=I7:=by kernel_rfl
def sZ (ρ:Env):Prop:=bH ρ 4∧(ρ.iv 59≤1000000∧(ρ.iv 0=4∨ρ.iv 49≤100000))∧(ρ.iv 0=4→GZ ρ 42)
def EO (ρ:Env):Prop:=bH ρ 71∧aa ρ 0 71=(aa ρ 0 4).gM
theorem Dh {r:RS} (h:2≤r.af∧r.af≤5) {l:List Nt} (hl:l=r.notes.filter fun n=>!r.kept n):r.gM=({r with bD:=l}:RS).dz:=by
 subst hl
 unfold RS.gM
 rw [if_pos h]
def Tc (ρ:Env):Prop:=(sZ ρ∧ρ.iv 0=3)∧(0≤ρ.iv 75∧ρ.iv 75≤ρ.iv 49)∧(bz ρ 71∧ρ.iv 72=ρ.iv 75)∧pY ρ 74 (ρ.iv 72)=((dJ ρ 68 (ρ.iv 49)).take (ρ.iv 75).toNat).map Wd.num
def K3 (ρ:Env):Prop:=(sZ ρ∧ρ.iv 0=5)∧(0≤ρ.iv 75∧ρ.iv 75≤ρ.iv 49)∧(bz ρ 71∧ρ.iv 72=ρ.iv 75)∧iB ρ 74 (ρ.iv 72)=((dJ ρ 68 (ρ.iv 49)).take (ρ.iv 75).toNat).map RS.kR
set_option maxHeartbeats 4000000 in
theorem YW (ρ:Env) (hpre:sZ ρ.num):Sat EO Dg [] ρ I7:=by
 replace hpre:sZ ρ:=hpre
 have hpre':=hpre
 obtain ⟨⟨o1,o2,o3⟩,⟨f1,f2⟩,hw⟩:=hpre
 unfold I7
 refine Sat.br (fun c=>?_) (fun c=>?_)
 ·simp only [Da] at c
  have e0:(aa ρ 0 4).af=2:=c
  refine Sat.jk (c:=lW) rfl ⟨o3,f1,o1,by show ρ.iv 49≤1000000;omega⟩ (fun q=>(bH q 4)∧bz q 71∧(aa q 0 4).gM=({aa q 0 4 with bD:=aT q 74 (q.iv 72)}:RS).dz) (fun e hq=>?_) fun q hq=>?_
  ·replace hq:NA (bf _ 8 71 ρ (ρ.join 71 e)):=hq
   obtain ⟨q1,q2⟩:=hq
   rw [show bz (bf _ 8 71 ρ (ρ.join 71 e)) 8=bz (ρ.join 71 e) 71 from mX (m:=8) 0] at q1
   rw [show aT (bf _ 8 71 ρ (ρ.join 71 e)) 11 ((bf _ 8 71 ρ (ρ.join 71 e)).iv 9)=aT (ρ.join 71 e) 74 ((ρ.join 71 e).iv 72) from sD (m:=8) 3 1] at q2
   refine ⟨⟨o1,o2,o3⟩,q1,Dh (r:=aa ρ 0 4) ⟨by rw [e0];decide,by rw [e0];decide⟩ (q2.trans ?_)⟩
   refine congr (congrArg List.filter ?_) ?_
   ·funext n
    refine congrArg (fun b=>!b) ?_
    unfold RS.kept
    rw [if_pos e0]
    refine congrArg (fun l:List Wd=>l.any fun w=>RS.yS w n) ?_
    exact GR rfl fun i=>by simp [aO,bf,-Int.pred_toNat,Sub.ag,assoc,CV.I,CV.B,aj,ak,ae.I,ae.B,SC.I,SC.B,IE.den,BE.den]
   ·exact gp rfl fun i=>by simp [bN,aO,bf,-Int.pred_toNat,Sub.ag,assoc,CV.I,CV.B,aj,ak,ae.I,ae.B,SC.I,SC.B,IE.den,BE.den]
  obtain ⟨⟨o1,o2,o3⟩,od,hm⟩:=hq
  refine eU (c:=gP) rfl ({aa q 0 4 with bD:=aT q 74 (q.iv 72)}:RS) ({aa q 0 4 with bD:=aT q 74 (q.iv 72)}:RS).dz (by decide) (by decide) (jQ rfl rfl rfl rfl) ⟨o1,⟨od,Int.le_refl 0,.inr (by show (0:Int)+_≤_;rw [Int.zero_add];exact Int.le_refl _)⟩,o3⟩ (RS.ext' rfl rfl rfl rfl rfl rfl vk (zu rfl rfl fun i=>by simp [bN,aO,-Int.pred_toNat,Sub.ag,assoc,CV.I,CV.B,aj,ak,ae.I,ae.B,SC.I,SC.B,IE.den,BE.den]) rfl rfl rfl rfl DN rfl zX rfl rfl) (fun e hq hr=>⟨hq.1,by rw [←hr];exact hq.2⟩) (fun u=>(bH u 79)∧aa u 0 79=(aa u 0 4).gM) (fun e h1 h2=>⟨h1,h2.trans hm.symm⟩) fun u hu=>?_
  obtain ⟨⟨o1,o2,o3⟩,hm⟩:=hu
  exact Sat.fin ⟨cu,Eq.trans (b:=(aa u 0 79)) aF (Eq.symm hm.symm)⟩
 simp only [Da] at c
 refine Sat.br (fun c3=>?_) (fun c3=>?_)
 ·simp only [Da] at c3
  refine Sat.ob (df o1) (Sat.ob (decide_eq_true o1.2.1) (Sat.zb Tc (fun r=>(r.iv 49-r.iv 75).toNat) (fun _=>True) ⟨⟨hpre',c3⟩,⟨Int.le_refl 0,o1.2.1⟩,⟨qQ rfl rfl,rfl⟩,rfl⟩ (fun _=>trivial) fun q _ hI=>?_))
  replace hI:Tc q:=hI
  have hI':=hI
  obtain ⟨⟨hpre',he⟩,⟨i1,i2⟩,⟨os,hl⟩,hrow⟩:=hI
  have hpre:=hpre'
  obtain ⟨⟨o1,o2,o3⟩,⟨f1,f2⟩,hw⟩:=hpre
  refine Sat.br (fun c=>?_) (fun c=>?_)
  ·simp only [Da] at c
   refine Sat.ob (ve o1 (by simp only [Nat.reduceAdd];omega)) (Sat.ob (decide_eq_true i1) ?_)
   obtain ⟨p1,p2,p3,p4⟩:=id os
   refine Sat.ob (by simp only [Da];omega) (Sat.ob (decide_eq_true p2) (Sat.ob (decide_eq_true p3) (Sat.ob (decide_eq_true p4) (Sat.ob (df os) (Sat.BF (fun u=>Tc u∧u.iv 75<u.iv 49∧(u.iv 49-(u.iv 75+1)).toNat<(q.iv 49-q.iv 75).toNat) (fun e=>⟨hI',c,by show (q.iv 49-(q.iv 75+1)).toNat<(q.iv 49-q.iv 75).toNat;omega⟩) fun u hu hb=>?_)))))
   obtain ⟨⟨⟨hpre',he⟩,⟨i1,i2⟩,⟨os,hl⟩,hrow⟩,c,hd⟩:=hu
   simp only [Da] at hb
   obtain ⟨p1,p2,p3,p4⟩:=id os
   replace p2:0≤u.iv 72:=p2
   have hf2:=hpre'.2.1.2
   refine Sat.ob (by simp only [Da];omega) (Sat.back rfl ⟨⟨⟨hpre',he⟩,⟨?_,?_⟩,⟨⟨fun h=>(by cases h),?_,hb.1,hb.2⟩,?_⟩,?_⟩,hd⟩)
   ·show 0≤u.iv 75+1;omega
   ·show u.iv 75+1≤u.iv 49;omega
   ·show 0≤u.iv 72+1;omega
   ·show u.iv 72+1=u.iv 75+1;omega
   ·refine (S9 (ρ:=u) (r:=74) (n:=u.iv 72) (w:=Wd.num (aO (u.ic 68 (u.iv 75).toNat 0) (u.bc 68 (u.iv 75).toNat 0))) p2 rfl (fun i hi=>?_) ?_).trans ?_
    ·have hn:¬(u.iv 72).toNat=i:=fun h=>by omega
     simp [lG,aO,-Int.pred_toNat,Sub.ag,assoc,CV.I,CV.B,aj,ak,ae.I,ae.B,SC.I,SC.B,IE.den,BE.den,hn]
    ·simp [aO,-Int.pred_toNat,Sub.ag,assoc,CV.I,CV.B,aj,ak,ae.I,ae.B,SC.I,SC.B,IE.den,BE.den,hl]
    ·show pY u 74 (u.iv 72) ++ _=((dJ u 68 (u.iv 49)).take (u.iv 75+1).toNat).map Wd.num
     rw [hrow,show (u.iv 75+1).toNat=(u.iv 75).toNat+1 by omega,p8 (by omega),List.map_append]
     rfl
  ·simp only [Da] at c
   have e0:(aa q 0 4).af=3:=he
   rw [zw (by omega)] at hrow
   refine Sat.jk (c:=nK) rfl ⟨o3,f1,os,by show q.iv 72≤1000000;omega⟩ (fun u=>(bH u 4)∧bz u 76∧(aa u 0 4).gM=({aa u 0 4 with bD:=aT u 79 (u.iv 77)}:RS).dz) (fun e hq=>?_) fun u hu=>?_
   ·replace hq:SN (bf _ 8 76 q (q.join 76 e)):=hq
    obtain ⟨q1,q2⟩:=hq
    rw [show bz (bf _ 8 76 q (q.join 76 e)) 8=bz (q.join 76 e) 76 from mX (m:=8) 0] at q1
    rw [show aT (bf _ 8 76 q (q.join 76 e)) 11 ((bf _ 8 76 q (q.join 76 e)).iv 9)=aT (q.join 76 e) 79 ((q.join 76 e).iv 77) from sD (m:=8) 3 1] at q2
    refine ⟨⟨o1,o2,o3⟩,q1,Dh (r:=aa q 0 4) ⟨by rw [e0];decide,by rw [e0];decide⟩ (q2.trans ?_)⟩
    refine congr (congrArg List.filter ?_) ?_
    ·funext n
     refine congrArg (fun b=>!b) ?_
     unfold RS.kept
     rw [if_neg (show ¬(aa q 0 4).af=2 by rw [e0];decide),if_pos e0]
     refine (congrArg (fun l:List Int=>l.any fun e=>RS.xm e n) (Eq.trans (b:=pY q 74 (q.iv 72)) (SY rfl fun i=>by simp [bf,-Int.pred_toNat,Sub.ag,assoc,CV.I,CV.B,aj,ak,ae.I,ae.B,SC.I,SC.B,IE.den,BE.den]) hrow)).trans ?_
     rw [List.any_map]
     rfl
    ·exact gp rfl fun i=>by simp [bN,aO,bf,-Int.pred_toNat,Sub.ag,assoc,CV.I,CV.B,aj,ak,ae.I,ae.B,SC.I,SC.B,IE.den,BE.den]
   obtain ⟨⟨o1,o2,o3⟩,od,hm⟩:=hu
   refine eU (c:=gP) rfl ({aa u 0 4 with bD:=aT u 79 (u.iv 77)}:RS) ({aa u 0 4 with bD:=aT u 79 (u.iv 77)}:RS).dz (by decide) (by decide) (jQ rfl rfl rfl rfl) ⟨o1,⟨od,Int.le_refl 0,.inr (by show (0:Int)+_≤_;rw [Int.zero_add];exact Int.le_refl _)⟩,o3⟩ (RS.ext' rfl rfl rfl rfl rfl rfl vk (zu rfl rfl fun i=>by simp [bN,aO,-Int.pred_toNat,Sub.ag,assoc,CV.I,CV.B,aj,ak,ae.I,ae.B,SC.I,SC.B,IE.den,BE.den]) rfl rfl rfl rfl DN rfl zX rfl rfl) (fun e hq hr=>⟨hq.1,by rw [←hr];exact hq.2⟩) (fun u=>(bH u 84)∧aa u 0 84=(aa u 0 4).gM) (fun e h1 h2=>⟨h1,h2.trans hm.symm⟩) fun u hu=>?_
   obtain ⟨⟨o1,o2,o3⟩,hm⟩:=hu
   exact Sat.fin ⟨cu,Eq.trans (b:=(aa u 0 84)) aF (Eq.symm hm.symm)⟩
 simp only [Da] at c3
 refine Sat.br (fun c5=>?_) (fun c5=>?_)
 ·simp only [Da] at c5
  refine Sat.ob (df o1) (Sat.ob (decide_eq_true o1.2.1) (Sat.zb K3 (fun r=>(r.iv 49-r.iv 75).toNat) (fun _=>True) ⟨⟨hpre',c5⟩,⟨Int.le_refl 0,o1.2.1⟩,⟨qQ rfl rfl,rfl⟩,rfl⟩ (fun _=>trivial) fun q _ hI=>?_))
  replace hI:K3 q:=hI
  have hI':=hI
  obtain ⟨⟨hpre',he⟩,⟨i1,i2⟩,⟨os,hl⟩,hrow⟩:=hI
  have hpre:=hpre'
  obtain ⟨⟨o1,o2,o3⟩,⟨f1,f2⟩,hw⟩:=hpre
  refine Sat.br (fun c=>?_) (fun c=>?_)
  ·simp only [Da] at c
   refine Sat.ob (ve o1 (by simp only [Nat.reduceAdd];omega)) (Sat.ob (decide_eq_true i1) ?_)
   obtain ⟨p1,p2,p3,p4⟩:=id os
   refine Sat.br (fun c2=>?_) (fun c2=>?_)
   ·simp only [Da] at c2
    refine Sat.ob (by simp only [Da];omega) (Sat.ob (decide_eq_true p2) (Sat.ob (decide_eq_true p3) (Sat.ob (decide_eq_true p4) (Sat.ob (df os) (Sat.BF (fun u=>K3 u∧u.iv 75<u.iv 49∧(u.iv 49-(u.iv 75+1)).toNat<(q.iv 49-q.iv 75).toNat∧u.bc 68 (u.iv 75).toNat 0 4=false) (fun e=>⟨hI',c,by show (q.iv 49-(q.iv 75+1)).toNat<(q.iv 49-q.iv 75).toNat;omega,c2⟩) fun u hu hb=>?_)))))
    obtain ⟨⟨⟨hpre',he⟩,⟨i1,i2⟩,⟨os,hl⟩,hrow⟩,c,hd,hc⟩:=hu
    simp only [Da] at hb
    obtain ⟨p1,p2,p3,p4⟩:=id os
    replace p2:0≤u.iv 72:=p2
    have hf2:=hpre'.2.1.2
    refine Sat.ob (by simp only [Da];omega) (Sat.back rfl ⟨⟨⟨hpre',he⟩,⟨?_,?_⟩,⟨⟨fun h=>(by cases h),?_,hb.1,hb.2⟩,?_⟩,?_⟩,hd⟩)
    ·show 0≤u.iv 75+1;omega
    ·show u.iv 75+1≤u.iv 49;omega
    ·show 0≤u.iv 72+1;omega
    ·show u.iv 72+1=u.iv 75+1;omega
    ·refine (sF (ρ:=u) (r:=74) (n:=u.iv 72) (w:=RS.kR (aO (u.ic 68 (u.iv 75).toNat 0) (u.bc 68 (u.iv 75).toNat 0))) p2 rfl (fun i hi=>?_) ?_).trans ?_
     ·have hn:¬(u.iv 72).toNat=i:=fun h=>by omega
      simp [lG,aO,-Int.pred_toNat,Sub.ag,assoc,CV.I,CV.B,aj,ak,ae.I,ae.B,SC.I,SC.B,IE.den,BE.den,hn]
     ·simp [lG,aO,RS.kR,Sp.zero,-Int.pred_toNat,Sub.ag,assoc,CV.I,CV.B,aj,ak,ae.I,ae.B,SC.I,SC.B,IE.den,BE.den,hl,hc]
     ·show iB u 74 (u.iv 72) ++ _=((dJ u 68 (u.iv 49)).take (u.iv 75+1).toNat).map RS.kR
      rw [hrow,show (u.iv 75+1).toNat=(u.iv 75).toNat+1 by omega,p8 (by omega),List.map_append]
      rfl
   ·simp only [Da] at c2
    refine Sat.ob (by simp only [Da];omega) (Sat.ob (decide_eq_true p2) (Sat.ob (decide_eq_true p3) (Sat.ob (decide_eq_true p4) (Sat.ob (df os) (Sat.BF (fun u=>K3 u∧u.iv 75<u.iv 49∧(u.iv 49-(u.iv 75+1)).toNat<(q.iv 49-q.iv 75).toNat∧u.bc 68 (u.iv 75).toNat 0 4=true) (fun e=>⟨hI',c,by show (q.iv 49-(q.iv 75+1)).toNat<(q.iv 49-q.iv 75).toNat;omega,c2⟩) fun u hu hb=>?_)))))
    obtain ⟨⟨⟨hpre',he⟩,⟨i1,i2⟩,⟨os,hl⟩,hrow⟩,c,hd,hc⟩:=hu
    simp only [Da] at hb
    obtain ⟨p1,p2,p3,p4⟩:=id os
    replace p2:0≤u.iv 72:=p2
    have hf2:=hpre'.2.1.2
    refine Sat.ob (by simp only [Da];omega) (Sat.back rfl ⟨⟨⟨hpre',he⟩,⟨?_,?_⟩,⟨⟨fun h=>(by cases h),?_,hb.1,hb.2⟩,?_⟩,?_⟩,hd⟩)
    ·show 0≤u.iv 75+1;omega
    ·show u.iv 75+1≤u.iv 49;omega
    ·show 0≤u.iv 72+1;omega
    ·show u.iv 72+1=u.iv 75+1;omega
    ·refine (sF (ρ:=u) (r:=74) (n:=u.iv 72) (w:=RS.kR (aO (u.ic 68 (u.iv 75).toNat 0) (u.bc 68 (u.iv 75).toNat 0))) p2 rfl (fun i hi=>?_) ?_).trans ?_
     ·have hn:¬(u.iv 72).toNat=i:=fun h=>by omega
      simp [lG,aO,-Int.pred_toNat,Sub.ag,assoc,CV.I,CV.B,aj,ak,ae.I,ae.B,SC.I,SC.B,IE.den,BE.den,hn]
     ·simp [lG,aO,RS.kR,-Int.pred_toNat,Sub.ag,assoc,CV.I,CV.B,aj,ak,ae.I,ae.B,SC.I,SC.B,IE.den,BE.den,hl,hc]
     ·show iB u 74 (u.iv 72) ++ _=((dJ u 68 (u.iv 49)).take (u.iv 75+1).toNat).map RS.kR
      rw [hrow,show (u.iv 75+1).toNat=(u.iv 75).toNat+1 by omega,p8 (by omega),List.map_append]
      rfl
  ·simp only [Da] at c
   have e0:(aa q 0 4).af=5:=he
   rw [zw (by omega)] at hrow
   refine Sat.jk (c:=lX) rfl ⟨o3,f1,os,by show q.iv 72≤1000000;omega⟩ (fun u=>(bH u 4)∧bz u 76∧(aa u 0 4).gM=({aa u 0 4 with bD:=aT u 79 (u.iv 77)}:RS).dz) (fun e hq=>?_) fun u hu=>?_
   ·replace hq:NB (bf _ 8 76 q (q.join 76 e)):=hq
    obtain ⟨q1,q2⟩:=hq
    rw [show bz (bf _ 8 76 q (q.join 76 e)) 8=bz (q.join 76 e) 76 from mX (m:=8) 0] at q1
    rw [show aT (bf _ 8 76 q (q.join 76 e)) 11 ((bf _ 8 76 q (q.join 76 e)).iv 9)=aT (q.join 76 e) 79 ((q.join 76 e).iv 77) from sD (m:=8) 3 1] at q2
    refine ⟨⟨o1,o2,o3⟩,q1,Dh (r:=aa q 0 4) ⟨by rw [e0];decide,by rw [e0];decide⟩ (q2.trans ?_)⟩
    refine congr (congrArg List.filter ?_) ?_
    ·funext n
     refine congrArg (fun b=>!b) ?_
     unfold RS.kept
     rw [if_neg (show ¬(aa q 0 4).af=2 by rw [e0];decide),if_neg (show ¬(aa q 0 4).af=3 by rw [e0];decide),if_pos e0]
     refine (congrArg (fun l:List Sp=>l.any fun s=>RS.uf s n) (Eq.trans (b:=iB q 74 (q.iv 72)) (G5 rfl fun i=>by simp [lG,bf,-Int.pred_toNat,Sub.ag,assoc,CV.I,CV.B,aj,ak,ae.I,ae.B,SC.I,SC.B,IE.den,BE.den]) hrow)).trans ?_
     rw [List.any_map]
     rfl
    ·exact gp rfl fun i=>by simp [bN,aO,bf,-Int.pred_toNat,Sub.ag,assoc,CV.I,CV.B,aj,ak,ae.I,ae.B,SC.I,SC.B,IE.den,BE.den]
   obtain ⟨⟨o1,o2,o3⟩,od,hm⟩:=hu
   refine eU (c:=gP) rfl ({aa u 0 4 with bD:=aT u 79 (u.iv 77)}:RS) ({aa u 0 4 with bD:=aT u 79 (u.iv 77)}:RS).dz (by decide) (by decide) (jQ rfl rfl rfl rfl) ⟨o1,⟨od,Int.le_refl 0,.inr (by show (0:Int)+_≤_;rw [Int.zero_add];exact Int.le_refl _)⟩,o3⟩ (RS.ext' rfl rfl rfl rfl rfl rfl vk (zu rfl rfl fun i=>by simp [bN,aO,-Int.pred_toNat,Sub.ag,assoc,CV.I,CV.B,aj,ak,ae.I,ae.B,SC.I,SC.B,IE.den,BE.den]) rfl rfl rfl rfl DN rfl zX rfl rfl) (fun e hq hr=>⟨hq.1,by rw [←hr];exact hq.2⟩) (fun u=>(bH u 84)∧aa u 0 84=(aa u 0 4).gM) (fun e h1 h2=>⟨h1,h2.trans hm.symm⟩) fun u hu=>?_
   obtain ⟨⟨o1,o2,o3⟩,hm⟩:=hu
   exact Sat.fin ⟨cu,Eq.trans (b:=(aa u 0 84)) aF (Eq.symm hm.symm)⟩
 simp only [Da] at c5
 refine Sat.br (fun c4=>?_) (fun c4=>?_)
 ·simp only [Da] at c4
  have e0:(aa ρ 0 4).af=4:=c4
  obtain ⟨⟨w1,w2⟩,w3,w4⟩:=hw c4
  simp only [Nat.reduceAdd] at w1 w2 w3 w4
  refine Sat.jk (c:=ky) rfl ⟨o3,f1,by show -9223372036854775808≤ρ.iv 45;omega,by show ρ.iv 45≤9223372036854775807;omega⟩ (fun q=>(bH q 4)∧bz q 71∧(aa q 0 4).gM=({aa q 0 4 with bD:=aT q 74 (q.iv 72)}:RS).dz) (fun e hq=>?_) fun q hq=>?_
  ·replace hq:I6 (bf _ 8 71 ρ (ρ.join 71 e)):=hq
   obtain ⟨q1,q2⟩:=hq
   rw [show bz (bf _ 8 71 ρ (ρ.join 71 e)) 8=bz (ρ.join 71 e) 71 from mX (m:=8) 0] at q1
   rw [show aT (bf _ 8 71 ρ (ρ.join 71 e)) 11 ((bf _ 8 71 ρ (ρ.join 71 e)).iv 9)=aT (ρ.join 71 e) 74 ((ρ.join 71 e).iv 72) from sD (m:=8) 3 1] at q2
   refine ⟨⟨o1,o2,o3⟩,q1,Dh (r:=aa ρ 0 4) ⟨by rw [e0];decide,by rw [e0];decide⟩ (q2.trans ?_)⟩
   refine congr (congrArg List.filter ?_) ?_
   ·funext n
    refine congrArg (fun b=>!b) ?_
    unfold RS.kept
    rw [if_neg (show ¬(aa ρ 0 4).af=2 by rw [e0];decide),if_neg (show ¬(aa ρ 0 4).af=3 by rw [e0];decide),if_neg (show ¬(aa ρ 0 4).af=5 by rw [e0];decide),if_pos e0]
    rfl
   ·exact gp rfl fun i=>by simp [bN,aO,bf,-Int.pred_toNat,Sub.ag,assoc,CV.I,CV.B,aj,ak,ae.I,ae.B,SC.I,SC.B,IE.den,BE.den]
  obtain ⟨⟨o1,o2,o3⟩,od,hm⟩:=hq
  refine eU (c:=gP) rfl ({aa q 0 4 with bD:=aT q 74 (q.iv 72)}:RS) ({aa q 0 4 with bD:=aT q 74 (q.iv 72)}:RS).dz (by decide) (by decide) (jQ rfl rfl rfl rfl) ⟨o1,⟨od,Int.le_refl 0,.inr (by show (0:Int)+_≤_;rw [Int.zero_add];exact Int.le_refl _)⟩,o3⟩ (RS.ext' rfl rfl rfl rfl rfl rfl vk (zu rfl rfl fun i=>by simp [bN,aO,-Int.pred_toNat,Sub.ag,assoc,CV.I,CV.B,aj,ak,ae.I,ae.B,SC.I,SC.B,IE.den,BE.den]) rfl rfl rfl rfl DN rfl zX rfl rfl) (fun e hq hr=>⟨hq.1,by rw [←hr];exact hq.2⟩) (fun u=>(bH u 79)∧aa u 0 79=(aa u 0 4).gM) (fun e h1 h2=>⟨h1,h2.trans hm.symm⟩) fun u hu=>?_
  obtain ⟨⟨o1,o2,o3⟩,hm⟩:=hu
  exact Sat.fin ⟨cu,Eq.trans (b:=(aa u 0 79)) aF (Eq.symm hm.symm)⟩
 ·simp only [Da] at c4
  have hm:(aa ρ 0 4).gM=(aa ρ 0 4).dz:=by
   unfold RS.gM
   rw [if_neg (show ¬(2≤(aa ρ 0 4).af∧(aa ρ 0 4).af≤5) by show ¬(2≤ρ.iv 0∧ρ.iv 0≤5);omega)]
  refine eU (c:=gP) rfl (aa ρ 0 4) (aa ρ 0 4).dz (by decide) (by decide) (jQ rfl rfl rfl rfl) ⟨o1,o2,o3⟩ aF (fun e hq hr=>⟨hq.1,by rw [←hr];exact hq.2⟩) (fun u=>(bH u 71)∧aa u 0 71=(aa u 0 4).gM) (fun e h1 h2=>⟨h1,h2.trans hm.symm⟩) fun u hu=>?_
  obtain ⟨⟨o1,o2,o3⟩,hm⟩:=hu
  exact Sat.fin ⟨cu,Eq.trans (b:=(aa u 0 71)) aF (Eq.symm hm.symm)⟩
theorem YX:bg Tryz.prog jZ sZ EO :=
 dA dO (E:=aan) (cs:=Dg) rfl Ta bX rfl YV (by kernel_rfl) (fun ρ _ p hp=>by cases hp) YW
end Go.Proofs.YthomdlajobnmnaaGreatDoor
