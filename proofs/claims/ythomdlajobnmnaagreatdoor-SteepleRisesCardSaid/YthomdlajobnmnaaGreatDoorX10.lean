/- part 10 of the proof -/
import Derived.Test.YthomdlajobnmnaaGreatDoorX9
set_option linter.unusedSimpArgs false
set_option linter.unusedVariables false
namespace Go.Proofs.YthomdlajobnmnaaGreatDoor
open Go.Rex
section
variable {σ:Sub} {ρ q:Env} {m d:Nat}
theorem vB (k j:Nat):aN (aV σ m d ρ q) (m+k) ((aV σ m d ρ q).iv (m+j))=aN q (d+k) (q.iv (d+j)):=by
 unfold aN
 rw [MH,uA]
end
theorem Vj {ρ ρ':Env} {r b:Nat} {n a:Int} (c:n=a) (h:∀i,ρ.ic r i 0 0=ρ'.ic b i 0 0):rX ρ r n=rX ρ' b a:=by
 subst c
 unfold rX
 congr 1
 funext i
 exact h i
theorem JD {ρ ρ':Env} {r b:Nat} {n a:Int} (c:n=a) (h:∀i,lu ρ r i=lu ρ' b i):iK ρ r n=iK ρ' b a:=by
 subst c
 unfold iK
 congr 1
 funext i
 exact h i
theorem Vl {ρ ρ':Env} {r a:Nat} {n b:Int} {w:Int} (f:0<=n) (e:b=n+1) (h:∀i:Nat,(i:Int)<n->ρ'.ic a i 0 0=ρ.ic r i 0 0) (c:ρ'.ic a n.toNat 0 0=w) :
  rX ρ' a b=rX ρ r n ++ [w]:=by
 subst e c
 unfold rX
 rw [show (n+1).toNat=n.toNat+1 by omega,List.range_succ,List.map_append]
 congr 1
 exact List.map_congr_left λi d=>h i (by have:=List.mem_range.1 d;omega)
theorem Br {ρ ρ':Env} {r b:Nat} {o n a:Int} (c:o=0) (d:n=a) (h:∀i,bB ρ r i=bB ρ' b i):gX ρ r o n=aN ρ' b a:=by
 subst c
 rw [UY]
 exact eU d h
theorem vC {ρ ρ':Env} {r a:Nat} {n b:Int} {w:Sp} (f:0<=n) (e:b=n+1) (h:∀i:Nat,(i:Int)<n->lu ρ' a i=lu ρ r i) (c:lu ρ' a n.toNat=w) :
  iK ρ' a b=iK ρ r n ++ [w]:=by
 subst e c
 unfold iK
 rw [show (n+1).toNat=n.toNat+1 by omega,List.range_succ,List.map_append]
 congr 1
 exact List.map_congr_left λi d=>h i (by have:=List.mem_range.1 d;omega)
theorem rY {ρ:Env} {r:Nat} {n:Int} {i:Nat} (h:(i:Int)<n):(dX ρ r n).take (i+1)=(dX ρ r n).take i ++ [bu (ρ.ic r i 0) (ρ.bc r i 0)]:=by
 have a:i<(dX ρ r n).length:=by rw [xK];omega
 rw [List.take_succ_eq_append_getElem a]
 simp [dX]
theorem Bt {ρ:Env} {r:Nat} {n:Int} {i:Nat} (h:n<=i):(dX ρ r n).take i=dX ρ r n:=List.take_of_length_le (by rw [xK];omega)
def Fh:mo:=[(oO,Sv.wW,Jz),(rq,Sv.SY,NG),(oP,Sv.PV,JA),(nu,Sv.MJ,KY),(gK,P6,Bi)]
theorem Vm:∀k pre post,(k,pre,post)∈Fh->kX k=true/\aK Tryz.prog k pre post:=by
 intro k pre post h
 simp only [Fh,List.mem_cons,List.not_mem_nil,or_false,Prod.mk.injEq] at h
 rcases h with ⟨rfl,rfl,rfl⟩ | ⟨rfl,rfl,rfl⟩ | ⟨rfl,rfl,rfl⟩ | ⟨rfl,rfl,rfl⟩ | ⟨rfl,rfl,rfl⟩
 ·exact ⟨by kernel_rfl,U0⟩
 ·exact ⟨by kernel_rfl,XI⟩
 ·exact ⟨by kernel_rfl,U4⟩
 ·exact ⟨by kernel_rfl,RD⟩
 ·exact ⟨by kernel_rfl,P7⟩
noncomputable def acH:Ex:={sched:=sched,loops:=[ajW,Xu],cons:=[oO,rq,oP,nu,gK],fin:=lU}
abbrev acI:List (Nat × IE):=yO [(69,1)]<|yU [(70,yv 72),(53,yv 73),(52,yv 72)]<|yD 0 yG
abbrev acJ:List (Nat × CV):=[(70,yu 70 59 7 yN 0),(69,yu 74 72 7 yN 0),(68,yu 68 49 5 yW 0),(54,yl 54 9 5 50 yW 0)]
abbrev acK:List (Nat × IE):=yo [(137,yv 145)]<|yr 132 140 7<|yo [(124,yv 132),(123,yv 131),(120,yv 128),(119,yv 127),(136,yv 144),(117,yv 125),(116,yv 124),(114,yv 122)]<|yr 112 120 4<|yr 107 115 4<|yr 102 110 4<|yr 97 105 13<|yr 83 91 4<|yr 78 86 8 []
abbrev acL:List (Nat × BE):=[(134,yw 142),(133,yw 141),(125,yw 133),(122,yw 130),(118,yw 126),(115,yw 123),(113,yw 121),(108,yw 116),(103,yw 111),(98,yw 106),(84,yw 92),(79,yw 87)]
abbrev acM:List (Nat × CV):=[(137,yu 145 134 7 yN 0),(136,yu 144 145 7 yN 0),(135,yu 143 124 5 yW 0),(121,yl 129 9 5 50 yW 0)]
abbrev Vn:List (Nat × IE):=[(75,.add (.var 75) y1),(73,yv 76),(72,.add (.var 72) y1)]
abbrev acN:List (Nat × IE):=yO [(69,1)]<|yU [(70,yv 77),(53,yv 78),(52,yv 77)]<|yD 0 yG
abbrev acO:List (Nat × CV):=[(70,yu 70 59 7 yN 0),(69,yu 79 77 7 yN 0),(68,yu 68 49 5 yW 0),(54,yl 54 9 5 50 yW 0)]
abbrev acP:List (Nat × IE):=yo [(137,yv 150)]<|yr 132 145 7<|yo [(124,yv 137),(123,yv 136),(120,yv 133),(119,yv 132),(136,yv 149),(117,yv 130),(116,yv 129),(114,yv 127)]<|yr 112 125 4<|yr 107 120 4<|yr 102 115 4<|yr 97 110 13<|yr 83 96 4<|yr 78 91 8 []
abbrev acQ:List (Nat × BE):=[(134,yw 147),(133,yw 146),(125,yw 138),(122,yw 135),(118,yw 131),(115,yw 128),(113,yw 126),(108,yw 121),(103,yw 116),(98,yw 111),(84,yw 97),(79,yw 92)]
abbrev acR:List (Nat × CV):=[(137,yu 150 139 7 yN 0),(136,yu 149 150 7 yN 0),(135,yu 148 129 5 yW 0),(121,yl 134 9 5 50 yW 0)]
def Le:Out :=
 .br (.ag (.var 0) (.lit 2))
 (.call 0 {lo:=0,ae:=0,iv:=[(6,yv 50),(5,yv 49),(2,yv 60),(1,yv 59)],bv:=[(4,yw 48),(0,yw 58)],ct:=[(7,yu 68 49 5 yW 0),(3,yu 70 59 7 yN 0)],bk:=[(1,yc 1 5),(0,yc 3 7)]} 71 <|
  .call 4 {lo:=0,ae:=0,iv:=acI,bv:=yV [(51,yw 71)]<|yE 0 mQ,ct:=acJ,bk:=[(3,yc 3 7),(2,yc 4 7),(1,yc 1 5),(0,yb 0)]} 79 <|
  .fin {lo:=71,ae:=4,iv:=acK,bv:=acL,ct:=acM,bk:=[(6,yc 8 7),(5,yc 7 7),(4,yc 6 5)]})
 (.br (.ag (.var 0) (.lit 3))
  (.ob (.or (.not (.var 48)) (.ag (.var 49) y0)) <|
   .ob (.ah y0 (.var 49)) <|
   .loop 71 {lo:=71,ae:=4,iv:=[yz 75,yz 73,yz 72],bv:=[(71,.lit true)],nb:=[4]} <|
   .br (.aY (.var 75) (.var 49))
   (.ob (.not (.var 48)) <|
    .ob (.ah y0 (.var 75)) <|
    .ob (.ah (.mul (.add (.var 72) y1) (.lit 8)) (.lit 140737488355328)) <|
    .ob (.ah y0 (.var 72)) <|
    .ob (.ah (.var 72) (.var 73)) <|
    .ob (.ah (.var 73) (.lit 9223372036854775807)) <|
    .ob (.or (.not (.var 71)) (.ag (.var 72) y0)) <|
    .new 76 [.be (.and (.ah (.add (.var 72) y1) (.var 76)) (.ah (.var 76) (.lit 9223372036854775807)))] <|
    .ob (.inr .i64 (.add (.var 75) y1)) <|
    .back 0 {lo:=71,ae:=4,iv:=Vn,bv:=[(71,.lit false)],ct:=[(74,.up {r:=74,n1:=.add (.var 72) y1,s1:=1,ks:=yI} 0 [⟨0,(.var 72),y0,0,.int .i64 (.cell 68 (.var 75) y0 3)⟩] y0)],bk:=[(4,yc 7 1)]})
   (.call 1 {lo:=0,ae:=0,iv:=[(6,yv 73),(5,yv 72),(2,yv 60),(1,yv 59)],bv:=[(4,yw 71),(0,yw 58)],ct:=[(7,yu 74 72 1 yI 0),(3,yu 70 59 7 yN 0)],bk:=[(1,yc 4 1),(0,yc 3 7)]} 76 <|
    .call 4 {lo:=0,ae:=0,iv:=acN,bv:=yV [(51,yw 76)]<|yE 0 mQ,ct:=acO,bk:=[(3,yc 3 7),(2,yc 5 7),(1,yc 1 5),(0,yb 0)]} 84 <|
    .fin {lo:=71,ae:=4,iv:=acP,bv:=acQ,ct:=acR,bk:=[(6,yc 9 7),(5,yc 8 7),(4,yc 7 5)]}))
  (.br (.ag (.var 0) (.lit 5))
   (.ob (.or (.not (.var 48)) (.ag (.var 49) y0)) <|
    .ob (.ah y0 (.var 49)) <|
    .loop 71 {lo:=71,ae:=4,iv:=[yz 75,yz 73,yz 72],bv:=[(71,.lit true)],nb:=[4]} <|
    .br (.aY (.var 75) (.var 49))
    (.ob (.not (.var 48)) <|
     .ob (.ah y0 (.var 75)) <|
     .br (.not (.cell 68 (.var 75) y0 4))
     (.ob (.ah (.mul (.add (.var 72) y1) (.lit 24)) (.lit 140737488355328)) <|
      .ob (.ah y0 (.var 72)) <|
      .ob (.ah (.var 72) (.var 73)) <|
      .ob (.ah (.var 73) (.lit 9223372036854775807)) <|
      .ob (.or (.not (.var 71)) (.ag (.var 72) y0)) <|
      .new 76 [.be (.and (.ah (.add (.var 72) y1) (.var 76)) (.ah (.var 76) (.lit 9223372036854775807)))] <|
      .ob (.inr .i64 (.add (.var 75) y1)) <|
      .back 0 {lo:=71,ae:=4,iv:=Vn,bv:=[(71,.lit false)],ct:=[(74,.up {r:=74,n1:=.add (.var 72) y1,s1:=3,ks:=[.bool,.int .i64,.int .i64]} 0 [⟨0,(.var 72),y0,0,y3⟩,⟨0,(.var 72),y0,1,y2⟩,⟨0,(.var 72),y0,2,y2⟩] y0)],bk:=[(4,yc 9 3)]})
     (.ob (.ah (.mul (.add (.var 72) y1) (.lit 24)) (.lit 140737488355328)) <|
      .ob (.ah y0 (.var 72)) <|
      .ob (.ah (.var 72) (.var 73)) <|
      .ob (.ah (.var 73) (.lit 9223372036854775807)) <|
      .ob (.or (.not (.var 71)) (.ag (.var 72) y0)) <|
      .new 76 [.be (.and (.ah (.add (.var 72) y1) (.var 76)) (.ah (.var 76) (.lit 9223372036854775807)))] <|
      .ob (.inr .i64 (.add (.var 75) y1)) <|
      .back 0 {lo:=71,ae:=4,iv:=Vn,bv:=[(71,.lit false)],ct:=[(74,.up {r:=74,n1:=.add (.var 72) y1,s1:=3,ks:=[.bool,.int .i64,.int .i64]} 0 [⟨0,(.var 72),y0,0,.bool (.lit true)⟩,⟨0,(.var 72),y0,1,.int .i64 (.cell 68 (.var 75) y0 3)⟩,⟨0,(.var 72),y0,2,.int .i64 (.cell 68 (.var 75) y0 2)⟩] y0)],bk:=[(4,yc 9 3)]}))
    (.call 2 {lo:=0,ae:=0,iv:=[(6,yv 73),(5,yv 72),(2,yv 60),(1,yv 59)],bv:=[(4,yw 71),(0,yw 58)],ct:=[(7,.up {r:=74,n1:=.var 72,s1:=3,ks:=[.bool,.int .i64,.int .i64]} 0 [] y0),(3,yu 70 59 7 yN 0)],bk:=[(1,yc 4 3),(0,yc 3 7)]} 76 <|
     .call 4 {lo:=0,ae:=0,iv:=acN,bv:=yV [(51,yw 76)]<|yE 0 mQ,ct:=acO,bk:=[(3,yc 3 7),(2,yc 5 7),(1,yc 1 5),(0,yb 0)]} 84 <|
     .fin {lo:=71,ae:=4,iv:=acP,bv:=acQ,ct:=acR,bk:=[(6,yc 9 7),(5,yc 8 7),(4,yc 7 5)]}))
   (.br (.ag (.var 0) (.lit 4))
    (.call 3 {lo:=0,ae:=0,iv:=[(4,yv 45),(2,yv 60),(1,yv 59)],bv:=[(0,yw 58)],ct:=[(3,yu 70 59 7 yN 0)],bk:=[(0,yc 3 7)]} 71 <|
     .call 4 {lo:=0,ae:=0,iv:=acI,bv:=yV [(51,yw 71)]<|yE 0 mQ,ct:=acJ,bk:=[(3,yc 3 7),(2,yc 4 7),(1,yc 1 5),(0,yb 0)]} 79 <|
     .fin {lo:=71,ae:=4,iv:=acK,bv:=acL,ct:=acM,bk:=[(6,yc 8 7),(5,yc 7 7),(4,yc 6 5)]})
    (.call 4 {lo:=0,ae:=0,iv:=yD 0 yG,bv:=yE 0 mQ,ct:=[(70,yu 70 59 7 yN 0),(69,yu 69 70 7 yN 0),(68,yu 68 49 5 yW 0),(54,yl 54 9 5 50 yW 0)],bk:=[(3,yc 3 7),(2,yc 2 7),(1,yc 1 5),(0,yb 0)]} 71 <|
     .fin {lo:=71,ae:=4,iv:=yD 0 mV,bv:=yE 0 oU,ct:=[(137,yu 137 126 7 yN 0),(136,yu 136 137 7 yN 0),(135,yu 135 116 5 yW 0),(121,yl 121 9 5 50 yW 0)],bk:=[(6,yc 6 7),(5,yc 5 7),(4,yc 4 5)]}))))
theorem aaI:exec tab acH 8000 [] (bZ lU.f lU.nv [] lU.gl lU.hp lU.args)=Le:=by kernel_rfl
def vT (ρ:Env):Prop:=dw ρ 4/\(ρ.iv 59<=1000000/\(ρ.iv 0=4\/ρ.iv 49<=100000))/\(ρ.iv 0=4->JB ρ 42)
def Hf (ρ:Env):Prop:=dw ρ 71/\aa ρ 0 71=(aa ρ 0 4).eO
theorem Fj {r:RS} (h:2<=r.af/\r.af<=5) {l:List Nt} (a:l=r.notes.filter λn=>!r.kept n):r.eO=({r with bK:=l}:RS).ek:=by
 subst a
 unfold RS.eO
 rw [if_pos h]
def Vo (ρ:Env):Prop:=(vT ρ/\ρ.iv 0=3)/\(0<=ρ.iv 75/\ρ.iv 75<=ρ.iv 49)/\(bE ρ 71/\ρ.iv 72=ρ.iv 75)/\rX ρ 74 (ρ.iv 72)=((dX ρ 68 (ρ.iv 49)).take (ρ.iv 75).toNat).map Wd.num
def NJ (ρ:Env):Prop:=(vT ρ/\ρ.iv 0=5)/\(0<=ρ.iv 75/\ρ.iv 75<=ρ.iv 49)/\(bE ρ 71/\ρ.iv 72=ρ.iv 75)/\iK ρ 74 (ρ.iv 72)=((dX ρ 68 (ρ.iv 49)).take (ρ.iv 75).toNat).map RS.jF
set_option maxHeartbeats 4000000 in
theorem aaJ (ρ:Env) (j:vT ρ.num):Sat Hf Fh [] ρ Le:=by
 replace j:vT ρ:=j
 have a:=j
 obtain ⟨⟨g,y,k⟩,⟨N,X⟩,U⟩:=j
 unfold Le
 refine Sat.br (λc=>?_) (λc=>?_)
 ·simp only [Da] at c
  have o:(aa ρ 0 4).af=2:=c
  refine Sat.dF (c:=oO) rfl ⟨k,N,g,by show ρ.iv 49<=1000000;omega⟩ (λq=>(dw q 4)/\bE q 71/\(aa q 0 4).eO=({aa q 0 4 with bK:=aN q 74 (q.iv 72)}:RS).ek) (λe f=>?_) λq f=>?_
  ·replace f:Jz (aV _ 8 71 ρ (ρ.join 71 e)):=f
   obtain ⟨B,C⟩:=f
   rw [show bE (aV _ 8 71 ρ (ρ.join 71 e)) 8=bE (ρ.join 71 e) 71 from oW (m:=8) 0] at B
   rw [show aN (aV _ 8 71 ρ (ρ.join 71 e)) 11 ((aV _ 8 71 ρ (ρ.join 71 e)).iv 9)=aN (ρ.join 71 e) 74 ((ρ.join 71 e).iv 72) from vB (m:=8) 3 1] at C
   refine ⟨⟨g,y,k⟩,B,Fj (r:=aa ρ 0 4) ⟨by rw [o];decide,by rw [o];decide⟩ (C.trans ?_)⟩
   refine congr (congrArg List.filter ?_) ?_
   ·funext n
    refine congrArg (λb=>!b) ?_
    unfold RS.kept
    rw [if_pos o]
    refine congrArg (λl:List Wd=>l.any λw=>RS.tJ w n) ?_
    exact Be rfl λi=>by simp [bu,aV,-Int.pred_toNat,Na]
   ·exact eU rfl λi=>by simp [bB,bu,aV,-Int.pred_toNat,Na]
  obtain ⟨⟨g,y,k⟩,M,t⟩:=f
  refine jO (c:=gK) rfl ({aa q 0 4 with bK:=aN q 74 (q.iv 72)}:RS) ({aa q 0 4 with bK:=aN q 74 (q.iv 72)}:RS).ek (by decide) (by decide) (ru rfl rfl rfl rfl) ⟨g,⟨M,Int.le_refl 0,.inr (by show (0:Int)+_<=_;rw [Int.zero_add];exact Int.le_refl _)⟩,k⟩ (RS.ext' rfl rfl rfl rfl rfl rfl FV (Br rfl rfl λi=>by simp [bB,bu,-Int.pred_toNat,Na]) rfl rfl rfl rfl FW rfl MG rfl rfl) (λe f G=>⟨f.1,by rw [<-G];exact f.2⟩) (λu=>(dw u 79)/\aa u 0 79=(aa u 0 4).eO) (λe E D=>⟨E,D.trans t.symm⟩) λu p=>?_
  obtain ⟨⟨g,y,k⟩,t⟩:=p
  exact Sat.fin ⟨il,Eq.trans (b:=(aa u 0 79)) bI (Eq.symm t.symm)⟩
 simp only [Da] at c
 refine Sat.br (λc3=>?_) (λc3=>?_)
 ·simp only [Da] at c3
  refine Sat.ob (dP g) (Sat.ob (decide_eq_true g.2.1) (Sat.qD Vo (λr=>(r.iv 49-r.iv 75).toNat) (λ_=>True) ⟨⟨a,c3⟩,⟨Int.le_refl 0,g.2.1⟩,⟨qE rfl rfl,rfl⟩,rfl⟩ (λ_=>trivial) λq _ F=>?_))
  replace F:Vo q:=F
  have H:=F
  obtain ⟨⟨a,I⟩,⟨O,R⟩,⟨z,L⟩,d⟩:=F
  have j:=a
  obtain ⟨⟨g,y,k⟩,⟨N,X⟩,U⟩:=j
  refine Sat.br (λc=>?_) (λc=>?_)
  ·simp only [Da] at c
   refine Sat.ob (uo g (by simp only [Nat.reduceAdd];omega)) (Sat.ob (decide_eq_true O) ?_)
   obtain ⟨S,x,J,K⟩:=id z
   refine oS (Sat.ob (decide_eq_true x) (Sat.ob (decide_eq_true J) (Sat.ob (decide_eq_true K) (Sat.ob (dP z) (Sat.uK (λu=>Vo u/\u.iv 75<u.iv 49/\(u.iv 49-(u.iv 75+1)).toNat<(q.iv 49-q.iv 75).toNat) (λe=>⟨H,c,by show (q.iv 49-(q.iv 75+1)).toNat<(q.iv 49-q.iv 75).toNat;omega⟩) λu p A=>?_)))))
   obtain ⟨⟨⟨a,I⟩,⟨O,R⟩,⟨z,L⟩,d⟩,c,hd⟩:=p
   simp only [Da] at A
   obtain ⟨S,x,J,K⟩:=id z
   replace x:0<=u.iv 72:=x
   have Q:=a.2.1.2
   refine oS (Sat.back rfl ⟨⟨⟨a,I⟩,⟨?_,?_⟩,⟨⟨λh=>(by cases h),?_,A.1,A.2⟩,?_⟩,?_⟩,hd⟩)
   ·show 0<=u.iv 75+1;omega
   ·show u.iv 75+1<=u.iv 49;omega
   ·show 0<=u.iv 72+1;omega
   ·show u.iv 72+1=u.iv 75+1;omega
   ·refine (Vl (ρ:=u) (r:=74) (n:=u.iv 72) (w:=Wd.num (bu (u.ic 68 (u.iv 75).toNat 0) (u.bc 68 (u.iv 75).toNat 0))) x rfl (λi W=>?_) ?_).trans ?_
    ·have P:¬(u.iv 72).toNat=i:=λh=>by omega
     simp [lu,bu,-Int.pred_toNat,Na,P]
    ·simp [bu,-Int.pred_toNat,Na,L]
    ·show rX u 74 (u.iv 72) ++ _=((dX u 68 (u.iv 49)).take (u.iv 75+1).toNat).map Wd.num
     rw [d,show (u.iv 75+1).toNat=(u.iv 75).toNat+1 by omega,rY (by omega),List.map_append]
     rfl
  ·simp only [Da] at c
   have o:(aa q 0 4).af=3:=I
   rw [Bt (by omega)] at d
   refine Sat.dF (c:=rq) rfl ⟨k,N,z,by show q.iv 72<=1000000;omega⟩ (λu=>(dw u 4)/\bE u 76/\(aa u 0 4).eO=({aa u 0 4 with bK:=aN u 79 (u.iv 77)}:RS).ek) (λe f=>?_) λu p=>?_
   ·replace f:NG (aV _ 8 76 q (q.join 76 e)):=f
    obtain ⟨B,C⟩:=f
    rw [show bE (aV _ 8 76 q (q.join 76 e)) 8=bE (q.join 76 e) 76 from oW (m:=8) 0] at B
    rw [show aN (aV _ 8 76 q (q.join 76 e)) 11 ((aV _ 8 76 q (q.join 76 e)).iv 9)=aN (q.join 76 e) 79 ((q.join 76 e).iv 77) from vB (m:=8) 3 1] at C
    refine ⟨⟨g,y,k⟩,B,Fj (r:=aa q 0 4) ⟨by rw [o];decide,by rw [o];decide⟩ (C.trans ?_)⟩
    refine congr (congrArg List.filter ?_) ?_
    ·funext n
     refine congrArg (λb=>!b) ?_
     unfold RS.kept
     rw [if_neg (show ¬(aa q 0 4).af=2 by rw [o];decide),if_pos o]
     refine (congrArg (λl:List Int=>l.any λe=>RS.tK e n) (Eq.trans (b:=rX q 74 (q.iv 72)) (Vj rfl λi=>by simp [aV,-Int.pred_toNat,Na]) d)).trans ?_
     rw [List.any_map]
     rfl
    ·exact eU rfl λi=>by simp [bB,bu,aV,-Int.pred_toNat,Na]
   obtain ⟨⟨g,y,k⟩,M,t⟩:=p
   refine jO (c:=gK) rfl ({aa u 0 4 with bK:=aN u 79 (u.iv 77)}:RS) ({aa u 0 4 with bK:=aN u 79 (u.iv 77)}:RS).ek (by decide) (by decide) (ru rfl rfl rfl rfl) ⟨g,⟨M,Int.le_refl 0,.inr (by show (0:Int)+_<=_;rw [Int.zero_add];exact Int.le_refl _)⟩,k⟩ (RS.ext' rfl rfl rfl rfl rfl rfl FV (Br rfl rfl λi=>by simp [bB,bu,-Int.pred_toNat,Na]) rfl rfl rfl rfl FW rfl MG rfl rfl) (λe f G=>⟨f.1,by rw [<-G];exact f.2⟩) (λu=>(dw u 84)/\aa u 0 84=(aa u 0 4).eO) (λe E D=>⟨E,D.trans t.symm⟩) λu p=>?_
   obtain ⟨⟨g,y,k⟩,t⟩:=p
   exact Sat.fin ⟨il,Eq.trans (b:=(aa u 0 84)) bI (Eq.symm t.symm)⟩
 simp only [Da] at c3
 refine Sat.br (λT=>?_) (λT=>?_)
 ·simp only [Da] at T
  refine Sat.ob (dP g) (Sat.ob (decide_eq_true g.2.1) (Sat.qD NJ (λr=>(r.iv 49-r.iv 75).toNat) (λ_=>True) ⟨⟨a,T⟩,⟨Int.le_refl 0,g.2.1⟩,⟨qE rfl rfl,rfl⟩,rfl⟩ (λ_=>trivial) λq _ F=>?_))
  replace F:NJ q:=F
  have H:=F
  obtain ⟨⟨a,I⟩,⟨O,R⟩,⟨z,L⟩,d⟩:=F
  have j:=a
  obtain ⟨⟨g,y,k⟩,⟨N,X⟩,U⟩:=j
  refine Sat.br (λc=>?_) (λc=>?_)
  ·simp only [Da] at c
   refine Sat.ob (uo g (by simp only [Nat.reduceAdd];omega)) (Sat.ob (decide_eq_true O) ?_)
   obtain ⟨S,x,J,K⟩:=id z
   refine Sat.br (λc2=>?_) (λc2=>?_)
   ·simp only [Da] at c2
    refine oS (Sat.ob (decide_eq_true x) (Sat.ob (decide_eq_true J) (Sat.ob (decide_eq_true K) (Sat.ob (dP z) (Sat.uK (λu=>NJ u/\u.iv 75<u.iv 49/\(u.iv 49-(u.iv 75+1)).toNat<(q.iv 49-q.iv 75).toNat/\u.bc 68 (u.iv 75).toNat 0 4=false) (λe=>⟨H,c,by show (q.iv 49-(q.iv 75+1)).toNat<(q.iv 49-q.iv 75).toNat;omega,c2⟩) λu p A=>?_)))))
    obtain ⟨⟨⟨a,I⟩,⟨O,R⟩,⟨z,L⟩,d⟩,c,hd,V⟩:=p
    simp only [Da] at A
    obtain ⟨S,x,J,K⟩:=id z
    replace x:0<=u.iv 72:=x
    have Q:=a.2.1.2
    refine oS (Sat.back rfl ⟨⟨⟨a,I⟩,⟨?_,?_⟩,⟨⟨λh=>(by cases h),?_,A.1,A.2⟩,?_⟩,?_⟩,hd⟩)
    ·show 0<=u.iv 75+1;omega
    ·show u.iv 75+1<=u.iv 49;omega
    ·show 0<=u.iv 72+1;omega
    ·show u.iv 72+1=u.iv 75+1;omega
    ·refine (vC (ρ:=u) (r:=74) (n:=u.iv 72) (w:=RS.jF (bu (u.ic 68 (u.iv 75).toNat 0) (u.bc 68 (u.iv 75).toNat 0))) x rfl (λi W=>?_) ?_).trans ?_
     ·have P:¬(u.iv 72).toNat=i:=λh=>by omega
      simp [lu,bu,-Int.pred_toNat,Na,P]
     ·simp [lu,bu,RS.jF,Sp.zero,-Int.pred_toNat,Na,L,V]
     ·show iK u 74 (u.iv 72) ++ _=((dX u 68 (u.iv 49)).take (u.iv 75+1).toNat).map RS.jF
      rw [d,show (u.iv 75+1).toNat=(u.iv 75).toNat+1 by omega,rY (by omega),List.map_append]
      rfl
   ·simp only [Da] at c2
    refine oS (Sat.ob (decide_eq_true x) (Sat.ob (decide_eq_true J) (Sat.ob (decide_eq_true K) (Sat.ob (dP z) (Sat.uK (λu=>NJ u/\u.iv 75<u.iv 49/\(u.iv 49-(u.iv 75+1)).toNat<(q.iv 49-q.iv 75).toNat/\u.bc 68 (u.iv 75).toNat 0 4=true) (λe=>⟨H,c,by show (q.iv 49-(q.iv 75+1)).toNat<(q.iv 49-q.iv 75).toNat;omega,c2⟩) λu p A=>?_)))))
    obtain ⟨⟨⟨a,I⟩,⟨O,R⟩,⟨z,L⟩,d⟩,c,hd,V⟩:=p
    simp only [Da] at A
    obtain ⟨S,x,J,K⟩:=id z
    replace x:0<=u.iv 72:=x
    have Q:=a.2.1.2
    refine oS (Sat.back rfl ⟨⟨⟨a,I⟩,⟨?_,?_⟩,⟨⟨λh=>(by cases h),?_,A.1,A.2⟩,?_⟩,?_⟩,hd⟩)
    ·show 0<=u.iv 75+1;omega
    ·show u.iv 75+1<=u.iv 49;omega
    ·show 0<=u.iv 72+1;omega
    ·show u.iv 72+1=u.iv 75+1;omega
    ·refine (vC (ρ:=u) (r:=74) (n:=u.iv 72) (w:=RS.jF (bu (u.ic 68 (u.iv 75).toNat 0) (u.bc 68 (u.iv 75).toNat 0))) x rfl (λi W=>?_) ?_).trans ?_
     ·have P:¬(u.iv 72).toNat=i:=λh=>by omega
      simp [lu,bu,-Int.pred_toNat,Na,P]
     ·simp [lu,bu,RS.jF,-Int.pred_toNat,Na,L,V]
     ·show iK u 74 (u.iv 72) ++ _=((dX u 68 (u.iv 49)).take (u.iv 75+1).toNat).map RS.jF
      rw [d,show (u.iv 75+1).toNat=(u.iv 75).toNat+1 by omega,rY (by omega),List.map_append]
      rfl
  ·simp only [Da] at c
   have o:(aa q 0 4).af=5:=I
   rw [Bt (by omega)] at d
   refine Sat.dF (c:=oP) rfl ⟨k,N,z,by show q.iv 72<=1000000;omega⟩ (λu=>(dw u 4)/\bE u 76/\(aa u 0 4).eO=({aa u 0 4 with bK:=aN u 79 (u.iv 77)}:RS).ek) (λe f=>?_) λu p=>?_
   ·replace f:JA (aV _ 8 76 q (q.join 76 e)):=f
    obtain ⟨B,C⟩:=f
    rw [show bE (aV _ 8 76 q (q.join 76 e)) 8=bE (q.join 76 e) 76 from oW (m:=8) 0] at B
    rw [show aN (aV _ 8 76 q (q.join 76 e)) 11 ((aV _ 8 76 q (q.join 76 e)).iv 9)=aN (q.join 76 e) 79 ((q.join 76 e).iv 77) from vB (m:=8) 3 1] at C
    refine ⟨⟨g,y,k⟩,B,Fj (r:=aa q 0 4) ⟨by rw [o];decide,by rw [o];decide⟩ (C.trans ?_)⟩
    refine congr (congrArg List.filter ?_) ?_
    ·funext n
     refine congrArg (λb=>!b) ?_
     unfold RS.kept
     rw [if_neg (show ¬(aa q 0 4).af=2 by rw [o];decide),if_neg (show ¬(aa q 0 4).af=3 by rw [o];decide),if_pos o]
     refine (congrArg (λl:List Sp=>l.any λs=>RS.qM s n) (Eq.trans (b:=iK q 74 (q.iv 72)) (JD rfl λi=>by simp [lu,aV,-Int.pred_toNat,Na]) d)).trans ?_
     rw [List.any_map]
     rfl
    ·exact eU rfl λi=>by simp [bB,bu,aV,-Int.pred_toNat,Na]
   obtain ⟨⟨g,y,k⟩,M,t⟩:=p
   refine jO (c:=gK) rfl ({aa u 0 4 with bK:=aN u 79 (u.iv 77)}:RS) ({aa u 0 4 with bK:=aN u 79 (u.iv 77)}:RS).ek (by decide) (by decide) (ru rfl rfl rfl rfl) ⟨g,⟨M,Int.le_refl 0,.inr (by show (0:Int)+_<=_;rw [Int.zero_add];exact Int.le_refl _)⟩,k⟩ (RS.ext' rfl rfl rfl rfl rfl rfl FV (Br rfl rfl λi=>by simp [bB,bu,-Int.pred_toNat,Na]) rfl rfl rfl rfl FW rfl MG rfl rfl) (λe f G=>⟨f.1,by rw [<-G];exact f.2⟩) (λu=>(dw u 84)/\aa u 0 84=(aa u 0 4).eO) (λe E D=>⟨E,D.trans t.symm⟩) λu p=>?_
   obtain ⟨⟨g,y,k⟩,t⟩:=p
   exact Sat.fin ⟨il,Eq.trans (b:=(aa u 0 84)) bI (Eq.symm t.symm)⟩
 simp only [Da] at T
 refine Sat.br (λc4=>?_) (λc4=>?_)
 ·simp only [Da] at c4
  have o:(aa ρ 0 4).af=4:=c4
  obtain ⟨⟨Z,w2⟩,w3,Y⟩:=U c4
  simp only [Nat.reduceAdd] at Z w2 w3 Y
  refine Sat.dF (c:=nu) rfl ⟨k,N,by show -9223372036854775808<=ρ.iv 45;omega,by show ρ.iv 45<=9223372036854775807;omega⟩ (λq=>(dw q 4)/\bE q 71/\(aa q 0 4).eO=({aa q 0 4 with bK:=aN q 74 (q.iv 72)}:RS).ek) (λe f=>?_) λq f=>?_
  ·replace f:KY (aV _ 8 71 ρ (ρ.join 71 e)):=f
   obtain ⟨B,C⟩:=f
   rw [show bE (aV _ 8 71 ρ (ρ.join 71 e)) 8=bE (ρ.join 71 e) 71 from oW (m:=8) 0] at B
   rw [show aN (aV _ 8 71 ρ (ρ.join 71 e)) 11 ((aV _ 8 71 ρ (ρ.join 71 e)).iv 9)=aN (ρ.join 71 e) 74 ((ρ.join 71 e).iv 72) from vB (m:=8) 3 1] at C
   refine ⟨⟨g,y,k⟩,B,Fj (r:=aa ρ 0 4) ⟨by rw [o];decide,by rw [o];decide⟩ (C.trans ?_)⟩
   refine congr (congrArg List.filter ?_) ?_
   ·funext n
    refine congrArg (λb=>!b) ?_
    unfold RS.kept
    rw [if_neg (show ¬(aa ρ 0 4).af=2 by rw [o];decide),if_neg (show ¬(aa ρ 0 4).af=3 by rw [o];decide),if_neg (show ¬(aa ρ 0 4).af=5 by rw [o];decide),if_pos o]
    rfl
   ·exact eU rfl λi=>by simp [bB,bu,aV,-Int.pred_toNat,Na]
  obtain ⟨⟨g,y,k⟩,M,t⟩:=f
  refine jO (c:=gK) rfl ({aa q 0 4 with bK:=aN q 74 (q.iv 72)}:RS) ({aa q 0 4 with bK:=aN q 74 (q.iv 72)}:RS).ek (by decide) (by decide) (ru rfl rfl rfl rfl) ⟨g,⟨M,Int.le_refl 0,.inr (by show (0:Int)+_<=_;rw [Int.zero_add];exact Int.le_refl _)⟩,k⟩ (RS.ext' rfl rfl rfl rfl rfl rfl FV (Br rfl rfl λi=>by simp [bB,bu,-Int.pred_toNat,Na]) rfl rfl rfl rfl FW rfl MG rfl rfl) (λe f G=>⟨f.1,by rw [<-G];exact f.2⟩) (λu=>(dw u 79)/\aa u 0 79=(aa u 0 4).eO) (λe E D=>⟨E,D.trans t.symm⟩) λu p=>?_
  obtain ⟨⟨g,y,k⟩,t⟩:=p
  exact Sat.fin ⟨il,Eq.trans (b:=(aa u 0 79)) bI (Eq.symm t.symm)⟩
 ·simp only [Da] at c4
  have t:(aa ρ 0 4).eO=(aa ρ 0 4).ek:=by
   unfold RS.eO
   rw [if_neg (show ¬(2<=(aa ρ 0 4).af/\(aa ρ 0 4).af<=5) by show ¬(2<=ρ.iv 0/\ρ.iv 0<=5);omega)]
  refine jO (c:=gK) rfl (aa ρ 0 4) (aa ρ 0 4).ek (by decide) (by decide) (ru rfl rfl rfl rfl) ⟨g,y,k⟩ bI (λe f G=>⟨f.1,by rw [<-G];exact f.2⟩) (λu=>(dw u 71)/\aa u 0 71=(aa u 0 4).eO) (λe E D=>⟨E,D.trans t.symm⟩) λu p=>?_
  obtain ⟨⟨g,y,k⟩,t⟩:=p
  exact Sat.fin ⟨il,Eq.trans (b:=(aa u 0 71)) bI (Eq.symm t.symm)⟩
theorem aaK:aK Tryz.prog lU vT Hf :=
 bq bM (E:=acH) (cs:=Fh) rfl Vm aO rfl aaI (by kernel_rfl) (λb _ p a=>by cases a) aaJ
end Go.Proofs.YthomdlajobnmnaaGreatDoor
