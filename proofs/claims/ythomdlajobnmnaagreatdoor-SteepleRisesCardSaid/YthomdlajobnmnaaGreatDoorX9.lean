/- part 9 of the proof -/
import Derived.Test.YthomdlajobnmnaaGreatDoorX8
set_option linter.unusedSimpArgs false
set_option linter.unusedVariables false
namespace Go.Proofs.YthomdlajobnmnaaGreatDoor
open Go.Rex
noncomputable def acm:Ex:={sched:=sched,loops:=[],fin:=gK}
def K7:Out :=
 .ob (.or (.not (.var 51)) (.ag (.var 52) y0)) <|
 .ob (.ah y0 (.var 52)) <|
 .br (.ag (.var 52) y0)
 (.fin {lo:=71,ae:=4,iv:=yO [(132,4),(120,2),(117,2),(114,1),(112,4),(107,4),(102,4),(97,13),(83,4),(78,8)]<|yD 67 UT,bv:=[(134,.lit true),(133,.lit false),(125,yw 58),(122,yw 55),(118,.lit true),(115,.lit true),(113,.lit false),(108,.lit false),(103,.lit false),(98,.lit false),(84,.lit false),(79,.lit false)],ct:=[(137,yu 70 59 7 yN 0),(121,yl 54 9 5 50 yW 0)],bk:=[(6,yc 3 7)],nb:=[5,4,5,4]})
 (.ob (.not (.var 51)) <|
  .ob (.aY y0 (.var 52)) <|
  .ob (.ah y0 (.var 69)) <|
  .ob (.aY (.var 69) (.var 70)) <|
  .fin {lo:=71,ae:=4,iv:=yO [(102,4),(93,3)]<|yU [(97,.cell 69 (.var 69) y0 3),(96,.cell 69 (.var 69) y0 2),(95,.cell 69 (.var 69) y0 1),(94,.cell 69 (.var 69) y0 0),(90,.lit 5),(89,.lit 16)]<|yD 67 mV,bv:=yP [(103,1)]<|yV [(98,.cell 69 (.var 69) y0 4)]<|yE 67 oU,ct:=[(137,yu 70 59 7 yN 0),(136,yu 69 70 7 yN 0),(135,yu 68 49 5 yW 0),(121,yl 54 9 5 50 yW 0)],bk:=[(6,yc 3 7),(5,yc 2 7),(4,yc 1 5)]})
theorem aal:exec tab acm 8000 [] (bZ gK.f gK.nv [] gK.gl gK.hp gK.args)=K7:=by kernel_rfl
def P6 (ρ:Env):Prop:=dw ρ 4
def Bi (ρ:Env):Prop:=dw ρ 71/\aa ρ 0 71=(aa ρ 0 4).ek
theorem aam (ρ:Env) (a:P6 ρ.num):Sat Bi [] [] ρ K7:=by
 replace a:P6 ρ:=a
 obtain ⟨j,d,i⟩:=a
 unfold K7
 have g:=d.1.2.1
 have f:=d.2
 simp only [Nat.reduceAdd] at g f
 refine Sat.ob (dP d.1) (Sat.ob (decide_eq_true g) (Sat.br (λc=>?_) (λc=>?_)))
 ·simp only [Da] at c
  have hd:(aa ρ 0 4).bK=[]:=oV c
  have e:(aa ρ 0 4).ek=(aa ρ 0 4).done:=by unfold RS.ek;rw [hd]
  exact Sat.fin ⟨il,Eq.trans (b:=(aa ρ 0 4).done) bI (Eq.symm e)⟩
 ·simp only [Da] at c
  have h:(aa ρ 0 4).bK=_:=Jw (ρ:=ρ) (r:=69) (o:=ρ.iv 69) (n:=ρ.iv 52) (by omega) f.1
  have e:(aa ρ 0 4).ek=(aa ρ 0 4).ask 16 ⟨5,0,0,0,(bB ρ 69 (ρ.iv 69).toNat).ref,Wd.zero⟩:=by unfold RS.ek;rw [h]
  refine Sat.ob (uo d.1 (by simp only [Nat.reduceAdd];omega)) (oS (oS (oS (Sat.fin ⟨il,Eq.trans (b:=(aa ρ 0 4).ask 16 ⟨5,0,0,0,(bB ρ 69 (ρ.iv 69).toNat).ref,Wd.zero⟩) bI (Eq.symm e)⟩))))
theorem P7:aK Tryz.prog gK P6 Bi :=
 bq bM (E:=acm) (cs:=[]) rfl (λk pre post h=>by cases h) aO rfl aal (by kernel_rfl) (λb _ p a=>by cases a) aam
def zI (ρ:Env):Prop:=0<=ρ.iv 1/\ρ.iv 1<6/\1<=ρ.iv 2/\ρ.iv 2<=6
theorem ru {σ:Sub} {ρ:Env} (c:(σ.bT ρ).iv 0=ρ.iv 0) (b:(σ.bT ρ).iv 1=ρ.iv 1) (a:(σ.bT ρ).iv 2=ρ.iv 2) (d:(σ.bT ρ).iv 3=ρ.iv 3):∀i,i<4->(σ.bT ρ).iv i=ρ.iv i:=by
 intro i e
 match i with
 | 0=>exact c
 | 1=>exact b
 | 2=>exact a
 | 3=>exact d
noncomputable def acn:Ex:={sched:=sched,loops:=[],cons:=[iC,iD],fin:=jT}
abbrev U6:List (Nat × CV):=[(138,yu 70 59 7 yN 0),(137,yu 69 70 7 yN 0),(136,yu 68 49 5 yW 0),(122,yl 54 9 5 50 yW 0)]
abbrev U7:List (Nat × SA):=[(6,yc 3 7),(5,yc 2 7),(4,yc 1 5)]
def K8:Out :=
 .br (.or (.ag (.var 0) (.lit 2)) (.ag (.var 0) (.lit 3)))
 (.ob (.inr .i64 (.mul (.var 2) (.lit 9))) <|
  .br (.ah (.mul (.var 2) (.lit 9)) (.var 71))
  (.fin {lo:=72,ae:=4,iv:=yD 68 KS,bv:=yP [(139,1)]<|yE 68 UR,ct:=U6,bk:=U7})
  (.ob (.inr .i64 (.div (.var 71) (.lit 9))) <|
   .call 0 {lo:=0,ae:=0,iv:=[(1,.mod (.var 71) (.lit 9)),(0,.div (.var 71) (.lit 9))]} 72 <|
   .fin {lo:=72,ae:=4,iv:=yO [(103,4),(98,4),(93,2)]<|yU [(115,yv 71),(94,.add (.add (.lit 25) (.mul (.div (.var 71) (.lit 9)) (.lit 9))) (.mod (.var 71) (.lit 9))),(91,.lit 1),(90,.lit 13)]<|yD 68 KS,bv:=yP [(104,1),(99,1)]<|yV [(139,.lit true)]<|yE 68 UR,ct:=U6,bk:=U7}))
 (.br (.ah (.var 2) (.var 71))
  (.fin {lo:=72,ae:=4,iv:=yD 68 KS,bv:=yP [(139,1)]<|yE 68 UR,ct:=U6,bk:=U7})
  (.call 1 {lo:=0,ae:=0,iv:=[(0,yv 71)]} 72 <|
   .fin {lo:=72,ae:=4,iv:=yO [(103,4),(98,4),(93,2)]<|yU [(115,yv 71),(94,.add (.lit 79) (.var 71)),(91,.lit 1),(90,.lit 13)]<|yD 68 KS,bv:=yP [(104,1),(99,1)]<|yV [(139,.lit true)]<|yE 68 UR,ct:=U6,bk:=U7}))
theorem aan:exec tab acn 8000 [] (bZ jT.f jT.nv [] jT.gl jT.hp jT.args)=K8:=by kernel_rfl
def vS (ρ:Env):Prop:=dw ρ 4/\zI ρ/\0<=ρ.iv 71/\ρ.iv 71<=1000000
def wX (ρ:Env):Prop:=dw ρ 72/\ρ.bv 139=((aa ρ 0 4).look (ρ.iv 71)).isSome/\aa ρ 0 72=((aa ρ 0 4).look (ρ.iv 71)).getD (aa ρ 0 4)
theorem MK {r q:RS} {n:Int} (h:r.look n=some q):(r.look n).getD r=q:=by rw [h];rfl
theorem ML {r:RS} {n:Int} (h:r.look n=none):(r.look n).getD r=r:=by rw [h];rfl
theorem dm9 {n:Int} (h:0<=n):n.tdiv 9=n / 9/\n.tmod 9=n % 9:=⟨Int.tdiv_eq_ediv_of_nonneg h,Int.tmod_eq_emod_of_nonneg h⟩
theorem aao (ρ:Env) (d:vS ρ.num):Sat wX D6 [] ρ K8:=by
 replace d:vS ρ:=d
 obtain ⟨⟨j,i,k⟩,⟨s1,s2,s3,s4⟩,f,m⟩:=d
 unfold K8
 refine Sat.br (λc=>?_) (λc=>?_)
 ·simp only [Da] at c
  have g:(aa ρ 0 4).bg:=c
  refine oS (Sat.br (λc2=>?_) (λc2=>?_))
  ·simp only [Da] at c2
   have a:(aa ρ 0 4).look (ρ.iv 71)=none:=by unfold RS.look;rw [if_pos g];exact if_pos c2
   exact Sat.fin ⟨il,(by show false=_;exact (congrArg Option.isSome a).symm),Eq.trans (b:=(aa ρ 0 4)) bI (Eq.symm (ML a))⟩
  ·simp only [Da] at c2
   have a:(aa ρ 0 4).look (ρ.iv 71)=some (({aa ρ 0 4 with index:=ρ.iv 71}:RS).load 13 0 0 (25+ρ.iv 71)):=by unfold RS.look;rw [if_pos g];exact if_neg (by show ¬ρ.iv 71>=ρ.iv 2 * 9;omega)
   obtain ⟨d1,d2⟩:=dm9 f
   refine Sat.ob (by simp only [Da];show _/\_;simp only [IE.den,d1];omega) (Sat.dF (c:=iC) rfl ⟨⟨?_,?_⟩,?_,?_⟩ (λq=>((dw q 4)/\0<=q.iv 71)/\(aa q 0 4).look (q.iv 71)=some (({aa q 0 4 with index:=q.iv 71}:RS).load 13 0 0 (25+q.iv 71))) (λe _=>⟨⟨⟨j,i,k⟩,f⟩,a⟩) λq l=>?_)
   ·show 0<=(ρ.iv 71).tdiv 9;omega
   ·show (ρ.iv 71).tdiv 9<6;omega
   ·show 0<=(ρ.iv 71).tmod 9;omega
   ·show (ρ.iv 71).tmod 9<9;omega
   obtain ⟨⟨⟨j,i,k⟩,f⟩,a⟩:=l
   obtain ⟨d1,d2⟩:=dm9 f
   have e:25+(q.iv 71).tdiv 9 * 9+(q.iv 71).tmod 9=25+q.iv 71:=by omega
   exact Sat.fin ⟨il,(by show true=_;exact (congrArg Option.isSome a).symm),Eq.trans (b:=(({aa q 0 4 with index:=q.iv 71}:RS).load 13 0 0 (25+q.iv 71))) (RS.ext' rfl rfl (congrArg (λx=>(⟨1,0,0,x,Wd.zero,Wd.zero⟩:Ac)) e) rfl rfl rfl FV XC rfl rfl rfl rfl FW rfl MG rfl rfl) (Eq.symm (MK a))⟩
 ·simp only [Da] at c
  have g:¬(aa ρ 0 4).bg:=λh:ρ.iv 0=2\/ρ.iv 0=3=>by omega
  refine Sat.br (λc2=>?_) (λc2=>?_)
  ·simp only [Da] at c2
   have a:(aa ρ 0 4).look (ρ.iv 71)=none:=by unfold RS.look;rw [if_neg g];exact if_pos c2
   exact Sat.fin ⟨il,(by show false=_;exact (congrArg Option.isSome a).symm),Eq.trans (b:=(aa ρ 0 4)) bI (Eq.symm (ML a))⟩
  ·simp only [Da] at c2
   have a:(aa ρ 0 4).look (ρ.iv 71)=some (({aa ρ 0 4 with index:=ρ.iv 71}:RS).load 13 0 0 (79+ρ.iv 71)):=by unfold RS.look;rw [if_neg g];exact if_neg (by show ¬ρ.iv 71>=ρ.iv 2;omega)
   refine Sat.dF (c:=iD) rfl ⟨f,?_⟩ (λq=>((dw q 4)/\0<=q.iv 71)/\(aa q 0 4).look (q.iv 71)=some (({aa q 0 4 with index:=q.iv 71}:RS).load 13 0 0 (79+q.iv 71))) (λe _=>⟨⟨⟨j,i,k⟩,f⟩,a⟩) λq l=>?_
   ·show ρ.iv 71<6;omega
   obtain ⟨⟨⟨j,i,k⟩,f⟩,a⟩:=l
   exact Sat.fin ⟨il,(by show true=_;exact (congrArg Option.isSome a).symm),Eq.trans (b:=(({aa q 0 4 with index:=q.iv 71}:RS).load 13 0 0 (79+q.iv 71))) bI (Eq.symm (MK a))⟩
theorem P8:aK Tryz.prog jT vS wX :=
 bq bM (E:=acn) (cs:=D6) rfl K6 aO rfl aan (by kernel_rfl) (λb _ p a=>by cases a) aao
noncomputable def XL:Ex:={sched:=sched,loops:=[agm],cons:=[iC,iD],fin:=jD}
abbrev agT:List (Nat × IE):=yO [(133,4),(121,2),(118,2),(115,1),(113,4),(108,4),(103,4),(98,13),(84,4),(79,8)]<|yD 68 anc
abbrev agU:List (Nat × BE):=[(135,.lit true),(134,.lit false),(126,yw 58),(123,yw 55),(119,.lit true),(116,.lit true),(114,.lit false),(109,.lit false),(104,.lit false),(99,.lit false),(85,.lit false),(80,.lit false)]
def GZ:Out :=
 .br (.and (.or (.ag (.var 0) (.lit 4)) (.ag (.var 0) (.lit 5))) (.not (.and (.not (.var 55)) (.and (.ag (.var 56) y0) (.ag (.var 57) y0)))))
 (.call 1 {lo:=0,ae:=0,iv:=[(0,yv 1)]} 72 <|
  .fin {lo:=72,ae:=4,iv:=yO [(125,2),(103,4),(98,4),(93,2)]<|yU [(94,.add (.lit 79) (.var 1)),(91,.lit 2),(90,.lit 2)]<|yD 68 KS,bv:=yP [(123,1),(104,1),(99,1)]<|yE 68 agy,ct:=[(138,yu 70 59 7 yN 0),(137,yu 69 70 7 yN 0),(136,yu 68 49 5 yW 0),(122,yl 54 9 5 50 yW 0)],bk:=[(6,yc 3 7),(5,yc 2 7),(4,yc 1 5)]})
 (.br (.or (.ag (.var 0) (.lit 2)) (.ag (.var 0) (.lit 3)))
  (.loop 72 {lo:=72,ae:=4,iv:=[(72,yv 71)]} <|
   .br (.aY (.var 72) (.lit 9))
   (.ob (.ah y0 (.var 72)) <|
    .br (.not (.and (.ag (.cell 54 (.var 72) y0 0) y0) (.and (.ag (.cell 54 (.var 72) y0 1) y0) (.and (.ag (.cell 54 (.var 72) y0 2) y0) (.and (.ag (.cell 54 (.var 72) y0 3) y0) (.not (.cell 54 (.var 72) y0 4)))))))
    (.call 0 {lo:=0,ae:=0,iv:=[(1,yv 72),(0,yv 1)]} 73 <|
     .fin {lo:=72,ae:=4,iv:=yO [(103,4),(98,4),(93,2)]<|yU [(115,yv 72),(94,.add (.add (.lit 25) (.mul (.var 1) (.lit 9))) (.var 72)),(91,.lit 2),(90,.lit 4)]<|yD 68 KS,bv:=yP [(104,1),(99,1)]<|yE 68 agy,ct:=[(138,yu 70 59 7 yN 0),(137,yu 69 70 7 yN 0),(136,yu 68 49 5 yW 0),(122,.up {r:=54,n1:=.lit 9,s1:=5,lo:=50,ks:=yW} 0 [⟨0,(.var 72),y0,4,y3⟩,⟨0,(.var 72),y0,3,y2⟩,⟨0,(.var 72),y0,2,y2⟩,⟨0,(.var 72),y0,1,y2⟩,⟨0,(.var 72),y0,0,y2⟩] y0)],bk:=[(6,yc 3 7),(5,yc 2 7),(4,yc 1 5)]})
    (.ob (.inr .i64 (.add (.var 72) y1)) <|
     .back 0 {lo:=72,ae:=4,iv:=[(72,.add (.var 72) y1)]}))
   (.fin {lo:=72,ae:=4,iv:=agT,bv:=agU,ct:=[(138,yu 70 59 7 yN 0),(122,yl 54 9 5 50 yW 0)],bk:=[(6,yc 3 7)],nb:=[5,4,5,4]}))
  (.fin {lo:=72,ae:=4,iv:=agT,bv:=agU,ct:=[(138,yu 70 59 7 yN 0),(122,yl 54 9 5 50 yW 0)],bk:=[(6,yc 3 7)],nb:=[5,4,5,4]}))
theorem XM:exec tab XL 8000 [] (bZ jD.f jD.nv [] jD.gl jD.hp jD.args)=GZ:=by kernel_rfl
def qN (ρ:Env):Prop:=dw ρ 4/\zI ρ/\0<=ρ.iv 71/\ρ.iv 71<=9
def xL (ρ:Env):Prop:=dw ρ 72/\aa ρ 0 72=(aa ρ 0 4).leave (ρ.iv 71)
def P9 (ρ:Env):Prop:=qN ρ/\(0<=ρ.iv 72/\ρ.iv 72<=9)/\((¬((aa ρ 0 4).bJ/\(aa ρ 0 4).span≠Sp.zero))/\(aa ρ 0 4).bg)/\RS.first (aa ρ 0 4).holds (ρ.iv 71).toNat (9-(ρ.iv 71).toNat)=RS.first (aa ρ 0 4).holds (ρ.iv 72).toNat (9-(ρ.iv 72).toNat)
theorem XN (ρ:Env) (f:qN ρ.num):Sat xL D6 [] ρ GZ:=by
 replace f:qN ρ:=f
 have d:=f
 obtain ⟨⟨m,l,n⟩,⟨s1,s2,s3,s4⟩,w,x⟩:=f
 unfold GZ
 refine Sat.br (λc=>?_) (λc=>?_)
 ·simp only [Da] at c
  have j:(aa ρ 0 4).bJ/\(aa ρ 0 4).span≠Sp.zero:=by
   refine ⟨c.1,λh=>?_⟩
   have t:(⟨ρ.bv 55,ρ.iv 56,ρ.iv 57⟩:Sp)=⟨false,0,0⟩:=h
   simp only [Sp.mk.injEq] at t
   simp_all
  have g:(aa ρ 0 4).leave (ρ.iv 71)=(aa ρ 0 4).kM 2 Sp.zero:=if_pos j
  refine Sat.dF (c:=iD) rfl ⟨s1,s2⟩ (λq=>(dw q 4)/\(aa q 0 4).leave (q.iv 71)=(aa q 0 4).kM 2 Sp.zero) (λe _=>⟨⟨m,l,n⟩,g⟩) λq A=>?_
  obtain ⟨⟨m,l,n⟩,g⟩:=A
  exact Sat.fin ⟨il,Eq.trans (b:=(aa q 0 4).kM 2 Sp.zero) bI (Eq.symm g)⟩
 ·simp only [Da] at c
  have j:¬((aa ρ 0 4).bJ/\(aa ρ 0 4).span≠Sp.zero):=by
   rintro ⟨y,z⟩
   apply z
   show (⟨ρ.bv 55,ρ.iv 56,ρ.iv 57⟩:Sp)=⟨false,0,0⟩
   have y:ρ.iv 0=4\/ρ.iv 0=5:=y
   rcases c with c | ⟨a,b,c⟩
   ·omega
   ·rw [a,b,c]
  refine Sat.br (λc2=>?_) (λc2=>?_)
  ·simp only [Da] at c2
   have k:(aa ρ 0 4).bg:=c2
   refine Sat.qD P9 (λr=>(9-r.iv 72).toNat) (λ_=>True) ⟨d,⟨w,x⟩,⟨j,k⟩,rfl⟩ (λ_=>trivial) λq _ u=>?_
   replace u:P9 q:=u
   obtain ⟨⟨⟨m,l,n⟩,⟨s1,s2,s3,s4⟩,w,x⟩,⟨o,E⟩,⟨j,k⟩,p⟩:=u
   have d:qN q:=⟨⟨m,l,n⟩,⟨s1,s2,s3,s4⟩,w,x⟩
   refine Sat.br (λc=>?_) (λc=>?_)
   ·simp only [Da] at c
    have C:9-(q.iv 72).toNat=(9-(q.iv 72+1).toNat)+1:=by omega
    rw [C] at p
    refine Sat.ob (decide_eq_true o) (Sat.br (λc3=>?_) (λc3=>?_))
    ·simp only [Da] at c3
     have s:(aa q 0 4).holds (q.iv 72).toNat≠Wd.zero:=λh=>by
      have t:=DZ.1 h
      simp only [aa,bu,Wd.zero] at t
      simp_all
     have g:(aa q 0 4).leave (q.iv 71)=({aa q 0 4 with index:=q.iv 72}:RS).post 4 (q.iv 72) Wd.zero:=by
      have e:RS.first (aa q 0 4).holds (q.iv 71).toNat (9-(q.iv 71).toNat)=some (q.iv 72).toNat:=by rw [p];exact if_pos s
      unfold RS.leave
      rw [if_neg j,if_pos k,e]
      simp only [Int.toNat_of_nonneg o]
     refine Sat.dF (c:=iC) rfl ⟨⟨s1,s2⟩,o,c⟩ (λr=>((dw r 4)/\0<=r.iv 72)/\(aa r 0 4).leave (r.iv 71)=({aa r 0 4 with index:=r.iv 72}:RS).post 4 (r.iv 72) Wd.zero) (λe _=>⟨⟨⟨m,l,n⟩,o⟩,g⟩) λr B=>?_
     obtain ⟨⟨⟨m,l,n⟩,o⟩,g⟩:=B
     refine Sat.fin ⟨il,Eq.trans (b:=({aa r 0 4 with index:=r.iv 72}:RS).post 4 (r.iv 72) Wd.zero) (RS.ext' rfl rfl rfl rfl rfl rfl FV XC rfl rfl rfl rfl ?_ rfl MG rfl rfl) (Eq.symm g)⟩
     intro i
     show _=if i=(r.iv 72).toNat then Wd.zero else bu (r.ic 54 i 0) (r.bc 54 i 0)
     by_cases h:i=(r.iv 72).toNat
     ·subst h
      simp [aa,bu,Wd.zero,-Int.pred_toNat,Na]
     ·simp [aa,bu,-Int.pred_toNat,Na,h,Ne.symm h]
    ·simp only [Da] at c3
     have D:(aa q 0 4).holds (q.iv 72).toNat=Wd.zero:=by
      apply DZ.2
      simp only [aa,bu,Wd.zero]
      simp_all
     refine oS (Sat.back rfl ⟨⟨d,⟨?_,?_⟩,⟨j,k⟩,?_⟩,?_⟩)
     ·show 0<=q.iv 72+1;omega
     ·show q.iv 72+1<=9;omega
     ·show RS.first (aa q 0 4).holds (q.iv 71).toNat (9-(q.iv 71).toNat)=RS.first (aa q 0 4).holds (q.iv 72+1).toNat (9-(q.iv 72+1).toNat)
      rw [p,show (q.iv 72+1).toNat=(q.iv 72).toNat+1 by omega]
      exact if_neg (λh=>h D)
     ·show (9-(q.iv 72+1)).toNat<(9-q.iv 72).toNat
      omega
   ·simp only [Da] at c
    have g:(aa q 0 4).leave (q.iv 71)=(aa q 0 4).done:=by
     have e:RS.first (aa q 0 4).holds (q.iv 71).toNat (9-(q.iv 71).toNat)=none:=by rw [p,show 9-(q.iv 72).toNat=0 by omega];rfl
     unfold RS.leave
     rw [if_neg j,if_pos k,e]
    exact Sat.fin ⟨il,Eq.trans (b:=(aa q 0 4).done) bI (Eq.symm g)⟩
  ·simp only [Da] at c2
   have k:¬(aa ρ 0 4).bg:=λh:ρ.iv 0=2\/ρ.iv 0=3=>by omega
   have g:(aa ρ 0 4).leave (ρ.iv 71)=(aa ρ 0 4).done:=by
    unfold RS.leave
    rw [if_neg j,if_neg k]
   exact Sat.fin ⟨il,Eq.trans (b:=(aa ρ 0 4).done) bI (Eq.symm g)⟩
theorem MM:aK Tryz.prog jD qN xL :=
 bq bM (E:=XL) (cs:=D6) rfl K6 aO rfl XM (by kernel_rfl) (λb _ p a=>by cases a) XN
def Bj (ρ:Env):Prop:=dw ρ 4/\zI ρ
def U8:mo:=[(jT,vS,wX)]
theorem aew:∀k pre post,(k,pre,post)∈U8->kX k=true/\aK Tryz.prog k pre post:=by
 intro k pre post h
 simp only [U8,List.mem_cons,List.not_mem_nil,or_false,Prod.mk.injEq] at h
 obtain ⟨rfl,rfl,rfl⟩:=h
 exact ⟨by kernel_rfl,P8⟩
noncomputable def aco:Ex:={sched:=sched,loops:=[],cons:=[jT],fin:=kJ}
def K9:Out :=
 .br (.ag (.var 0) y1)
 (.fin {lo:=71,ae:=4,iv:=yO [(132,4),(120,2),(117,2),(114,1),(112,4),(107,4),(102,4),(97,13),(83,4),(78,8)]<|yD 67 UT,bv:=[(134,.lit true),(133,.lit false),(125,yw 58),(122,yw 55),(118,.lit true),(115,.lit true),(113,.lit false),(108,.lit false),(103,.lit false),(98,.lit false),(84,.lit false),(79,.lit false)],ct:=[(137,yu 70 59 7 yN 0),(121,yl 54 9 5 50 yW 0)],bk:=[(6,yc 3 7)],nb:=[5,4,5,4]})
 (.br (.ag (.var 0) (.lit 4))
  (.fin {lo:=71,ae:=4,iv:=yO [(102,4),(97,4),(92,2)]<|yU [(93,.lit 24),(90,.lit 1),(89,.lit 12)]<|yD 67 mV,bv:=yP [(103,1),(98,1)]<|yE 67 oU,ct:=[(137,yu 70 59 7 yN 0),(136,yu 69 70 7 yN 0),(135,yu 68 49 5 yW 0),(121,yl 54 9 5 50 yW 0)],bk:=[(6,yc 3 7),(5,yc 2 7),(4,yc 1 5)]})
  (.call 0 {lo:=0,ae:=0,iv:=yO [(71,1)]<|yD 0 PL,bv:=yE 0 mQ,ct:=[(70,yu 70 59 7 yN 0),(69,yu 69 70 7 yN 0),(68,yu 68 49 5 yW 0),(54,yl 54 9 5 50 yW 0)],bk:=[(3,yc 3 7),(2,yc 2 7),(1,yc 1 5),(0,yb 0)]} 71 <|
   .fin {lo:=71,ae:=4,iv:=yD 0 mV,bv:=yE 0 oU,ct:=[(137,yu 137 126 7 yN 0),(136,yu 136 137 7 yN 0),(135,yu 135 116 5 yW 0),(121,yl 121 9 5 50 yW 0)],bk:=[(6,yc 6 7),(5,yc 5 7),(4,yc 4 5)]}))
theorem aap:exec tab aco 8000 [] (bZ kJ.f kJ.nv [] kJ.gl kJ.hp kJ.args)=K9:=by kernel_rfl
def Bl (ρ:Env):Prop:=dw ρ 71/\aa ρ 0 71=(aa ρ 0 4).scan
theorem aaq (ρ:Env) (a:Bj ρ.num):Sat Bl U8 [] ρ K9:=by
 replace a:Bj ρ:=a
 obtain ⟨⟨j,i,h⟩,m⟩:=a
 unfold K9
 refine Sat.br (λc=>?_) (λc=>?_)
 ·simp only [Da] at c
  have d:(aa ρ 0 4).scan=(aa ρ 0 4).done:=if_pos c
  exact Sat.fin ⟨il,Eq.trans (b:=(aa ρ 0 4).done) bI (Eq.symm d)⟩
 ·simp only [Da] at c
  refine Sat.br (λc2=>?_) (λc2=>?_)
  ·simp only [Da] at c2
   have d:(aa ρ 0 4).scan=(aa ρ 0 4).era 12:=(if_neg c).trans (if_pos c2)
   exact Sat.fin ⟨il,Eq.trans (b:=(aa ρ 0 4).era 12) bI (Eq.symm d)⟩
  ·simp only [Da] at c2
   have d:(aa ρ 0 4).scan=((aa ρ 0 4).look 0).getD (aa ρ 0 4):=(if_neg c).trans (if_neg c2)
   refine jO (c:=jT) rfl (aa ρ 0 4) (((aa ρ 0 4).look 0).getD (aa ρ 0 4)) (by decide) (by decide) (ru rfl rfl rfl rfl) ⟨⟨j,i,h⟩,m,Int.le_refl 0,(show (0:Int)<=1000000 by decide)⟩ bI (λe f k=>⟨f.1,by
     have g:=f.2.2
     rw [k] at g
     exact g⟩) (λq=>(dw q 71)/\aa q 0 71=(aa q 0 4).scan) (λe l g=>⟨l,g.trans d.symm⟩) λq f=>?_
   obtain ⟨⟨j,i,h⟩,d⟩:=f
   exact Sat.fin ⟨il,Eq.trans (b:=(aa q 0 71)) bI (Eq.symm d.symm)⟩
theorem Qa:aK Tryz.prog kJ Bj Bl :=
 bq bM (E:=aco) (cs:=U8) rfl aew aO rfl aap (by kernel_rfl) (λb _ p a=>by cases a) aaq
def Qb (ρ:Env) (v:Nat):Prop:=ρ.iv (v+55)<=1000000
noncomputable def acp:Ex:={sched:=sched,loops:=[],fin:=lQ}
abbrev acr:List (Nat × CV):=[(70,yu 70 59 7 yN 0),(69,yu 69 70 7 yN 0),(68,yu 68 49 5 yW 0),(54,yl 54 9 5 50 yW 0)]
abbrev acs:List (Nat × IE):=yO [(132,4),(120,2),(117,2),(114,1),(112,4),(107,4),(102,4),(97,13),(83,4),(78,8)]<|yD 67 UT
abbrev acu:List (Nat × BE):=[(134,.lit true),(133,.lit false),(125,yw 58),(122,yw 55),(118,.lit true),(115,.lit true),(113,.lit false),(108,.lit false),(103,.lit false),(98,.lit false),(84,.lit false),(79,.lit false)]
abbrev U9:List (Nat × CV):=[(137,yu 70 59 7 yN 0),(136,yu 69 70 7 yN 0),(135,yu 68 49 5 yW 0),(121,yl 54 9 5 50 yW 0)]
abbrev Va:List (Nat × SA):=[(6,yc 3 7),(5,yc 2 7),(4,yc 1 5)]
abbrev acv:List (Nat × IE):=yO [(102,4),(97,4)]<|yU [(93,.lit 9),(92,yv 9),(91,yv 8),(90,.lit 1),(89,.lit 9)]<|yD 67 mV
def La:Out :=
 .ob (.ah (.mul (.add (.var 59) y1) (.lit 56)) (.lit 140737488355328)) <|
 .ob (.ah y0 (.var 59)) <|
 .ob (.ah (.var 59) (.var 60)) <|
 .ob (.ah (.var 60) (.lit 9223372036854775807)) <|
 .ob (.or (.not (.var 58)) (.ag (.var 59) y0)) <|
 .new 73 [.be (.and (.ah (.add (.var 59) y1) (.var 73)) (.ah (.var 73) (.lit 9223372036854775807)))] <|
 .fin {lo:=73,ae:=4,iv:=yU [(129,yv 73),(128,.add (.var 59) y1)]<|yD 69 ane,bv:=yP [(127,1)]<|yE 69 anf,ct:=[(139,.up {r:=70,n1:=.add (.var 59) y1,s1:=7,ks:=yN} 0 [⟨0,(.var 59),y0,0,.int .i64 (.var 8)⟩,⟨0,(.var 59),y0,1,.int .i64 (.var 9)⟩,⟨0,(.var 59),y0,2,y2⟩,⟨0,(.var 59),y0,3,y2⟩,⟨0,(.var 59),y0,4,y3⟩,⟨0,(.var 59),y0,5,.int .i64 (.var 71)⟩,⟨0,(.var 59),y0,6,.int .i64 (.var 72)⟩] y0),(138,yu 69 70 7 yN 0),(137,yu 68 49 5 yW 0),(123,yl 54 9 5 50 yW 0)],bk:=[(6,yc 7 7),(5,yc 2 7),(4,yc 1 5)]}
theorem aar:exec tab acp 8000 [] (bZ lQ.f lQ.nv [] lQ.gl lQ.hp lQ.args)=La:=by kernel_rfl
def Fb (ρ:Env):Prop:=dw ρ 4/\Qb ρ 4
def G5 (ρ:Env):Prop:=dw ρ 73/\aa ρ 0 73=(aa ρ 0 4).note (ρ.iv 71) (ρ.iv 72)
theorem aas (ρ:Env) (a:Fb ρ.num):Sat G5 [] [] ρ La:=by
 replace a:Fb ρ:=a
 obtain ⟨⟨k,j,f⟩,l⟩:=a
 have g:=f
 obtain ⟨u,c,o,p⟩:=f
 replace l:ρ.iv 59<=1000000:=l
 unfold La
 refine oS (Sat.ob (decide_eq_true c) (Sat.ob (decide_eq_true o) (Sat.ob (decide_eq_true p) (Sat.ob (dP g) (Sat.uK (λq=>dw q 4/\0<=q.iv 59) (λe=>⟨⟨k,j,g⟩,c⟩) λq s d=>?_)))))
 obtain ⟨⟨k,j,f⟩,c⟩:=s
 simp only [Da] at d
 have t:∀i:Nat,(i:Int)<q.iv 59->¬(q.iv 59).toNat=i:=λi m h=>by omega
 refine Sat.fin ⟨⟨ok1,ok2,?_⟩,Eq.trans (b:=(aa q 0 4).note (q.iv 71) (q.iv 72)) (RS.ext' rfl rfl rfl rfl rfl rfl FV XC rfl rfl rfl rfl FW rfl ?_ rfl rfl) (Eq.symm (rfl))⟩
 ·refine ⟨λh=>(by cases h),?_,?_,?_⟩
  ·show 0<=q.iv 59+1;omega
  ·exact d.1
  ·exact d.2
 ·refine (Bh (ρ:=q) (r:=70) (n:=q.iv 59) (w:=⟨Wd.bN (aC q 8),q.iv 71,q.iv 72⟩) c rfl (λi m=>?_) ?_)
  ·simp [bB,bu,-Int.pred_toNat,Na,t i m]
  ·simp [bB,bu,aC,Wd.bN,-Int.pred_toNat,Na]
theorem aat:aK Tryz.prog lQ Fb G5 :=
 bq bM (E:=acp) (cs:=[]) rfl (λk pre post h=>by cases h) aO rfl aar (by kernel_rfl) (λb _ p a=>by cases a) aas
def NH:mo:=[(kJ,Bj,Bl)]
theorem aau:∀k pre post,(k,pre,post)∈NH->kX k=true/\aK Tryz.prog k pre post:=by
 intro k pre post h
 simp only [NH,List.mem_cons,List.not_mem_nil,or_false,Prod.mk.injEq] at h
 obtain ⟨rfl,rfl,rfl⟩:=h
 exact ⟨by kernel_rfl,Qa⟩
noncomputable def XO:Ex:={sched:=sched,loops:=[],cons:=[kJ],fin:=jE}
def G6:Out :=
 .ob (.or (.not (.var 58)) (.ag (.var 59) y0)) <|
 .ob (.ah y0 (.var 59)) <|
 .br (.ah (.var 3) (.var 59))
 (.call 0 {lo:=0,ae:=0,iv:=yD 0 yG,bv:=yE 0 mQ,ct:=acr,bk:=[(3,yc 3 7),(2,yc 2 7),(1,yc 1 5),(0,yb 0)]} 71 <|
  .fin {lo:=71,ae:=4,iv:=yD 0 mV,bv:=yE 0 oU,ct:=[(137,yu 137 126 7 yN 0),(136,yu 136 137 7 yN 0),(135,yu 135 116 5 yW 0),(121,yl 121 9 5 50 yW 0)],bk:=[(6,yc 6 7),(5,yc 5 7),(4,yc 4 5)]})
 (.fin {lo:=71,ae:=4,iv:=acs,bv:=acu,ct:=[(137,yu 70 59 7 yN 0),(121,yl 54 9 5 50 yW 0)],bk:=[(6,yc 3 7)],nb:=[5,4,5,4]})
theorem XP:exec tab XO 8000 [] (bZ jE.f jE.nv [] jE.gl jE.hp jE.args)=G6:=by kernel_rfl
def D7 (ρ:Env):Prop:=dw ρ 71/\aa ρ 0 71=(aa ρ 0 4).bQ
theorem XQ (ρ:Env) (a:Bj ρ.num):Sat D7 NH [] ρ G6:=by
 replace a:Bj ρ:=a
 obtain ⟨⟨j,i,f⟩,n⟩:=a
 unfold G6
 have h:((aa ρ 0 4).notes.length:Int)=ρ.iv 59:=by
  have:=f.2.1
  show ((aN ρ 70 (ρ.iv 59)).length:Int)=_
  rw [jN]
  exact Int.toNat_of_nonneg this
 refine Sat.ob (dP f) (Sat.ob (decide_eq_true f.2.1) (Sat.br (λc=>?_) (λc=>?_)))
 ·simp only [Da] at c
  have d:(aa ρ 0 4).bQ=(aa ρ 0 4).scan:=if_pos (by rw [h];exact c)
  refine jO (c:=kJ) rfl (aa ρ 0 4) (aa ρ 0 4).scan (by decide) (by decide) (ru rfl rfl rfl rfl) ⟨⟨j,i,f⟩,n⟩ bI (λe g l=>⟨g.1,by rw [<-l];exact g.2⟩) (λq=>(dw q 71)/\aa q 0 71=(aa q 0 4).bQ) (λe m k=>⟨m,k.trans d.symm⟩) λq g=>?_
  obtain ⟨⟨j,i,f⟩,d⟩:=g
  exact Sat.fin ⟨il,Eq.trans (b:=(aa q 0 71)) bI (Eq.symm d.symm)⟩
 ·simp only [Da] at c
  have d:(aa ρ 0 4).bQ=(aa ρ 0 4).done:=if_neg (by rw [h];show ¬ρ.iv 59>=ρ.iv 3;omega)
  exact Sat.fin ⟨il,Eq.trans (b:=(aa ρ 0 4).done) bI (Eq.symm d)⟩
theorem XR:aK Tryz.prog jE Bj D7 :=
 bq bM (E:=XO) (cs:=NH) rfl aau aO rfl XP (by kernel_rfl) (λb _ p a=>by cases a) XQ
def Lb:mo:=[(lQ,Fb,G5),(jE,Bj,D7)]
theorem Tc:∀k pre post,(k,pre,post)∈Lb->kX k=true/\aK Tryz.prog k pre post:=by
 intro k pre post h
 simp only [Lb,List.mem_cons,List.not_mem_nil,or_false,Prod.mk.injEq] at h
 rcases h with ⟨rfl,rfl,rfl⟩ | ⟨rfl,rfl,rfl⟩
 ·exact ⟨by kernel_rfl,aat⟩
 ·exact ⟨by kernel_rfl,XR⟩
noncomputable def Td:Ex:={sched:=sched,loops:=[],cons:=[lQ,jE],fin:=kG}
def D8:Out :=
 .br (.ag (.var 0) (.lit 2))
 (.call 0 {lo:=0,ae:=0,iv:=yO [(72,2)]<|yD 0 agz,bv:=yE 0 mQ,ct:=acr,bk:=[(3,yc 3 7),(2,yc 2 7),(1,yc 1 5),(0,yb 0)]} 71 <|
  .call 1 {lo:=0,ae:=0,iv:=yo [(70,yv 137)]<|yr 65 132 7<|yo [(57,yv 124),(56,yv 123)]<|yr 3 3 4<|yo [(53,yv 120),(52,yv 119),(69,yv 136),(50,yv 117),(49,yv 116),(47,yv 114)]<|yr 45 112 4<|yr 40 107 4<|yr 35 102 4<|yr 30 97 13<|yr 16 83 4<|yr 11 78 8 [],bv:=[(67,yw 134),(66,yw 133),(58,yw 125),(55,yw 122),(51,yw 118),(48,yw 115),(46,yw 113),(41,yw 108),(36,yw 103),(31,yw 98),(17,yw 84),(12,yw 79)],ct:=[(70,yu 137 126 7 yN 0),(69,yu 136 137 7 yN 0),(68,yu 135 116 5 yW 0),(54,yl 121 9 5 50 yW 0)],bk:=[(3,yc 6 7),(2,yc 5 7),(1,yc 4 5),(0,yb 0)]} 138 <|
  .fin {lo:=71,ae:=4,iv:=yo [(137,yv 204)]<|yr 132 199 7<|yo [(124,yv 191),(123,yv 190),(120,yv 187),(119,yv 186),(136,yv 203),(117,yv 184),(116,yv 183),(114,yv 181)]<|yr 112 179 4<|yr 107 174 4<|yr 102 169 4<|yr 97 164 13<|yr 83 150 4<|yr 78 145 8 [],bv:=[(134,yw 201),(133,yw 200),(125,yw 192),(122,yw 189),(118,yw 185),(115,yw 182),(113,yw 180),(108,yw 175),(103,yw 170),(98,yw 165),(84,yw 151),(79,yw 146)],ct:=[(137,yu 204 193 7 yN 0),(136,yu 203 204 7 yN 0),(135,yu 202 183 5 yW 0),(121,yl 188 9 5 50 yW 0)],bk:=[(6,yc 9 7),(5,yc 8 7),(4,yc 7 5)]})
 (.br (.ag (.var 0) (.lit 4))
  (.fin {lo:=71,ae:=4,iv:=yO [(102,4),(97,4),(92,2)]<|yU [(93,.lit 24),(90,.lit 1),(89,.lit 10)]<|yD 67 mV,bv:=yP [(103,1),(98,1)]<|yE 67 oU,ct:=U9,bk:=Va})
  (.br (.ag (.var 0) (.lit 3))
   (.fin {lo:=71,ae:=4,iv:=acv,bv:=yP [(103,1),(98,1)]<|yE 67 oU,ct:=U9,bk:=Va})
   (.br (.ag (.var 0) (.lit 5))
    (.fin {lo:=71,ae:=4,iv:=acv,bv:=yP [(103,1),(98,1)]<|yE 67 oU,ct:=U9,bk:=Va})
    (.fin {lo:=71,ae:=4,iv:=acs,bv:=acu,ct:=[(137,yu 70 59 7 yN 0),(121,yl 54 9 5 50 yW 0)],bk:=[(6,yc 3 7)],nb:=[5,4,5,4]}))))
theorem Vb:exec tab Td 8000 [] (bZ kG.f kG.nv [] kG.gl kG.hp kG.args)=D8:=by kernel_rfl
def xM (ρ:Env):Prop:=dw ρ 4/\zI ρ/\Qb ρ 4
def Bn (ρ:Env):Prop:=dw ρ 71/\aa ρ 0 71=(aa ρ 0 4).fC
theorem Vd (ρ:Env) (d:xM ρ.num):Sat Bn Lb [] ρ D8:=by
 replace d:xM ρ:=d
 obtain ⟨⟨i,g,j⟩,n,o⟩:=d
 unfold D8
 refine Sat.br (λc=>?_) (λc=>?_)
 ·simp only [Da] at c
  have a:(aa ρ 0 4).fC=((aa ρ 0 4).note 0 0).bQ:=if_pos c
  refine jO (c:=lQ) rfl (aa ρ 0 4) ((aa ρ 0 4).note 0 0) (by decide) (by decide) (ru rfl rfl rfl rfl) ⟨⟨i,g,j⟩,o⟩ bI (λe f m=>⟨f.1,by rw [<-m];exact f.2⟩) (λq=>(dw q 71)/\zI q/\aa q 0 71=(aa q 0 4).note 0 0/\(aa q 0 4).fC=((aa q 0 4).note 0 0).bQ) (λe l k=>⟨l,n,k,a⟩) λq f=>?_
  obtain ⟨⟨i,g,j⟩,n,r,a⟩:=f
  refine jO (c:=jE) rfl (aa q 0 71) (aa q 0 71).bQ (by decide) (by decide) (ru rfl rfl rfl rfl) ⟨⟨i,g,j⟩,n⟩ bI (λe f m=>⟨f.1,by rw [<-m];exact f.2⟩) (λu=>(dw u 138)/\aa u 0 138=(aa u 0 4).fC) (λe l k=>⟨l,k.trans ((congrArg RS.bQ r).trans a.symm)⟩) λu p=>?_
  obtain ⟨⟨i,g,j⟩,a⟩:=p
  exact Sat.fin ⟨il,Eq.trans (b:=(aa u 0 138)) bI (Eq.symm a.symm)⟩
 ·simp only [Da] at c
  refine Sat.br (λc2=>?_) (λc2=>?_)
  ·simp only [Da] at c2
   have a:(aa ρ 0 4).fC=(aa ρ 0 4).era 10:=(if_neg c).trans (if_pos c2)
   exact Sat.fin ⟨il,Eq.trans (b:=(aa ρ 0 4).era 10) bI (Eq.symm a)⟩
  ·simp only [Da] at c2
   refine Sat.br (λc3=>?_) (λc3=>?_)
   ·simp only [Da] at c3
    have a:(aa ρ 0 4).fC=(aa ρ 0 4).load 9 (ρ.iv 8) (ρ.iv 9) 9:=(if_neg c).trans ((if_neg c2).trans (if_pos (.inl c3)))
    exact Sat.fin ⟨il,Eq.trans (b:=(aa ρ 0 4).load 9 (ρ.iv 8) (ρ.iv 9) 9) bI (Eq.symm a)⟩
   ·simp only [Da] at c3
    refine Sat.br (λc4=>?_) (λc4=>?_)
    ·simp only [Da] at c4
     have a:(aa ρ 0 4).fC=(aa ρ 0 4).load 9 (ρ.iv 8) (ρ.iv 9) 9:=(if_neg c).trans ((if_neg c2).trans (if_pos (.inr c4)))
     exact Sat.fin ⟨il,Eq.trans (b:=(aa ρ 0 4).load 9 (ρ.iv 8) (ρ.iv 9) 9) bI (Eq.symm a)⟩
    ·simp only [Da] at c4
     have a:(aa ρ 0 4).fC=(aa ρ 0 4).done:=(if_neg c).trans ((if_neg c2).trans (if_neg (λh=>h.elim c3 c4)))
     exact Sat.fin ⟨il,Eq.trans (b:=(aa ρ 0 4).done) bI (Eq.symm a)⟩
theorem Ve:aK Tryz.prog kG xM Bn :=
 bq bM (E:=Td) (cs:=Lb) rfl Tc aO rfl Vb (by kernel_rfl) (λb _ p a=>by cases a) Vd
def JB (ρ:Env) (v:Nat):Prop:=(-1000000000000<=ρ.iv (v+2)/\ρ.iv (v+2)<=1000000000000)/\-1000000000000<=ρ.iv (v+3)/\ρ.iv (v+3)<=1000000000000
noncomputable def acw:Ex:={sched:=sched,loops:=[],cons:=[lQ,jE],fin:=oo}
abbrev acx:List (Nat × CV):=[(143,yu 70 59 7 yN 0),(142,yu 69 70 7 yN 0),(141,yu 68 49 5 yW 0),(127,yl 54 9 5 50 yW 0)]
abbrev acy:List (Nat × CV):=[(70,yu 70 59 7 yN 0),(69,yu 69 70 7 yN 0),(68,yu 68 49 5 yW 0),(54,yl 54 9 5 50 yW 0)]
abbrev acz:List (Nat × CV):=[(143,yu 143 132 7 yN 0),(142,yu 142 143 7 yN 0),(141,yu 141 122 5 yW 0),(127,yl 127 9 5 50 yW 0)]
def Lc:Out :=
 .br (.ag (.var 22) (.lit 9))
 (.fin {lo:=77,ae:=4,iv:=yO [(108,4),(103,4),(98,2)]<|yU (yr 113 74 4<|[(99,.lit 24),(96,.lit 1),(95,.lit 10)])<|yD 73 jY,bv:=yP [(109,1),(104,1)]<|yV [(114,yw 75)]<|yE 73 kL,ct:=acx,bk:=[(6,yc 3 7),(5,yc 2 7),(4,yc 1 5)]})
 (.br (.ag (.var 22) (.lit 10))
  (.call 0 {lo:=0,ae:=0,iv:=yU (yr 45 74 4<|[(72,yv 74),(71,yv 40)])<|yD 0 agz,bv:=yV [(46,yw 75)]<|yE 0 mQ,ct:=acy,bk:=[(3,yc 3 7),(2,yc 2 7),(1,yc 1 5),(0,yb 0)]} 77 <|
   .br (.or (.ag (.var 0) (.lit 3)) (.ag (.var 0) (.lit 5)))
   (.ob (.inr .i64 (.add (.var 117) y1)) <|
    .ob (.inr .i64 (.add (.var 118) y1)) <|
    .fin {lo:=77,ae:=4,iv:=yO [(106,2),(98,2)]<|yU (yr 103 118 4<|[(108,.add (.var 118) y1),(107,.add (.var 117) y1),(99,.lit 24),(96,.lit 3),(95,.lit 11)])<|yD 0 jY,bv:=yP [(109,1)]<|yV [(104,yw 119)]<|yE 0 kL,ct:=acz,bk:=[(6,yc 7 7),(5,yc 6 7),(4,yc 5 5)]})
   (.call 1 {lo:=0,ae:=0,iv:=yo [(70,yv 143)]<|yr 65 138 7<|yo [(57,yv 130),(56,yv 129)]<|yr 3 3 4<|yo [(53,yv 126),(52,yv 125),(69,yv 142),(50,yv 123),(49,yv 122),(47,yv 120)]<|yr 45 118 4<|yr 40 113 4<|yr 35 108 4<|yr 30 103 13<|yr 16 89 4<|yr 11 84 8 [],bv:=[(67,yw 140),(66,yw 139),(58,yw 131),(55,yw 128),(51,yw 124),(48,yw 121),(46,yw 119),(41,yw 114),(36,yw 109),(31,yw 104),(17,yw 90),(12,yw 85)],ct:=[(70,yu 143 132 7 yN 0),(69,yu 142 143 7 yN 0),(68,yu 141 122 5 yW 0),(54,yl 127 9 5 50 yW 0)],bk:=[(3,yc 7 7),(2,yc 6 7),(1,yc 5 5),(0,yb 0)]} 144 <|
    .fin {lo:=77,ae:=4,iv:=yo [(143,yv 210)]<|yr 138 205 7<|yo [(130,yv 197),(129,yv 196),(126,yv 193),(125,yv 192),(142,yv 209),(123,yv 190),(122,yv 189),(120,yv 187)]<|yr 118 185 4<|yr 113 180 4<|yr 108 175 4<|yr 103 170 13<|yr 89 156 4<|yr 84 151 8 [],bv:=[(140,yw 207),(139,yw 206),(131,yw 198),(128,yw 195),(124,yw 191),(121,yw 188),(119,yw 186),(114,yw 181),(109,yw 176),(104,yw 171),(90,yw 157),(85,yw 152)],ct:=[(143,yu 210 199 7 yN 0),(142,yu 209 210 7 yN 0),(141,yu 208 189 5 yW 0),(127,yl 194 9 5 50 yW 0)],bk:=[(6,yc 10 7),(5,yc 9 7),(4,yc 8 5)]}))
  (.br (.ag (.var 22) (.lit 11))
   (.call 1 {lo:=0,ae:=0,iv:=yD 0 yG,bv:=yE 0 mQ,ct:=acy,bk:=[(3,yc 3 7),(2,yc 2 7),(1,yc 1 5),(0,yb 0)]} 77 <|
    .fin {lo:=77,ae:=4,iv:=yD 0 jY,bv:=yE 0 kL,ct:=acz,bk:=[(6,yc 7 7),(5,yc 6 7),(4,yc 5 5)]})
   (.fin {lo:=77,ae:=4,iv:=yD 73 jY,bv:=yE 73 kL,ct:=acx,bk:=[(6,yc 3 7),(5,yc 2 7),(4,yc 1 5)]})))
theorem aav:exec tab acw 8000 [] (bZ oo.f oo.nv [] oo.gl oo.hp oo.args)=Lc:=by kernel_rfl
def Fe (ρ:Env):Prop:=dw ρ 4/\zI ρ/\Qb ρ 4/\JB ρ 71
def G7 (ρ:Env):Prop:=dw ρ 77/\aa ρ 0 77=(aa ρ 0 4).gL (az ρ 71)
theorem aaw (ρ:Env) (d:Fe ρ.num):Sat G7 Lb [] ρ Lc:=by
 replace d:Fe ρ:=d
 obtain ⟨⟨i,g,j⟩,n,y,o⟩:=d
 unfold Lc
 refine Sat.br (λc=>?_) (λc=>?_)
 ·simp only [Da] at c
  have a:(aa ρ 0 4).gL (az ρ 71)=({aa ρ 0 4 with word:=aC ρ 71}:RS).era 10:=if_pos c
  exact Sat.fin ⟨il,Eq.trans (b:=({aa ρ 0 4 with word:=aC ρ 71}:RS).era 10) bI (Eq.symm a)⟩
 ·simp only [Da] at c
  refine Sat.br (λc2=>?_) (λc2=>?_)
  ·simp only [Da] at c2
   have a:(aa ρ 0 4).gL (az ρ 71)=if (aa ρ 0 4).bF then ((({aa ρ 0 4 with clock:=aC ρ 71}:RS).note (ρ.iv 40) (ρ.iv 74))).advance 11 else (({aa ρ 0 4 with clock:=aC ρ 71}:RS).note (ρ.iv 40) (ρ.iv 74)).bQ:=(if_neg c).trans (if_pos c2)
   refine jO (c:=lQ) rfl ({aa ρ 0 4 with clock:=aC ρ 71}:RS) (({aa ρ 0 4 with clock:=aC ρ 71}:RS).note (ρ.iv 40) (ρ.iv 74)) (by decide) (by decide) (ru rfl rfl rfl rfl) ⟨⟨i,g,j⟩,y⟩ bI (λe f m=>⟨f.1,by rw [<-m];exact f.2⟩) (λq=>(dw q 77)/\zI q/\JB q 71/\aa q 0 77=({aa q 0 4 with clock:=aC q 71}:RS).note (q.iv 40) (q.iv 74)/\(aa q 0 4).gL (az q 71)=if (aa q 0 4).bF then ((({aa q 0 4 with clock:=aC q 71}:RS).note (q.iv 40) (q.iv 74))).advance 11 else (({aa q 0 4 with clock:=aC q 71}:RS).note (q.iv 40) (q.iv 74)).bQ) (λe l k=>⟨l,n,o,k,a⟩) λq f=>?_
   obtain ⟨⟨i,g,j⟩,n,o,r,a⟩:=f
   rw [<-r] at a
   have s:aC q 115=aC q 71:=congrArg RS.clock r
   have B:q.iv 117=q.iv 73:=congrArg Wd.tag s
   have A:q.iv 118=q.iv 74:=congrArg Wd.num s
   obtain ⟨⟨w,z⟩,x,t⟩:=o
   simp only [Nat.reduceAdd] at w z x t
   refine Sat.br (λc3=>?_) (λc3=>?_)
   ·simp only [Da] at c3
    rw [if_pos (show (aa q 0 4).bF from c3)] at a
    refine oS (oS (Sat.fin ⟨il,Eq.trans (b:=(aa q 0 77).advance 11) bI (Eq.symm a)⟩))
   ·simp only [Da] at c3
    rw [if_neg (show ¬(aa q 0 4).bF from λh:q.iv 0=3\/q.iv 0=5=>by omega)] at a
    refine jO (c:=jE) rfl (aa q 0 77) (aa q 0 77).bQ (by decide) (by decide) (ru rfl rfl rfl rfl) ⟨⟨i,g,j⟩,n⟩ bI (λe f m=>⟨f.1,by rw [<-m];exact f.2⟩) (λu=>(dw u 144)/\aa u 0 144=(aa u 0 4).gL (az u 71)) (λe l k=>⟨l,k.trans a.symm⟩) λu p=>?_
    obtain ⟨⟨i,g,j⟩,a⟩:=p
    exact Sat.fin ⟨il,Eq.trans (b:=(aa u 0 144)) bI (Eq.symm a.symm)⟩
  ·simp only [Da] at c2
   refine Sat.br (λc3=>?_) (λc3=>?_)
   ·simp only [Da] at c3
    have a:(aa ρ 0 4).gL (az ρ 71)=(aa ρ 0 4).bQ:=(if_neg c).trans ((if_neg c2).trans (if_pos c3))
    refine jO (c:=jE) rfl (aa ρ 0 4) (aa ρ 0 4).bQ (by decide) (by decide) (ru rfl rfl rfl rfl) ⟨⟨i,g,j⟩,n⟩ bI (λe f m=>⟨f.1,by rw [<-m];exact f.2⟩) (λu=>(dw u 77)/\aa u 0 77=(aa u 0 4).gL (az u 71)) (λe l k=>⟨l,k.trans a.symm⟩) λu p=>?_
    obtain ⟨⟨i,g,j⟩,a⟩:=p
    exact Sat.fin ⟨il,Eq.trans (b:=(aa u 0 77)) bI (Eq.symm a.symm)⟩
   ·simp only [Da] at c3
    have a:(aa ρ 0 4).gL (az ρ 71)=aa ρ 0 4:=(if_neg c).trans ((if_neg c2).trans (if_neg c3))
    exact Sat.fin ⟨il,Eq.trans (b:=(aa ρ 0 4)) bI (Eq.symm a)⟩
theorem aax:aK Tryz.prog oo Fe G7 :=
 bq bM (E:=acw) (cs:=Lb) rfl Tc aO rfl aav (by kernel_rfl) (λb _ p a=>by cases a) aaw
theorem lW {a b:List Wd} (h:a=b:=by first | exact DX rfl | exact Be rfl λi=>by simp [bu,Env.join,-Int.pred_toNat,Na] | assumption):a=b:=h
theorem lN {a b:List Nt} (h:a=b:=by first | exact DY rfl | exact eU rfl λi=>by simp [bB,bu,Env.join,-Int.pred_toNat,Na] | assumption):a=b:=h
theorem lD {a b:List Nt} (h:a=b:=by first | exact oV rfl | exact Bf rfl rfl λi=>by simp [bB,bu,Env.join,-Int.pred_toNat,Na] | assumption):a=b:=h
theorem lH {a b:Nat->Wd} (h:∀i,a i=b i:=by intro i;first | rfl | (simp [aa,bu,Env.join,-Int.pred_toNat,Na];done) | (simp [aa,bu,Env.join,-Int.pred_toNat,Na];rfl) | (simp [aa,bu,RS.post,RS.hold,RS.ask,Wd.zero,Wd.ig,Wd.bN,aC,az,fe,Env.join,-Int.pred_toNat,Na];grind)):∀i,a i=b i:=h
theorem lf {p q:RS} (h:p.call=q.call:=by exact rfl) (d:p.step=q.step:=by exact rfl) (n:p.acc=q.acc:=by exact rfl) (g:p.word=q.word:=by exact rfl) (k:p.clock=q.clock:=by exact rfl) (o:p.index=q.index:=by exact rfl) (j:p.seen=q.seen:=by exact lW) (m:p.bK=q.bK:=by exact lD) (r:p.af=q.af:=by exact rfl) (h10:p.me=q.me:=by exact rfl) (b:p.threads=q.threads:=by exact rfl) (a:p.most=q.most:=by exact rfl)
  (e:∀i,p.holds i=q.holds i:=by exact lH) (f:p.span=q.span:=by exact rfl) (s:p.notes=q.notes:=by exact lN) (c:p.freed=q.freed:=by exact rfl) (l:p.bS=q.bS:=by exact rfl):p=q:=RS.ext' h d n g k o j m r h10 b a e f s c l
theorem lO1 {a:Prop} (h:a:=by first | exact qE rfl rfl | assumption):a:=h
theorem lO2 {a:Prop} (h:a:=by first | assumption | exact ⟨qE rfl rfl,Int.le_refl 0,.inl rfl⟩):a:=h
theorem lO {a b c:Prop} (e:a:=by exact lO1) (d:b:=by exact lO2) (f:c:=by exact lO1):a/\b/\c:=⟨e,d,f⟩
theorem lS {ρ:Env} {s v:Nat}:(aa ρ s v).step=ρ.iv (v+18)/\(aa ρ s v).af=ρ.iv s/\(aa ρ s v).call=fe ρ v/\(aa ρ s v).index=ρ.iv (v+43)/\(aa ρ s v).span=⟨ρ.bv (v+51),ρ.iv (v+52),ρ.iv (v+53)⟩/\(aa ρ s v).holds=λi=>bu (ρ.ic (v+50) i 0) (ρ.bc (v+50) i 0):=⟨rfl,rfl,rfl,rfl,rfl,rfl⟩
theorem lT {ρ:Env} {v:Nat}:(fe ρ v).kind=ρ.iv v/\(fe ρ v).i=ρ.iv (v+14)/\(fe ρ v).j=ρ.iv (v+15)/\(az ρ v).word=aC ρ v/\(aC ρ v).slot=ρ.iv v/\(aC ρ v).num=ρ.iv (v+3)/\(az ρ v).ok=ρ.bv (v+5):=⟨rfl,rfl,rfl,rfl,rfl,rfl,rfl⟩
section
variable {post:Env->Prop} {cs:mo} {Γ:List (Env->Prop)} {ρ:Env}
theorem G8 {g nv:Nat} {σ:Sub} {k:Out} {pre m:Env->Prop} (c:dJ) (M:RS) (o:cs[g]?=some (c,pre,m)) (d:pre (σ.bT ρ)) (h:∀e,dw (ρ.join nv e) nv->aa (ρ.join nv e) 0 nv=M->Sat post cs Γ (ρ.join nv e) k)
  (l:∀e:Env,m (aV σ c.nv nv ρ (ρ.join nv e))->aa (aV σ c.nv nv ρ (ρ.join nv e)) 0 4=aa ρ 0 4->dw (aV σ c.nv nv ρ (ρ.join nv e)) c.nv/\aa (aV σ c.nv nv ρ (ρ.join nv e)) 0 c.nv=M:=by exact λe hq j=>⟨hq.1,hq.2.trans (by rw [j];first | done | rfl)⟩) (j:aa (σ.bT ρ) 0 4=aa ρ 0 4:=by exact lf)
  (n:71<=c.nv:=by decide) (r:4<=nv:=by decide) (f:∀i,i<4->(σ.bT ρ).iv i=ρ.iv i:=by exact ru rfl rfl rfl rfl):Sat post cs Γ ρ (.call g σ nv k):=by
 refine Sat.call o d λe hq=>?_
 have p:∀i,i<4->(σ.bT ρ).iv i=(ρ.join nv e).iv i:=λi q=>by
  rw [f i q]
  exact (if_pos (show i<nv by omega)).symm
 obtain ⟨a,b⟩:=l e hq ((KV n).trans j)
 rw [GY] at a
 rw [KW n p] at b
 exact h e a b
end
noncomputable def XT:Ex:={sched:=sched,loops:=[],cons:=[iC,iD],fin:=mq}
abbrev aay:List (Nat × BE):=yP [(109,1),(104,1)]<|yE 73 kL
abbrev Qc:List (Nat × CV):=[(143,yu 70 59 7 yN 0),(142,yu 69 70 7 yN 0),(141,yu 68 49 5 yW 0),(127,yl 54 9 5 50 yW 0)]
abbrev D9:List (Nat × SA):=[(6,yc 3 7),(5,yc 2 7),(4,yc 1 5)]
abbrev Vf:List (Nat × IE):=yO [(126,2),(123,2),(120,1),(118,4),(113,4),(108,4),(103,13),(89,4),(84,8)]<|yU (yr 138 74 4<|[])<|yD 73 UU
abbrev Vg:List (Nat × BE):=[(140,.lit true),(139,yw 75),(131,yw 58),(128,yw 55),(124,.lit true),(121,.lit true),(119,.lit false),(114,.lit false),(109,.lit false),(104,.lit false),(90,.lit false),(85,.lit false)]
abbrev JC:List (Nat × CV):=[(143,yu 70 59 7 yN 0),(127,yl 54 9 5 50 yW 0)]
abbrev acA:List (Nat × IE):=yO [(126,2),(123,2),(120,1),(118,4),(113,4),(108,4),(103,13),(89,4),(84,8)]<|yU (yr 138 40 4<|[])<|yD 73 UU
abbrev acB:List (Nat × BE):=[(140,.lit true),(139,yw 41),(131,yw 58),(128,yw 55),(124,.lit true),(121,.lit true),(119,.lit false),(114,.lit false),(109,.lit false),(104,.lit false),(90,.lit false),(85,.lit false)]
abbrev acC:List (Nat × IE):=yO [(107,3),(103,4),(98,2)]<|yU [(108,yv 74),(99,.add (.add (.lit 25) (.mul (.var 1) (.lit 9))) (.var 18)),(96,.lit 2),(95,.lit 7)]<|yD 73 jY
abbrev acD:List (Nat × CV):=[(143,yu 70 59 7 yN 0),(142,yu 69 70 7 yN 0),(141,yu 68 49 5 yW 0),(127,.up {r:=54,n1:=.lit 9,s1:=5,lo:=50,ks:=yW} 0 [⟨0,(.var 18),y0,4,y3⟩,⟨0,(.var 18),y0,3,.int .i64 (.var 74)⟩,⟨0,(.var 18),y0,2,y2⟩,⟨0,(.var 18),y0,1,y2⟩,⟨0,(.var 18),y0,0,y2⟩] y0)]
abbrev acE:List (Nat × BE):=yP [(104,1)]<|yV [(128,.lit true),(109,.lit true)]<|yE 73 kL
def G9:Out :=
 .br (.ag (.var 22) (.lit 7))
 (.fin {lo:=77,ae:=4,iv:=yO [(108,4),(103,4)]<|yU (yr 99 7 3<|[(96,.lit 1),(95,.lit 5)])<|yD 73 jY,bv:=aay,ct:=Qc,bk:=D9})
 (.br (.ag (.var 22) (.lit 5))
  (.br (.or (.ag (.var 0) (.lit 3)) (.ag (.var 0) (.lit 5)))
   (.fin {lo:=77,ae:=4,iv:=yO [(108,4),(103,4),(98,2)]<|yU (yr 113 74 4<|[(99,.lit 24),(96,.lit 1),(95,.lit 6)])<|yD 73 jY,bv:=yP [(109,1),(104,1)]<|yV [(114,yw 75)]<|yE 73 kL,ct:=Qc,bk:=D9})
   (.br (.ag (.var 0) (.lit 2))
    (.ob (.or (.ag (.var 71) y0) (.ah y0 (.var 18))) <|
     .ob (.or (.ag (.var 71) y0) (.aY (.var 18) (.lit 9))) <|
     .br (.not (.ag (.var 71) y0))
     (.br (.not (.and (.ag (.cell 54 (.var 18) y0 0) (.var 71)) (.and (.ag (.cell 54 (.var 18) y0 1) (.var 72)) (.and (.ag (.cell 54 (.var 18) y0 2) y0) (.and (.ag (.cell 54 (.var 18) y0 3) y0) (.not (.cell 54 (.var 18) y0 4)))))))
      (.ob (.ah y0 (.var 18)) <|
       .ob (.aY (.var 18) (.lit 9)) <|
       .call 0 {lo:=0,ae:=0,iv:=[(1,yv 18),(0,yv 1)]} 77 <|
       .fin {lo:=77,ae:=4,iv:=yO [(108,2),(103,4),(98,2)]<|yU (yr 113 74 4<|[(106,yv 72),(105,yv 71),(99,.add (.add (.lit 25) (.mul (.var 1) (.lit 9))) (.var 18)),(96,.lit 2),(95,.lit 7)])<|yD 73 jY,bv:=yP [(109,1),(104,1)]<|yV [(114,yw 75)]<|yE 73 kL,ct:=[(143,yu 70 59 7 yN 0),(142,yu 69 70 7 yN 0),(141,yu 68 49 5 yW 0),(127,.up {r:=54,n1:=.lit 9,s1:=5,lo:=50,ks:=yW} 0 [⟨0,(.var 18),y0,4,y3⟩,⟨0,(.var 18),y0,3,y2⟩,⟨0,(.var 18),y0,2,y2⟩,⟨0,(.var 18),y0,1,.int .i64 (.var 72)⟩,⟨0,(.var 18),y0,0,.int .i64 (.var 71)⟩] y0)],bk:=D9})
      (.fin {lo:=77,ae:=4,iv:=Vf,bv:=Vg,ct:=JC,bk:=[(6,yc 3 7)],nb:=[5,4,5,4]}))
     (.fin {lo:=77,ae:=4,iv:=Vf,bv:=Vg,ct:=JC,bk:=[(6,yc 3 7)],nb:=[5,4,5,4]}))
    (.fin {lo:=77,ae:=4,iv:=Vf,bv:=Vg,ct:=JC,bk:=[(6,yc 3 7)],nb:=[5,4,5,4]})))
  (.br (.ag (.var 22) (.lit 6))
   (.br (.ag (.var 0) (.lit 3))
    (.ob (.ah y0 (.var 18)) <|
     .ob (.aY (.var 18) (.lit 9)) <|
     .br (.not (.and (.ag (.cell 54 (.var 18) y0 0) y0) (.and (.ag (.cell 54 (.var 18) y0 1) y0) (.and (.ag (.cell 54 (.var 18) y0 2) y0) (.and (.ag (.cell 54 (.var 18) y0 3) y0) (.not (.cell 54 (.var 18) y0 4)))))))
     (.br (.ag (.cell 54 (.var 18) y0 3) (.var 74))
      (.fin {lo:=77,ae:=4,iv:=acA,bv:=acB,ct:=JC,bk:=[(6,yc 3 7)],nb:=[5,4,5,4]})
      (.call 0 {lo:=0,ae:=0,iv:=[(1,yv 18),(0,yv 1)]} 77 <|
       .fin {lo:=77,ae:=4,iv:=acC,bv:=aay,ct:=acD,bk:=D9}))
     (.call 0 {lo:=0,ae:=0,iv:=[(1,yv 18),(0,yv 1)]} 77 <|
      .fin {lo:=77,ae:=4,iv:=acC,bv:=aay,ct:=acD,bk:=D9}))
    (.br (.and (.var 55) (.ag (.var 57) (.var 74)))
     (.fin {lo:=77,ae:=4,iv:=acA,bv:=acB,ct:=JC,bk:=[(6,yc 3 7)],nb:=[5,4,5,4]})
     (.br (.var 55)
      (.call 1 {lo:=0,ae:=0,iv:=[(0,yv 1)]} 77 <|
       .fin {lo:=77,ae:=4,iv:=yO [(106,2),(103,4),(98,2)]<|yU [(130,yv 74),(108,yv 56),(107,yv 74),(99,.add (.lit 79) (.var 1)),(96,.lit 2),(95,.lit 7)]<|yD 73 jY,bv:=acE,ct:=Qc,bk:=D9})
      (.call 1 {lo:=0,ae:=0,iv:=[(0,yv 1)]} 77 <|
       .fin {lo:=77,ae:=4,iv:=yO [(106,2),(103,4),(98,2)]<|yU [(130,yv 74),(129,yv 74),(108,yv 74),(107,yv 74),(99,.add (.lit 79) (.var 1)),(96,.lit 2),(95,.lit 7)]<|yD 73 jY,bv:=acE,ct:=Qc,bk:=D9}))))
   (.fin {lo:=77,ae:=4,iv:=yD 73 jY,bv:=yE 73 kL,ct:=Qc,bk:=D9})))
theorem XU:exec tab XT 8000 [] (bZ mq.f mq.nv [] mq.gl mq.hp mq.args)=G9:=by kernel_rfl
def Bo (ρ:Env):Prop:=dw ρ 4/\zI ρ/\0<=ρ.iv 18/\ρ.iv 18<9
def Ea (ρ:Env):Prop:=dw ρ 77/\aa ρ 0 77=(aa ρ 0 4).kH (az ρ 71)
set_option maxHeartbeats 4000000 in
theorem XV (ρ:Env) (a:Bo ρ.num):Sat Ea D6 [] ρ G9:=by
 replace a:Bo ρ:=a
 obtain ⟨⟨j,i,g⟩,⟨s1,s2,s3,s4⟩,d,f⟩:=a
 unfold G9
 repeat' first
  | ((refine Sat.br (λc=>?_) (λc=>?_)) <;> simp only [Da] at c)
  | refine Sat.ob (by first | exact decide_eq_true d | (simp only [Da];omega)) ?_
  | (refine Sat.call (c:=iC) rfl ⟨⟨s1,s2⟩,d,f⟩ λe h=>?_;clear h)
  | (refine Sat.call (c:=iD) rfl ⟨s1,s2⟩ λe h=>?_;clear h)
 all_goals refine Sat.fin ⟨lO,Eq.trans (b:=(aa ρ 0 4).kH (az ρ 71)) ?_ rfl⟩
 all_goals (unfold RS.kH RS.bF RS.gB;simp only [lS,lT,Nat.reduceAdd];repeat' split)
 all_goals first | exact lf | omega | (simp only [bu,Wd.bN,Wd.zero,DZ,lT,aC] at *;grind) | (simp_all;done)
theorem XW:aK Tryz.prog mq Bo Ea :=
 bq bM (E:=XT) (cs:=D6) rfl K6 aO rfl XU (by kernel_rfl) (λb _ p a=>by cases a) XV
def Vh:mo:=[(jD,qN,xL),(iC,zF,gU),(kJ,Bj,Bl),(kG,xM,Bn)]
theorem aex:∀k pre post,(k,pre,post)∈Vh->kX k=true/\aK Tryz.prog k pre post:=by
 intro k pre post h
 simp only [Vh,List.mem_cons,List.not_mem_nil,or_false,Prod.mk.injEq] at h
 rcases h with ⟨rfl,rfl,rfl⟩ | ⟨rfl,rfl,rfl⟩ | ⟨rfl,rfl,rfl⟩ | ⟨rfl,rfl,rfl⟩
 ·exact ⟨by kernel_rfl,MM⟩
 ·exact ⟨by kernel_rfl,PY⟩
 ·exact ⟨by kernel_rfl,Qa⟩
 ·exact ⟨by kernel_rfl,Ve⟩
noncomputable def acF:Ex:={sched:=sched,loops:=[],cons:=[jD,iC,kJ,kG],fin:=om}
abbrev Qd:List (Nat × BE):=yP [(103,1),(98,1)]<|yE 67 oU
abbrev Bp:List (Nat × CV):=[(137,yu 70 59 7 yN 0),(136,yu 69 70 7 yN 0),(135,yu 68 49 5 yW 0),(121,yl 54 9 5 50 yW 0)]
abbrev yJ:List (Nat × SA):=[(6,yc 3 7),(5,yc 2 7),(4,yc 1 5)]
abbrev agV:List (Nat × IE):=yO [(132,4),(120,2),(117,2),(114,1),(112,4),(107,4),(102,4),(97,13),(83,4),(78,8)]<|yD 67 UT
abbrev agW:List (Nat × BE):=[(134,.lit true),(133,.lit false),(125,yw 58),(122,yw 55),(118,.lit true),(115,.lit true),(113,.lit false),(108,.lit false),(103,.lit false),(98,.lit false),(84,.lit false),(79,.lit false)]
abbrev aaz:List (Nat × CV):=[(70,yu 70 59 7 yN 0),(69,yu 69 70 7 yN 0),(68,yu 68 49 5 yW 0),(54,yl 54 9 5 50 yW 0)]
abbrev aaA:List (Nat × SA):=[(3,yc 3 7),(2,yc 2 7),(1,yc 1 5),(0,yb 0)]
abbrev aaB:List (Nat × CV):=[(137,yu 137 126 7 yN 0),(136,yu 136 137 7 yN 0),(135,yu 135 116 5 yW 0),(121,yl 121 9 5 50 yW 0)]
abbrev aaC:List (Nat × SA):=[(6,yc 7 7),(5,yc 6 7),(4,yc 5 5)]
def Ld:Out :=
 .br (.ag (.var 4) y1)
 (.br (.or (.ag (.var 0) (.lit 4)) (.ag (.var 0) (.lit 5)))
  (.fin {lo:=71,ae:=4,iv:=yO [(102,4),(97,4),(92,2)]<|yU [(93,.lit 24),(90,.lit 1),(89,.lit 3)]<|yD 67 mV,bv:=Qd,ct:=Bp,bk:=yJ})
  (.fin {lo:=71,ae:=4,iv:=agV,bv:=agW,ct:=[(137,yu 70 59 7 yN 0),(121,yl 54 9 5 50 yW 0)],bk:=[(6,yc 3 7)],nb:=[5,4,5,4]}))
 (.br (.ag (.var 4) (.lit 2))
  (.call 0 {lo:=0,ae:=0,iv:=yO [(71,1)]<|yD 0 PL,bv:=yE 0 mQ,ct:=aaz,bk:=aaA} 71 <|
   .fin {lo:=71,ae:=4,iv:=yD 0 mV,bv:=yE 0 oU,ct:=aaB,bk:=aaC})
  (.br (.ag (.var 4) (.lit 3))
   (.fin {lo:=71,ae:=4,iv:=yO [(102,4),(97,4)]<|yU (yr 93 7 3<|[(90,.lit 1),(89,.lit 1)])<|yD 67 mV,bv:=Qd,ct:=Bp,bk:=yJ})
   (.br (.ag (.var 4) (.lit 4))
    (.fin {lo:=71,ae:=4,iv:=yU (yr 102 16 4<|yr 97 11 7<|[(90,.lit 2),(89,.lit 1)])<|yD 67 mV,bv:=yV [(103,yw 17),(98,yw 12)]<|yE 67 oU,ct:=Bp,bk:=yJ})
    (.br (.ag (.var 4) (.lit 5))
     (.fin {lo:=71,ae:=4,iv:=yU (yr 102 16 4<|yr 97 11 7<|[(90,.lit 3),(89,.lit 1)])<|yD 67 mV,bv:=yV [(103,yw 17),(98,yw 12)]<|yE 67 oU,ct:=Bp,bk:=yJ})
     (.br (.ag (.var 4) (.lit 6))
      (.fin {lo:=71,ae:=4,iv:=yO [(102,4),(97,4)]<|yU (yr 93 7 3<|[(90,.lit 1),(89,.lit 5)])<|yD 67 mV,bv:=Qd,ct:=Bp,bk:=yJ})
      (.br (.ag (.var 4) (.lit 7))
       (.ob (.or (.not (.or (.ag (.var 0) (.lit 2)) (.ag (.var 0) (.lit 3)))) (.ah y0 (.var 18))) <|
        .ob (.or (.not (.or (.ag (.var 0) (.lit 2)) (.ag (.var 0) (.lit 3)))) (.aY (.var 18) (.lit 9))) <|
        .ob (.or (.not (.or (.ag (.var 0) (.lit 2)) (.ag (.var 0) (.lit 3)))) (.ah y0 (.var 19))) <|
        .ob (.or (.not (.or (.ag (.var 0) (.lit 2)) (.ag (.var 0) (.lit 3)))) (.aY (.var 19) (.lit 9))) <|
        .br (.and (.or (.ag (.var 0) (.lit 2)) (.ag (.var 0) (.lit 3))) (.not (.and (.ag (.cell 54 (.var 18) y0 0) (.cell 54 (.var 19) y0 0)) (.and (.ag (.cell 54 (.var 18) y0 1) (.cell 54 (.var 19) y0 1)) (.and (.ag (.cell 54 (.var 18) y0 2) (.cell 54 (.var 19) y0 2)) (.and (.ag (.cell 54 (.var 18) y0 3) (.cell 54 (.var 19) y0 3)) (.beq (.cell 54 (.var 18) y0 4) (.cell 54 (.var 19) y0 4))))))))
        (.ob (.ah y0 (.var 19)) <|
         .ob (.aY (.var 19) (.lit 9)) <|
         .ob (.ah y0 (.var 18)) <|
         .ob (.aY (.var 18) (.lit 9)) <|
         .call 1 {lo:=0,ae:=0,iv:=[(1,yv 18),(0,yv 1)]} 71 <|
         .fin {lo:=71,ae:=4,iv:=yO [(97,4),(92,2)]<|yU [(102,.cell 54 (.var 19) y0 3),(101,.cell 54 (.var 19) y0 2),(100,.cell 54 (.var 19) y0 1),(99,.cell 54 (.var 19) y0 0),(93,.add (.add (.lit 25) (.mul (.var 1) (.lit 9))) (.var 18)),(90,.lit 2),(89,.lit 2)]<|yD 67 mV,bv:=yP [(98,1)]<|yV [(103,.cell 54 (.var 19) y0 4)]<|yE 67 oU,ct:=[(137,yu 70 59 7 yN 0),(136,yu 69 70 7 yN 0),(135,yu 68 49 5 yW 0),(121,.up {r:=54,n1:=.lit 9,s1:=5,lo:=50,ks:=yW} 0 [⟨0,(.var 18),y0,4,.bool (.cell 54 (.var 19) y0 4)⟩,⟨0,(.var 18),y0,3,.int .i64 (.cell 54 (.var 19) y0 3)⟩,⟨0,(.var 18),y0,2,.int .i64 (.cell 54 (.var 19) y0 2)⟩,⟨0,(.var 18),y0,1,.int .i64 (.cell 54 (.var 19) y0 1)⟩,⟨0,(.var 18),y0,0,.int .i64 (.cell 54 (.var 19) y0 0)⟩] y0)],bk:=yJ})
        (.fin {lo:=71,ae:=4,iv:=agV,bv:=agW,ct:=[(137,yu 70 59 7 yN 0),(121,yl 54 9 5 50 yW 0)],bk:=[(6,yc 3 7)],nb:=[5,4,5,4]}))
       (.br (.ag (.var 4) (.lit 8))
        (.br (.or (.ag (.var 0) (.lit 3)) (.ag (.var 0) (.lit 5)))
         (.fin {lo:=71,ae:=4,iv:=yO [(102,4),(97,4),(92,2)]<|yU [(93,.lit 24),(90,.lit 1),(89,.lit 8)]<|yD 67 mV,bv:=Qd,ct:=Bp,bk:=yJ})
         (.fin {lo:=71,ae:=4,iv:=yO [(102,4),(97,7)]<|yU [(90,.lit 4),(89,.lit 1)]<|yD 67 mV,bv:=Qd,ct:=Bp,bk:=yJ}))
        (.br (.ag (.var 4) (.lit 9))
         (.fin {lo:=71,ae:=4,iv:=yO [(102,4),(93,3)]<|yU (yr 97 11 4<|[(90,.lit 5),(89,.lit 2)])<|yD 67 mV,bv:=yP [(103,1)]<|yV [(98,yw 12)]<|yE 67 oU,ct:=Bp,bk:=yJ})
         (.br (.ag (.var 4) (.lit 10))
          (.call 3 {lo:=0,ae:=0,iv:=yD 0 yG,bv:=yE 0 mQ,ct:=aaz,bk:=aaA} 71 <|
           .fin {lo:=71,ae:=4,iv:=yD 0 mV,bv:=yE 0 oU,ct:=aaB,bk:=aaC})
          (.br (.ag (.var 4) (.lit 11))
           (.call 2 {lo:=0,ae:=0,iv:=yD 0 yG,bv:=yE 0 mQ,ct:=aaz,bk:=aaA} 71 <|
            .fin {lo:=71,ae:=4,iv:=yD 0 mV,bv:=yE 0 oU,ct:=aaB,bk:=aaC})
           (.fin {lo:=71,ae:=4,iv:=yD 67 mV,bv:=yE 67 oU,ct:=Bp,bk:=yJ})))))))))))
theorem aaD:exec tab acF 8000 [] (bZ om.f om.nv [] om.gl om.hp om.args)=Ld:=by kernel_rfl
def Ff (ρ:Env):Prop:=dw ρ 4/\zI ρ/\Qb ρ 4/\(0<=ρ.iv 18/\ρ.iv 18<9)/\0<=ρ.iv 19/\ρ.iv 19<9
def Ha (ρ:Env):Prop:=dw ρ 71/\aa ρ 0 71=(aa ρ 0 4).opened
set_option maxHeartbeats 4000000 in
theorem aaE (ρ:Env) (a:Ff ρ.num):Sat Ha Vh [] ρ Ld:=by
 replace a:Ff ρ:=a
 obtain ⟨ok,d,l,⟨k,m⟩,n,o⟩:=a
 obtain ⟨i,g,f⟩:=id ok
 unfold Ld
 repeat' first
  | ((refine Sat.br (λc=>?_) (λc=>?_)) <;> simp only [Da] at c)
  | refine Sat.ob (by first | exact decide_eq_true k | exact decide_eq_true n | (simp only [Da];omega)) ?_
  | (refine Sat.call (c:=iC) rfl ⟨⟨d.1,d.2.1⟩,k,m⟩ λe h=>?_;clear h)
  | refine G8 jD ((aa ρ 0 4).leave 0) rfl ⟨ok,d,Int.le_refl 0,(show (0:Int)<=9 by decide)⟩ λe ⟨i,g,f⟩ j=>?_
  | refine G8 kG (aa ρ 0 4).fC rfl ⟨ok,d,l⟩ λe ⟨i,g,f⟩ j=>?_
  | refine G8 kJ (aa ρ 0 4).scan rfl ⟨ok,d⟩ λe ⟨i,g,f⟩ j=>?_
 all_goals refine Sat.fin ⟨lO,Eq.trans (b:=(aa ρ 0 4).opened) ?_ rfl⟩
 all_goals (unfold RS.opened RS.bF RS.bg RS.bJ;simp only [lS,lT,Nat.reduceAdd];repeat' split)
 all_goals first | omega | exact lf | (refine Eq.trans ?_ ‹aa _ 0 _=_›;exact lf) | (simp only [bu,Wd.bN,Wd.zero,DZ,lT,aC] at *;grind) | (simp_all;done)
theorem aaF:aK Tryz.prog om Ff Ha :=
 bq bM (E:=acF) (cs:=Vh) rfl aex aO rfl aaD (by kernel_rfl) (λb _ p a=>by cases a) aaE
structure Lo where
 af:Int
 me:Int
 threads:Int
 most:Int
 h:Nat->Wd
 s:Sp
 notes:List Nt
 freed:Int
namespace Lo
variable (l:Lo)
def bg:Prop:=l.af=2\/l.af=3
def bF:Prop:=l.af=3\/l.af=5
def bJ:Prop:=l.af=4\/l.af=5
instance:Decidable l.bg:=by unfold bg;exact inferInstance
instance:Decidable l.bF:=by unfold bF;exact inferInstance
instance:Decidable l.bJ:=by unfold bJ;exact inferInstance
def hold (n:Int) (w:Wd):Lo:={l with h:=λi=>if i=n.toNat then w else l.h i}
def all:Int:=if l.bg then l.threads * 9 else l.threads
def base:Int:=if l.bg then 25 else 79
end Lo
inductive RT where
 | idle (x:Rp)
 | one (a:Ac)
 | fin (a:Ac)
 | mW
 | eD (i:Int)
 | bX (c:Ca)
 | gp (c:Ca) (w:Wd)
 | fA (c:Ca) (a:Ac)
 | oZ
 | jo (ay:Wd)
 | ed (ay:Wd) (b:Int)
 | kQ (clock:Wd)
 | o5
 | dQ (clock:Wd) (seen:List Wd)
 | ko (clock:Wd)
 | gF
 | fE (d:Nt) (l:List Nt)
def Ac.load (slot gen field:Int):Ac:=⟨1,slot,gen,field,Wd.zero,Wd.zero⟩
def Ac.era:Ac:=Ac.load 0 0 24
def Ac.eB (clock:Wd):Ac:=⟨3,0,0,24,clock,⟨0,0,clock.tag+1,clock.num+1,false⟩⟩
def Ac.store (slot gen field:Int) (w:Wd):Ac:=⟨2,slot,gen,field,Wd.zero,w⟩
def RT.acc (l:Lo):RT->Ac
 | .idle _=>Ac.zero
 | .one a=>a
 | .fin a=>a
 | .mW=>Ac.era
 | .eD i=>Ac.store 0 0 (25+l.me * 9+i) Wd.zero
 | .bX c=>Ac.load c.slot c.gen c.field
 | .gp _ _=>Ac.era
 | .fA _ a=>a
 | .oZ=>Ac.era
 | .jo ay=>Ac.load ay.slot ay.gen 9
 | .ed _ _=>Ac.era
 | .kQ clock=>Ac.eB clock
 | .o5=>Ac.era
 | .dQ _ seen=>Ac.load 0 0 (l.base+seen.length)
 | .ko clock=>Ac.eB clock
 | .gF=>Ac.era
 | .fE d _=>⟨5,0,0,0,d.ref,Wd.zero⟩
def RT.aH:RT->Int
 | .idle _=>0
 | .one _=>1
 | .fin _=>2
 | .mW=>3
 | .eD _=>4
 | .bX _=>5
 | .gp _ _=>6
 | .fA _ _=>7
 | .oZ=>8
 | .jo _=>9
 | .ed _ _=>10
 | .kQ _=>11
 | .o5=>12
 | .dQ _ _=>13
 | .ko _=>14
 | .gF=>15
 | .fE _ _=>16
def Rp.yes:Rp:=⟨Wd.zero,true⟩
abbrev LR:=Lo × RT
namespace RT
def jf (l:Lo) (s:Sp):Ac:=Ac.store 0 0 (79+l.me) (RS.iZ s)
def leave (l:Lo) (start:Int):LR :=
 if l.bJ/\l.s≠Sp.zero then ({l with s:=Sp.zero},.fin (jf l Sp.zero))
 else if l.bg then
  match RS.first l.h start.toNat (9-start.toNat) with
  | some n=>(l.hold n Wd.zero,.eD n)
  | none=>(l,.idle Rp.yes)
 else (l,.idle Rp.yes)
def scan (l:Lo):LR :=
 if l.af=1 then (l,.idle Rp.yes)
 else if l.af=4 then (l,.o5)
 else (l,.dQ Wd.zero [])
def bQ (l:Lo):LR:=if l.notes.length>=l.most then scan l else (l,.idle Rp.yes)
def note (l:Lo) (ay:Wd) (b d:Int):Lo:={l with notes:=l.notes ++ [⟨ay.bN,b,d⟩]}
def fC (l:Lo) (ay:Wd):LR :=
 if l.af=2 then bQ (note l ay 0 0)
 else if l.af=4 then (l,.ed ay 0)
 else if l.af=3\/l.af=5 then (l,.jo ay)
 else (l,.idle Rp.yes)
def begin (l:Lo) (c:Ca):LR :=
 if c.kind=1 then (if l.bJ then (l,.mW) else (l,.idle Rp.yes))
 else if c.kind=2 then leave l 0
 else if c.kind=3 then (l,.one (Ac.load c.slot c.gen c.field))
 else if c.kind=4 then (l,.one ⟨2,c.slot,c.gen,c.field,c.ay,c.new⟩)
 else if c.kind=5 then (l,.one ⟨3,c.slot,c.gen,c.field,c.ay,c.new⟩)
 else if c.kind=6 then (l,.bX c)
 else if c.kind=7 then (if l.bg/\l.h c.i.toNat≠l.h c.j.toNat then (l.hold c.i (l.h c.j.toNat),.fin (Ac.store 0 0 (25+l.me * 9+c.i) (l.h c.j.toNat))) else (l,.idle Rp.yes))
 else if c.kind=8 then (if l.bF then (l,.oZ) else (l,.one ⟨4,0,0,0,Wd.zero,Wd.zero⟩))
 else if c.kind=9 then (l,.fin ⟨5,0,0,0,c.ay,Wd.zero⟩)
 else if c.kind=10 then fC l c.ay
 else scan l
def gB (l:Lo) (i now:Int):Prop :=
 if l.af=3 then l.h i.toNat≠Wd.zero/\(l.h i.toNat).num=now
 else l.s.is=true/\l.s.high=now
instance (l:Lo) (i now:Int):Decidable (gB l i now):=by unfold gB;exact inferInstance
def kept (l:Lo) (clock:Wd) (seen:List Wd) (n:Nt):Bool :=
 if l.af=2 then seen.any λw=>RS.tJ w n
 else if l.af=3 then seen.any λw=>RS.tK w.num n
 else if l.af=5 then seen.any λw=>RS.qM (RS.jF w) n
 else RS.ny clock.num n
def ek (l:Lo):List Nt->LR
 | []=>(l,.idle Rp.yes)
 | d :: r=>(l,.fE d r)
def eO (l:Lo) (clock:Wd) (seen:List Wd):LR:=ek l (l.notes.filter λn=>!kept l clock seen n)
def aB (l:Lo):RT->Rp->LR
 | .idle x,_=>(l,.idle x)
 | .one _,x=>(l,.idle x)
 | .fin _,_=>(l,.idle Rp.yes)
 | .mW,x=>({l with s:=⟨true,x.word.num,x.word.num⟩},.fin (jf l ⟨true,x.word.num,x.word.num⟩))
 | .eD i,_=>leave l (i+1)
 | .bX c,x =>
  if l.bF then (l,.gp c x.word)
  else if l.af=2/\x.word.slot≠0/\l.h c.i.toNat≠x.word.bN then (l.hold c.i x.word.bN,.fA c (Ac.store 0 0 (25+l.me * 9+c.i) x.word.bN))
  else (l,.idle ⟨x.word,true⟩)
 | .gp c w,x =>
  if gB l c.i x.word.num then (l,.idle ⟨w,true⟩)
  else if l.af=3 then (l.hold c.i (Wd.ig x.word.num),.fA c (Ac.store 0 0 (25+l.me * 9+c.i) (Wd.ig x.word.num)))
  else ({l with s:=⟨true,if l.s.is=true then l.s.low else x.word.num,x.word.num⟩},.fA c (jf l ⟨true,if l.s.is=true then l.s.low else x.word.num,x.word.num⟩))
 | .fA c _,_=>(l,.bX c)
 | .oZ,x=>(l,.one ⟨4,0,0,0,Wd.zero,Wd.ig x.word.num⟩)
 | .jo ay,x=>(l,.ed ay x.word.num)
 | .ed ay b,x=>if l.bF then (note l ay b x.word.num,.kQ x.word) else bQ (note l ay b x.word.num)
 | .kQ _,_=>bQ l
 | .o5,x=>(l,.dQ x.word [])
 | .dQ clock seen,x =>
  if (seen.length:Int)+1<l.all then (l,.dQ clock (seen ++ [x.word]))
  else if l.af≠4 then eO l clock (seen ++ [x.word])
  else if RS.may clock.num ((seen ++ [x.word]).map RS.jF)=true then (l,.ko clock)
  else (l,.gF)
 | .ko _,_=>(l,.gF)
 | .gF,x=>eO l x.word []
 | .fE d r,_=>ek {l with notes:=l.notes.erase d,freed:=l.freed+1} r
end RT
structure jh (l:Lo) (t:RT) (r:RS):Prop where
 af:r.af=l.af
 me:r.me=l.me
 threads:r.threads=l.threads
 most:r.most=l.most
 holds:r.holds=l.h
 span:r.span=l.s
 notes:r.notes=l.notes
 freed:r.freed=l.freed
 step:r.step=t.aH
 acc:t.aH≠0->r.acc=t.acc l
 more:match t with
  | .idle x=>r.bS=x
  | .eD i=>r.index=i
  | .bX c=>r.call=c
  | .gp c w=>r.call=c/\r.word=w
  | .fA c _=>r.call=c
  | .jo ay=>r.call.ay=ay/\r.seen=[]
  | .ed ay b=>r.call.ay=ay/\r.word.num=b/\r.seen=[]
  | .kQ _=>r.seen=[]
  | .o5=>r.seen=[]
  | .dQ clock seen=>(l.af=4->r.clock=clock)/\r.seen=seen/\r.index=seen.length
  | .fE d rest=>r.bK=d :: rest
  | _=>True
structure Lo.OK (l:Lo):Prop where
 af:1<=l.af/\l.af<=5
 me:0<=l.me/\l.me<l.threads
 threads:1<=l.threads/\l.threads<=6
 most:1<=l.most
section
variable {l:Lo} {r:RS}
theorem jh.bg {t:RT} (h:jh l t r):r.bg↔l.bg:=by simp only [RS.bg,Lo.bg,h.af]
theorem jh.bF {t:RT} (h:jh l t r):r.bF↔l.bF:=by simp only [RS.bF,Lo.bF,h.af]
theorem jh.bJ {t:RT} (h:jh l t r):r.bJ↔l.bJ:=by simp only [RS.bJ,Lo.bJ,h.af]
end
structure bG (l:Lo) (r:RS):Prop where
 af:r.af=l.af
 me:r.me=l.me
 threads:r.threads=l.threads
 most:r.most=l.most
 holds:r.holds=l.h
 span:r.span=l.s
 notes:r.notes=l.notes
 freed:r.freed=l.freed
theorem jh.keeps {l:Lo} {t:RT} {r:RS} (h:jh l t r):bG l r:=⟨h.af,h.me,h.threads,h.most,h.holds,h.span,h.notes,h.freed⟩
section
variable {l:Lo} {r:RS}
theorem bG.bg (h:bG l r):r.bg↔l.bg:=by simp only [RS.bg,Lo.bg,h.af]
theorem bG.bF (h:bG l r):r.bF↔l.bF:=by simp only [RS.bF,Lo.bF,h.af]
theorem bG.bJ (h:bG l r):r.bJ↔l.bJ:=by simp only [RS.bJ,Lo.bJ,h.af]
theorem bG.fin (h:bG l r) (x:Rp):jh l (.idle x) (r.finish x) :=
 ⟨h.af,h.me,h.threads,h.most,h.holds,h.span,h.notes,h.freed,rfl,λh=>absurd rfl h,rfl⟩
theorem bG.done (h:bG l r):jh l (.idle Rp.yes) r.done:=h.fin _
theorem bG.ask (h:bG l r) {t:RT} {a:Ac} (g:t.aH≠0) (f:a=t.acc l) (e:match t with
    | .idle x=>r.bS=x
    | .eD i=>r.index=i
    | .bX c=>r.call=c
    | .gp c w=>r.call=c/\r.word=w
    | .fA c _=>r.call=c
    | .jo ay=>r.call.ay=ay/\r.seen=[]
    | .ed ay b=>r.call.ay=ay/\r.word.num=b/\r.seen=[]
    | .kQ _=>r.seen=[]
    | .o5=>r.seen=[]
    | .dQ clock seen=>(l.af=4->r.clock=clock)/\r.seen=seen/\r.index=seen.length
    | .fE d rest=>r.bK=d :: rest
    | _=>True):jh l t (r.ask t.aH a):=by
 refine ⟨h.af,h.me,h.threads,h.most,h.holds,h.span,h.notes,h.freed,rfl,λ_=>f,?_⟩
 cases t <;> exact e
theorem bG.hold (h:bG l r) (n:Int) (w:Wd):bG (l.hold n w) (r.hold n w) :=
 ⟨h.af,h.me,h.threads,h.most,by simp only [RS.hold,Lo.hold,h.holds],h.span,h.notes,h.freed⟩
theorem bG.leave (h:bG l r) (n:Int):jh (RT.leave l n).1 (RT.leave l n).2 (r.leave n):=by
 have c1:(r.bJ/\r.span≠Sp.zero)↔(l.bJ/\l.s≠Sp.zero):=by rw [h.bJ,h.span]
 unfold RS.leave RT.leave
 by_cases a:l.bJ/\l.s≠Sp.zero
 ·rw [if_pos (c1.2 a),if_pos a]
  refine bG.ask (l:={l with s:=Sp.zero}) (r:={r with span:=Sp.zero}) (t:=.fin (RT.jf l Sp.zero)) ⟨h.af,h.me,h.threads,h.most,h.holds,rfl,h.notes,h.freed⟩ (show (2:Int)≠0 by decide) ?_ trivial
  show (⟨2,0,0,79+r.me,Wd.zero,RS.iZ Sp.zero⟩:Ac)=_
  rw [h.me];rfl
 ·rw [if_neg (λx=>a (c1.1 x)),if_neg a]
  by_cases b:l.bg
  ·rw [if_pos (h.bg.2 b),if_pos b]
   have e:RS.first r.holds n.toNat (9-n.toNat)=RS.first l.h n.toNat (9-n.toNat):=by rw [h.holds]
   rw [e]
   cases RS.first l.h n.toNat (9-n.toNat) with
   | some k =>
    refine bG.ask (l:=l.hold k Wd.zero) (r:=({r with index:=k}:RS).hold k Wd.zero) (t:=.eD k) (bG.hold (r:={r with index:=k}) ⟨h.af,h.me,h.threads,h.most,h.holds,h.span,h.notes,h.freed⟩ _ _) (show (4:Int)≠0 by decide) ?_ rfl
    show (⟨2,0,0,25+r.me * 9+k,Wd.zero,Wd.zero⟩:Ac)=_
    rw [h.me];rfl
   | none=>exact h.done
  all_goals grind [bG.bg,jh.bg,bG.done]
theorem bG.look (h:bG l r) (n:Int) {clock:Wd} {seen:List Wd} (c:n=seen.length) (e:l.af=4->r.clock=clock) (d:r.seen=seen) :
  if n<l.all then ∃q,r.look n=some q/\jh l (.dQ clock seen) q else r.look n=none:=by
 unfold RS.look Lo.all
 by_cases b:l.bg
 ·rw [if_pos b,if_pos (h.bg.2 b)]
  have f:=h.threads
  by_cases a:n<l.threads * 9
  ·rw [if_pos a,iN]
   refine ⟨_,rfl,⟨h.af,h.me,h.threads,h.most,h.holds,h.span,h.notes,h.freed,rfl,λ_=>?_,e,d,c⟩⟩
   show (⟨1,0,0,25+n,Wd.zero,Wd.zero⟩:Ac)=Ac.load 0 0 (l.base+seen.length)
   rw [c,Lo.base,if_pos b];rfl
  ·rw [if_neg a,if_pos (by omega)]
 ·rw [if_neg b,if_neg (λx=>b (h.bg.1 x))]
  have f:=h.threads
  by_cases a:n<l.threads
  ·rw [if_pos a,iN]
   refine ⟨_,rfl,⟨h.af,h.me,h.threads,h.most,h.holds,h.span,h.notes,h.freed,rfl,λ_=>?_,e,d,c⟩⟩
   show (⟨1,0,0,79+n,Wd.zero,Wd.zero⟩:Ac)=Ac.load 0 0 (l.base+seen.length)
   rw [c,Lo.base,if_neg b];rfl
  ·rw [if_neg a,if_pos (by omega)]
theorem Lo.OK.all {l:Lo} (h:l.OK):0<l.all:=by
 have:=h.threads
 unfold Lo.all
 split <;> omega
theorem bG.acG (h:bG l r) (c:l.OK) {clock:Wd} (b:l.af=4->r.clock=clock) (a:r.seen=[]):jh l (.dQ clock []) ((r.look 0).getD r):=by
 have:=h.look 0 (clock:=clock) (seen:=[]) rfl b a
 all_goals grind [Lo.OK.all]
theorem bG.scan (h:bG l r) (d:l.OK) (c:r.seen=[]):jh (RT.scan l).1 (RT.scan l).2 r.scan:=by
 unfold RS.scan RT.scan
 rw [h.af]
 by_cases b:l.af=1
 ·grind [bG.done]
 ·rw [if_neg b,if_neg b]
  by_cases a:l.af=4
  ·rw [if_pos a,if_pos a]
   exact h.ask (t:=.o5) (show (12:Int)≠0 by decide) rfl c
  all_goals grind [bG.acG]
theorem bG.bQ (h:bG l r) (b:l.OK) (a:r.seen=[]):jh (RT.bQ l).1 (RT.bQ l).2 r.bQ:=by
 unfold RS.bQ RT.bQ
 rw [h.notes,h.most]
 split
 ·exact h.scan b a
 ·exact h.done
theorem bG.note (h:bG l r) (b d:Int):bG (RT.note l r.call.ay b d) (r.note b d) :=
 ⟨h.af,h.me,h.threads,h.most,h.holds,h.span,by simp only [RS.note,RT.note,h.notes],h.freed⟩
theorem Lo.OK.note {l:Lo} (h:l.OK) (w:Wd) (b d:Int):(RT.note l w b d).OK:=⟨h.af,h.me,h.threads,h.most⟩
theorem bG.fC (h:bG l r) (f:l.OK) (c:r.seen=[]) (e:r.word.num=0):jh (RT.fC l r.call.ay).1 (RT.fC l r.call.ay).2 r.fC:=by
 unfold RS.fC RT.fC
 rw [h.af]
 by_cases a:l.af=2
 ·rw [if_pos a,if_pos a]
  exact (h.note 0 0).bQ (f.note _ _ _) c
 rw [if_neg a,if_neg a]
 by_cases b:l.af=4
 ·rw [if_pos b,if_pos b]
  exact h.ask (t:=.ed r.call.ay 0) (show (10:Int)≠0 by decide) rfl ⟨rfl,e,c⟩
 rw [if_neg b,if_neg b]
 by_cases d:l.af=3\/l.af=5
 ·rw [if_pos d,if_pos d]
  exact h.ask (t:=.jo r.call.ay) (show (9:Int)≠0 by decide) rfl ⟨rfl,c⟩
 all_goals grind [bG.done]
def Ca.OK (c:Ca):Prop:=1<=c.kind/\c.kind<=11/\0<=c.i/\c.i<9/\0<=c.j/\c.j<9
theorem bG.opened (h:bG l r) (q:l.OK) (s:r.seen=[]) (u:r.word.num=0) (n:r.call.OK):jh (RT.begin l r.call).1 (RT.begin l r.call).2 r.opened:=by
 unfold RS.opened RT.begin
 simp only
 by_cases b:r.call.kind=1
 ·rw [if_pos b,if_pos b]
  by_cases g:l.bJ
  ·rw [if_pos g,if_pos (h.bJ.2 g)]
   exact h.ask (t:=.mW) (show (3:Int)≠0 by decide) rfl trivial
  all_goals grind [jh.bJ,bG.bJ,bG.done]
 rw [if_neg b,if_neg b]
 by_cases m:r.call.kind=2
 ·grind [bG.leave]
 rw [if_neg m,if_neg m]
 by_cases i:r.call.kind=3
 ·rw [if_pos i,if_pos i]
  exact h.ask (t:=.one (Ac.load r.call.slot r.call.gen r.call.field)) (show (1:Int)≠0 by decide) rfl trivial
 rw [if_neg i,if_neg i]
 by_cases k:r.call.kind=4
 ·rw [if_pos k,if_pos k]
  exact h.ask (t:=.one ⟨2,r.call.slot,r.call.gen,r.call.field,r.call.ay,r.call.new⟩) (show (1:Int)≠0 by decide) rfl trivial
 rw [if_neg k,if_neg k]
 by_cases j:r.call.kind=5
 ·rw [if_pos j,if_pos j]
  exact h.ask (t:=.one ⟨3,r.call.slot,r.call.gen,r.call.field,r.call.ay,r.call.new⟩) (show (1:Int)≠0 by decide) rfl trivial
 rw [if_neg j,if_neg j]
 by_cases k6:r.call.kind=6
 ·rw [if_pos k6,if_pos k6]
  exact h.ask (t:=.bX r.call) (show (5:Int)≠0 by decide) rfl rfl
 rw [if_neg k6,if_neg k6]
 by_cases d:r.call.kind=7
 ·rw [if_pos d,if_pos d]
  have e:(r.bg/\r.holds r.call.i.toNat≠r.holds r.call.j.toNat)↔(l.bg/\l.h r.call.i.toNat≠l.h r.call.j.toNat):=by rw [h.bg,h.holds]
  by_cases g:l.bg/\l.h r.call.i.toNat≠l.h r.call.j.toNat
  ·rw [if_pos g,if_pos (e.2 g)]
   have o:=h.hold r.call.i (l.h r.call.j.toNat)
   have p:r.post 2 r.call.i (r.holds r.call.j.toNat)=(r.hold r.call.i (l.h r.call.j.toNat)).ask 2 ⟨2,0,0,25+l.me * 9+r.call.i,Wd.zero,l.h r.call.j.toNat⟩:=by
    unfold RS.post
    rw [h.holds,h.me]
   rw [p]
   exact o.ask (t:=.fin (Ac.store 0 0 (25+l.me * 9+r.call.i) (l.h r.call.j.toNat))) (show (2:Int)≠0 by decide) rfl trivial
  all_goals grind [bG.done]
 rw [if_neg d,if_neg d]
 by_cases c:r.call.kind=8
 ·rw [if_pos c,if_pos c]
  by_cases g:l.bF
  ·rw [if_pos g,if_pos (h.bF.2 g)]
   exact h.ask (t:=.oZ) (show (8:Int)≠0 by decide) rfl trivial
  ·rw [if_neg g,if_neg (λx=>g (h.bF.1 x))]
   exact h.ask (t:=.one ⟨4,0,0,0,Wd.zero,Wd.zero⟩) (show (1:Int)≠0 by decide) rfl trivial
 rw [if_neg c,if_neg c]
 by_cases f:r.call.kind=9
 ·rw [if_pos f,if_pos f]
  exact h.ask (t:=.fin ⟨5,0,0,0,r.call.ay,Wd.zero⟩) (show (2:Int)≠0 by decide) rfl trivial
 rw [if_neg f,if_neg f]
 by_cases a:r.call.kind=10
 ·grind [bG.fC]
 rw [if_neg a,if_neg a,if_pos (by have:=n.1;have:=n.2.1;omega)]
 exact h.scan q s
theorem jh.begin {x:Rp} (h:jh l (.idle x) r) (a:l.OK) {c:Ca} (e:c.OK):jh (RT.begin l c).1 (RT.begin l c).2 (r.begin c).1/\(r.begin c).2=true:=by
 have f:r.step=0:=h.step
 unfold RS.begin
 obtain ⟨c1,c2,c3,c4,b,d⟩:=e
 rw [iN,iN,iN]
 exact ⟨bG.opened (r:={r with call:=c,step:=0,acc:=Ac.zero,word:=Wd.zero,clock:=Wd.zero,index:=0,seen:=[],bK:=[]}) ⟨h.af,h.me,h.threads,h.most,h.holds,h.span,h.notes,h.freed⟩ a rfl rfl ⟨c1,c2,c3,c4,b,d⟩,rfl⟩
theorem bG.kM (h:bG l r) (s:Sp) {t:RT} (b:t=.fin (RT.jf l s)\/∃c,t=.fA c (RT.jf l s)/\r.call=c):jh {l with s:=s} t (r.kM t.aH s):=by
 have a:bG {l with s:=s} {r with span:=s}:=⟨h.af,h.me,h.threads,h.most,h.holds,rfl,h.notes,h.freed⟩
 have e:(⟨2,0,0,79+r.me,Wd.zero,RS.iZ s⟩:Ac)=RT.jf l s:=by rw [h.me];rfl
 unfold RS.kM
 rw [e]
 rcases b with rfl | ⟨c,rfl,d⟩
 ·exact a.ask (t:=.fin (RT.jf l s)) (show (2:Int)≠0 by decide) rfl trivial
 ·exact a.ask (t:=.fA c (RT.jf l s)) (show (7:Int)≠0 by decide) rfl d
theorem bG.ek (h:bG l r):jh (RT.ek l r.bK).1 (RT.ek l r.bK).2 r.ek:=by
 unfold RS.ek RT.ek
 cases hd:r.bK with
 | nil=>exact h.done
 | cons d q=>exact h.ask (t:=.fE d q) (show (16:Int)≠0 by decide) rfl hd
theorem bG.eO (h:bG l r) (a:l.OK) (c:l.af≠1) {clock:Wd} {seen:List Wd} (f:l.af=4->r.clock=clock) (d:r.seen=seen\/l.af=4):jh (RT.eO l clock seen).1 (RT.eO l clock seen).2 r.eO:=by
 have b:=a.af
 unfold RS.eO RT.eO
 rw [if_pos (by rw [h.af];omega)]
 have e:(r.notes.filter λn=>!r.kept n)=l.notes.filter λn=>!RT.kept l clock seen n:=by
  rw [h.notes]
  congr 1
  funext n
  congr 1
  unfold RS.kept RT.kept
  rw [h.af]
  all_goals grind
 have:=bG.ek (l:=l) (r:={r with bK:=r.notes.filter λn=>!r.kept n}) ⟨h.af,h.me,h.threads,h.most,h.holds,h.span,h.notes,h.freed⟩
 rw [e] at this
 rw [e]
 exact this
def RT.fits (l:Lo):RT->Prop
 | .gp _ _=>l.bF
 | .o5 | .ko _ | .gF=>l.af=4
 | .dQ _ _=>l.af≠1
 | .bX c | .fA c _=>0<=c.i/\c.i<9
 | _=>True
theorem jh.aB {t:RT} (h:jh l t r) (u:l.OK) (p:t.fits l) (F:t.aH≠0) (x:Rp):jh (RT.aB l t x).1 (RT.aB l t x).2 (r.aB x).1/\(r.aB x).2=true:=by
 have m:=h.keeps
 have f:=h.step
 have k:=h.more
 unfold RS.aB
 cases t with
 | idle y=>exact absurd rfl F
 | one a =>
  replace f:r.step=1:=f
  rw [iN,if_pos f]
  exact ⟨m.fin x,rfl⟩
 | fin a =>
  replace f:r.step=2:=f
  rw [iN,iN,if_pos f]
  exact ⟨m.done,rfl⟩
 | mW =>
  replace f:r.step=3:=f
  rw [iN,iN,iN,if_pos f]
  exact ⟨m.kM _ (t:=.fin _) (.inl rfl),rfl⟩
 | eD i =>
  replace f:r.step=4:=f
  replace k:r.index=i:=k
  rw [iN,iN,iN,iN,if_pos f,k]
  exact ⟨m.leave _,rfl⟩
 | oZ =>
  replace f:r.step=8:=f
  rw [iN,iN,iN,iN,iN,if_pos f]
  exact ⟨m.ask (t:=.one _) (show (1:Int)≠0 by decide) rfl trivial,rfl⟩
 | fA c a =>
  replace f:r.step=7:=f
  replace k:r.call=c:=k
  subst k
  rw [iN,iN,iN,iN,iN,iN,if_pos (by omega)]
  refine ⟨?_,rfl⟩
  unfold RS.kH
  simp only
  rw [if_pos f]
  exact m.ask (t:=.bX r.call) (show (5:Int)≠0 by decide) rfl rfl
 | bX c =>
  replace f:r.step=5:=f
  replace k:r.call=c:=k
  subst k
  rw [iN,iN,iN,iN,iN,iN,if_pos (by omega)]
  refine ⟨?_,rfl⟩
  have j:bG l {r with word:=x.word}:=⟨h.af,h.me,h.threads,h.most,h.holds,h.span,h.notes,h.freed⟩
  unfold RS.kH
  simp only
  rw [iN,if_pos f]
  show jh (if l.bF then _ else _:LR).1 (if l.bF then _ else _:LR).2 _
  by_cases hd:l.bF
  ·rw [if_pos (h.bF.2 hd),if_pos hd]
   exact j.ask (t:=.gp r.call x.word) (show (6:Int)≠0 by decide) rfl ⟨rfl,rfl⟩
  rw [if_neg (λy=>hd (h.bF.1 y)),if_neg hd]
  have e:(r.af=2/\x.word.slot≠0/\r.holds r.call.i.toNat≠x.word.bN)↔(l.af=2/\x.word.slot≠0/\l.h r.call.i.toNat≠x.word.bN):=by rw [h.af,h.holds]
  by_cases g:l.af=2/\x.word.slot≠0/\l.h r.call.i.toNat≠x.word.bN
  ·rw [if_pos (e.2 g),if_pos g]
   have D:({r with word:=x.word}:RS).post 7 r.call.i x.word.bN=(({r with word:=x.word}:RS).hold r.call.i x.word.bN).ask 7 (Ac.store 0 0 (25+l.me * 9+r.call.i) x.word.bN):=by
    unfold RS.post
    rw [show ({r with word:=x.word}:RS).me=l.me from h.me]
    rfl
   rw [D]
   exact (j.hold r.call.i x.word.bN).ask (t:=.fA r.call (Ac.store 0 0 (25+l.me * 9+r.call.i) x.word.bN)) (show (7:Int)≠0 by decide) rfl rfl
  all_goals grind [bG.fin]
 | gp c w =>
  replace f:r.step=6:=f
  obtain ⟨k,G⟩:r.call=c/\r.word=w:=k
  subst k G
  rw [iN,iN,iN,iN,iN,iN,if_pos (by omega)]
  refine ⟨?_,rfl⟩
  unfold RS.kH
  simp only
  rw [iN,iN,if_pos f]
  show jh (if RT.gB l r.call.i x.word.num then _ else _:LR).1 (if RT.gB l r.call.i x.word.num then _ else _:LR).2 _
  have e:r.gB r.call.i x.word.num↔RT.gB l r.call.i x.word.num:=by unfold RS.gB RT.gB;rw [h.af,h.holds,h.span]
  by_cases g:RT.gB l r.call.i x.word.num
  ·grind [bG.fin]
  rw [if_neg (λy=>g (e.1 y)),if_neg g,h.af]
  by_cases B:l.af=3
  ·rw [if_pos B,if_pos B]
   have D:r.post 7 r.call.i (Wd.ig x.word.num)=(r.hold r.call.i (Wd.ig x.word.num)).ask 7 (Ac.store 0 0 (25+l.me * 9+r.call.i) (Wd.ig x.word.num)):=by
    unfold RS.post
    rw [h.me]
    rfl
   rw [D]
   exact (m.hold r.call.i _).ask (t:=.fA r.call (Ac.store 0 0 (25+l.me * 9+r.call.i) (Wd.ig x.word.num))) (show (7:Int)≠0 by decide) rfl rfl
  ·rw [if_neg B,if_neg B,h.span]
   exact m.kM _ (t:=.fA r.call _) (.inr ⟨_,rfl,rfl⟩)
 | jo ay =>
  replace f:r.step=9:=f
  obtain ⟨o,q⟩:r.call.ay=ay/\r.seen=[]:=k
  rw [iN,iN,iN,iN,iN,iN,iN,if_pos (by omega)]
  refine ⟨?_,rfl⟩
  unfold RS.gL
  rw [if_pos f]
  have j:bG l {r with word:=x.word}:=⟨h.af,h.me,h.threads,h.most,h.holds,h.span,h.notes,h.freed⟩
  exact j.ask (t:=.ed ay x.word.num) (show (10:Int)≠0 by decide) rfl ⟨o,rfl,q⟩
 | ed ay b =>
  replace f:r.step=10:=f
  obtain ⟨o,q,A⟩:r.call.ay=ay/\r.word.num=b/\r.seen=[]:=k
  rw [iN,iN,iN,iN,iN,iN,iN,if_pos (by omega)]
  refine ⟨?_,rfl⟩
  unfold RS.gL
  simp only
  rw [iN,if_pos f,q]
  show jh (if l.bF then _ else _:LR).1 (if l.bF then _ else _:LR).2 _
  have j:bG l {r with clock:=x.word}:=⟨h.af,h.me,h.threads,h.most,h.holds,h.span,h.notes,h.freed⟩
  have n:=j.note b x.word.num
  rw [show ({r with clock:=x.word}:RS).call.ay=ay from o] at n
  by_cases hd:l.bF
  ·rw [if_pos (h.bF.2 hd),if_pos hd]
   exact n.ask (t:=.kQ x.word) (show (11:Int)≠0 by decide) rfl A
  ·rw [if_neg (λy=>hd (h.bF.1 y)),if_neg hd]
   exact n.bQ (u.note _ _ _) A
 | kQ clock =>
  replace f:r.step=11:=f
  replace k:r.seen=[]:=k
  rw [iN,iN,iN,iN,iN,iN,iN,if_pos (by omega)]
  refine ⟨?_,rfl⟩
  unfold RS.gL
  rw [iN,iN,if_pos f]
  exact m.bQ u k
 | o5 =>
  replace f:r.step=12:=f
  replace k:r.seen=[]:=k
  rw [iN,iN,iN,iN,iN,iN,iN,iN]
  refine ⟨?_,rfl⟩
  unfold RS.cz
  rw [if_pos f]
  have j:bG l {r with clock:=x.word}:=⟨h.af,h.me,h.threads,h.most,h.holds,h.span,h.notes,h.freed⟩
  exact j.acG u (λ_=>rfl) k
 | dQ clock seen =>
  replace f:r.step=13:=f
  obtain ⟨o,q,A⟩:(l.af=4->r.clock=clock)/\r.seen=seen/\r.index=seen.length:=k
  subst q
  replace p:l.af≠1:=p
  rw [iN,iN,iN,iN,iN,iN,iN,iN]
  refine ⟨?_,rfl⟩
  unfold RS.cz
  simp only
  rw [iN,if_pos f]
  show jh (if (r.seen.length:Int)+1<l.all then _ else _:LR).1 (if (r.seen.length:Int)+1<l.all then _ else _:LR).2 _
  have j:bG l {r with seen:=r.seen ++ [x.word]}:=⟨h.af,h.me,h.threads,h.most,h.holds,h.span,h.notes,h.freed⟩
  have E:=j.look (r.index+1) (clock:=clock) (seen:=r.seen ++ [x.word]) (by rw [A];simp) o rfl
  by_cases g:(r.seen.length:Int)+1<l.all
  ·grind
  ·rw [iN] at E
   rw [E,if_neg g]
   simp only
   by_cases s:l.af=4
   ·have C:r.af=4:=h.af.trans s
    obtain rfl:=o s
    rw [if_neg (show ¬l.af≠4 from λy=>y s),if_neg (show ¬r.af≠4 from λy=>y C)]
    by_cases z:RS.may r.clock.num ((r.seen ++ [x.word]).map RS.jF)=true
    ·rw [if_pos z,if_pos z]
     exact j.ask (t:=.ko r.clock) (show (14:Int)≠0 by decide) rfl trivial
    ·rw [if_neg z,if_neg z]
     exact j.ask (t:=.gF) (show (15:Int)≠0 by decide) rfl trivial
   ·rw [if_pos (show l.af≠4 from s),if_pos (show r.af≠4 from λy=>s (h.af.symm.trans y))]
    exact j.eO u p o (.inl rfl)
 | ko clock =>
  replace f:r.step=14:=f
  rw [iN,iN,iN,iN,iN,iN,iN,iN]
  refine ⟨?_,rfl⟩
  unfold RS.cz
  rw [iN,iN,if_pos f]
  exact m.ask (t:=.gF) (show (15:Int)≠0 by decide) rfl trivial
 | gF =>
  replace f:r.step=15:=f
  replace p:l.af=4:=p
  rw [iN,iN,iN,iN,iN,iN,iN,iN]
  refine ⟨?_,rfl⟩
  unfold RS.cz
  rw [iN,iN,iN,if_pos f]
  have j:bG l {r with clock:=x.word}:=⟨h.af,h.me,h.threads,h.most,h.holds,h.span,h.notes,h.freed⟩
  exact j.eO u (by omega) (λ_=>rfl) (.inr p)
 | fE d rest =>
  replace f:r.step=16:=f
  replace k:r.bK=d :: rest:=k
  rw [iN,iN,iN,iN,iN,iN,iN,iN]
  refine ⟨?_,rfl⟩
  unfold RS.cz
  simp only
  rw [iN,iN,iN,iN,if_pos f,k]
  have j:bG {l with notes:=l.notes.erase d,freed:=l.freed+1} {r with notes:=r.notes.erase d,freed:=r.freed+1,bK:=rest}:=⟨h.af,h.me,h.threads,h.most,h.holds,h.span,by simp only [h.notes],by simp only [h.freed]⟩
  exact j.ek
end
end Go.Proofs.YthomdlajobnmnaaGreatDoor
namespace Go.Proofs.YthomdlajobnmnaaGreatDoor
open Go.Rex
def NI:mo:=[(om,Ff,Ha)]
theorem aaG:∀k pre post,(k,pre,post)∈NI->kX k=true/\aK Tryz.prog k pre post:=by
 intro k pre post h
 simp only [NI,List.mem_cons,List.not_mem_nil,or_false,Prod.mk.injEq] at h
 obtain ⟨rfl,rfl,rfl⟩:=h
 exact ⟨by kernel_rfl,aaF⟩
def knB:Kn:=[(.ag (.var 22) (.lit 0),true),(.aY (.var 71) (.lit 1),false),(.aY (.lit 11) (.var 71),false),(.aY (.var 85) (.lit 0),false),(.ah (.lit 9) (.var 85),false),(.aY (.var 86) (.lit 0),false),(.ah (.lit 9) (.var 86),false)]
noncomputable def XY:Ex:={sched:=sched,loops:=[],cons:=[om],fin:=nI}
abbrev agX:List (Nat × IE):=yr 65 65 7<|yo [(57,yv 57),(56,yv 56)]<|yr 3 3 4<|yo [yz 53,yz 52,yz 50,yz 49,yz 47,yz 45,yz 44,yz 43,yz 42,yz 40,yz 39,yz 38,yz 37,yz 35,yz 34,yz 33,yz 32,yz 30,yz 29,yz 28,yz 27,yz 26,yz 25,yz 24,yz 23,yz 22]<|yr 21 88 4<|yr 16 83 4<|yr 11 78 8 []
abbrev agY:List (Nat × BE):=yP [(46,1),(41,1),(36,1),(31,1)]<|yV [(51,.lit true),(48,.lit true),(17,yw 84),(12,yw 79)]<|yE 0 mQ
abbrev agZ:List (Nat × CV):=[(155,yu 155 144 7 yN 0),(154,yu 154 155 7 yN 0),(153,yu 153 134 5 yW 0),(139,yl 139 9 5 50 yW 0)]
def He:Out :=
 .br (.or (.ag (.var 71) (.lit 6)) (.ag (.var 71) (.lit 7)))
 (.call 0 {lo:=0,ae:=0,iv:=agX,bv:=agY,ct:=[(70,yu 70 59 7 yN 0),(54,yl 54 9 5 50 yW 0)],bk:=[(3,yc 3 7),(0,yb 0)],nb:=[2,1,2,1]} 89 <|
  .fin {lo:=89,ae:=4,iv:=yD 0 agw,bv:=yE 0 agx,ct:=agZ,bk:=[(6,yc 7 7),(5,yc 6 7),(4,yc 5 5)]})
 (.call 0 {lo:=0,ae:=0,iv:=agX,bv:=agY,ct:=[(70,yu 70 59 7 yN 0),(54,yl 54 9 5 50 yW 0)],bk:=[(3,yc 3 7),(0,yb 0)],nb:=[2,1,2,1]} 89 <|
  .fin {lo:=89,ae:=4,iv:=yD 0 agw,bv:=yE 0 agx,ct:=agZ,bk:=[(6,yc 7 7),(5,yc 6 7),(4,yc 5 5)]})
theorem XZ:exec tab XY 8000 [] (bZ nI.f nI.nv knB nI.gl nI.hp nI.args)=He:=by kernel_rfl
def Bq (ρ:Env):Prop:=(dw ρ 4/\zI ρ/\Qb ρ 4)/\ρ.iv 22=0/\(fe ρ 71).OK
def MN (ρ:Env):Prop:=dw ρ 89/\aa ρ 0 89=((aa ρ 0 4).begin (fe ρ 71)).1
theorem aaH {r:RS} {c:Ca} (h:r.step=0) (a:c.OK):(r.begin c).1=({r with call:=c,step:=0,acc:=Ac.zero,word:=Wd.zero,clock:=Wd.zero,index:=0,seen:=[],bK:=[]}:RS).opened/\(r.begin c).2=true:=by
 obtain ⟨c1,c2,c3,c4,b,d⟩:=a
 unfold RS.begin
 rw [iN,iN,iN]
 exact ⟨rfl,rfl⟩
theorem X0 (ρ:Env) (a:Bq ρ.num):Sat MN NI [] ρ He:=by
 replace a:Bq ρ:=a
 obtain ⟨⟨⟨m,l,g⟩,r,n⟩,j,h⟩:=a
 have d:((aa ρ 0 4).begin (fe ρ 71)).1=({aa ρ 0 4 with call:=fe ρ 71,step:=0,acc:=Ac.zero,word:=Wd.zero,clock:=Wd.zero,index:=0,seen:=[],bK:=[]}:RS).opened:=(aaH j h).1
 obtain ⟨-,-,c3,c4,p,s⟩:=h
 unfold He
 refine Sat.br (λ_=>?_) (λ_=>?_)
 all_goals
  refine jO (c:=om) rfl ({aa ρ 0 4 with call:=fe ρ 71,step:=0,acc:=Ac.zero,word:=Wd.zero,clock:=Wd.zero,index:=0,seen:=[],bK:=[]}:RS) ({aa ρ 0 4 with call:=fe ρ 71,step:=0,acc:=Ac.zero,word:=Wd.zero,clock:=Wd.zero,index:=0,seen:=[],bK:=[]}:RS).opened (by decide) (by decide) (ru rfl rfl rfl rfl) ⟨⟨by exact qE rfl rfl,by exact ⟨qE rfl rfl,Int.le_refl 0,.inl rfl⟩,g⟩,r,n,⟨c3,c4⟩,p,s⟩ bI (λe f o=>⟨f.1,by rw [<-o];exact f.2⟩) (λu=>(dw u 89)/\aa u 0 89=((aa u 0 4).begin (fe u 71)).1) (λe k i=>⟨k,i.trans d.symm⟩) λu q=>?_
  obtain ⟨⟨m,l,g⟩,d⟩:=q
  exact Sat.fin ⟨il,Eq.trans (b:=(aa u 0 89)) bI (Eq.symm d.symm)⟩
theorem X3:aK Tryz.prog nI Bq MN :=
 bq bM (E:=XY) (cs:=NI) rfl aaG aO rfl XZ (by kernel_rfl) (λa h p c=>by
   obtain ⟨-,b,c1,c2,c3,c4,d,e⟩:=h
   replace b:a.iv 22=0:=b
   replace c1:1<=a.iv 71:=c1
   replace c2:a.iv 71<=11:=c2
   replace c3:0<=a.iv 85:=c3
   replace c4:a.iv 85<9:=c4
   replace d:0<=a.iv 86:=d
   replace e:a.iv 86<9:=e
   simp only [knB,List.mem_cons,List.not_mem_nil,or_false] at c
   rcases c with rfl | rfl | rfl | rfl | rfl | rfl | rfl
   · exact beq_iff_eq.2 b
   · exact decide_eq_false (by show ¬a.iv 71<1;omega)
   · exact decide_eq_false (by show ¬11<a.iv 71;omega)
   · exact decide_eq_false (by show ¬a.iv 85<0;omega)
   · exact decide_eq_false (by show ¬9<=a.iv 85;omega)
   · exact decide_eq_false (by show ¬a.iv 86<0;omega)
   · exact decide_eq_false (by show ¬9<=a.iv 86;omega)) X0
noncomputable def ag0:Ex:={sched:=sched,loops:=[anb],fin:=oQ}
def Qe:Out :=
 .ob (.or (.not (.var 1)) (.ag (.var 2) y0)) <|
 .ob (.ah y0 (.var 2)) <|
 .loop 5 {lo:=5,ae:=1,iv:=[yz 5]} <|
 .br (.aY (.var 5) (.var 2))
 (.ob (.not (.var 1)) <|
  .ob (.ah y0 (.var 5)) <|
  .br (.and (.cell 4 (.var 5) y0 0) (.not (.ag (.cell 4 (.var 5) y0 1) (.var 0))))
  (.fin {lo:=5,ae:=1,bv:=[(5,.lit false)]})
  (.ob (.inr .i64 (.add (.var 5) y1)) <|
   .back 0 {lo:=5,ae:=1,iv:=[(5,.add (.var 5) y1)]}))
 (.fin {lo:=5,ae:=1,bv:=[(5,.lit true)]})
theorem aey:exec tab ag0 8000 [] (bZ oQ.f oQ.nv [] oQ.gl oQ.hp oQ.args)=Qe:=by kernel_rfl
def Eb (ρ:Env):Prop:=bE ρ 1/\ρ.iv 2<=1000000
def Fg (ρ:Env):Prop:=ρ.bv 5=RS.may (ρ.iv 0) (iK ρ 4 (ρ.iv 2))
def X4 (ρ:Env):Prop:=Eb ρ/\(0<=ρ.iv 5/\ρ.iv 5<=ρ.iv 2)/\RS.may (ρ.iv 0) (iK ρ 4 (ρ.iv 5))=true
theorem Vi {ρ:Env} {r:Nat} {n:Int} (h:0<=n):iK ρ r (n+1)=iK ρ r n ++ [lu ρ r n.toNat]:=by
 unfold iK
 rw [show (n+1).toNat=n.toNat+1 by omega,List.range_succ,List.map_append]
 rfl
theorem aez (ρ:Env) (a:Eb ρ.num):Sat Fg [] [] ρ Qe:=by
 replace a:Eb ρ:=a
 have b:=a
 obtain ⟨e,g⟩:=a
 unfold Qe
 refine Sat.ob (dP e) (Sat.ob (decide_eq_true e.2.1) (Sat.qD X4 (λr=>(r.iv 2-r.iv 5).toNat) (λ_=>True) ⟨b,⟨Int.le_refl 0,e.2.1⟩,rfl⟩ (λ_=>trivial) λq _ d=>?_))
 replace d:X4 q:=d
 obtain ⟨⟨e,g⟩,⟨f,h⟩,d⟩:=d
 refine Sat.br (λc=>?_) (λc=>?_)
 ·simp only [Da] at c
  refine Sat.ob (uo e (by simp only [Nat.reduceAdd];omega)) (Sat.ob (decide_eq_true f) (Sat.br (λc2=>?_) (λc2=>?_)))
  ·simp only [Da] at c2
   refine Sat.fin ?_
   show false=RS.may (q.iv 0) (iK q 4 (q.iv 2))
   refine Eq.symm (List.all_eq_false.2 ⟨lu q 4 (q.iv 5).toNat,List.mem_map.2 ⟨(q.iv 5).toNat,List.mem_range.2 (by omega),rfl⟩,?_⟩)
   show ¬(!(q.bc 4 (q.iv 5).toNat 0 0 && q.ic 4 (q.iv 5).toNat 0 1 != q.iv 0))=true
   simp [c2.1,c2.2]
  ·simp only [Da] at c2
   refine oS (Sat.back rfl ⟨⟨⟨e,g⟩,⟨?_,?_⟩,?_⟩,?_⟩)
   ·show 0<=q.iv 5+1;omega
   ·show q.iv 5+1<=q.iv 2;omega
   ·show RS.may (q.iv 0) (iK q 4 (q.iv 5+1))=true
    rw [Vi f]
    unfold RS.may at d ⊢
    rw [List.all_append,d,Bool.true_and,List.all_cons,List.all_nil,Bool.and_true]
    show (!(q.bc 4 (q.iv 5).toNat 0 0 && q.ic 4 (q.iv 5).toNat 0 1 != q.iv 0))=true
    rcases c2 with c2 | c2
    ·simp [c2]
    ·simp [c2]
   ·show (q.iv 2-(q.iv 5+1)).toNat<(q.iv 2-q.iv 5).toNat
    omega
 ·simp only [Da] at c
  refine Sat.fin ?_
  show true=RS.may (q.iv 0) (iK q 4 (q.iv 2))
  rw [show q.iv 2=q.iv 5 by omega]
  exact d.symm
theorem aeA:aK Tryz.prog oQ Eb Fg :=
 bq bM (E:=ag0) (cs:=[]) rfl (λk pre post h=>by cases h) aO rfl aey (by kernel_rfl) (λb _ p a=>by cases a) aez
end Go.Proofs.YthomdlajobnmnaaGreatDoor
