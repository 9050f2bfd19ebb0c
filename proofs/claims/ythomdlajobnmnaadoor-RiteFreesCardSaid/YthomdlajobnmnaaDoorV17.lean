/- part 17 of the proof -/
import Derived.Test.YthomdlajobnmnaaDoorChecked
import Derived.WalkKit
import Derived.LaidEql
import Derived.Stop.Asserts
import Derived.RowKitTokens
import Derived.Test.YthomdlajobnmnaaDoorV10
import Derived.Test.YthomdlajobnmnaaDoorV14
import Derived.Test.YthomdlajobnmnaaDoorV16
namespace Go.Proofs.YthomdlajobnmnaaDoor
open Go.RowKit Go.Extern.Stop Go.Stop Go.Extern
theorem SF (v:Value) (w:World):(Extern.ReflectliteType.typeOf #[.iface 177 v]).run Tryd.prog w=.ok (.iface 144 (.agg #[.pointer (some ⟨7,177,none⟩)])) w:=by kernel_rfl
def XB:Array Value→Sem Value:=Extern.ReflectliteType.method fun t=>do Extern.Rtype.noPackHeld "Comparable" t;pure (.bool (←typeInfo t).comparable)
theorem J4 (w:World):(XB #[.agg #[.pointer (some ⟨7,177,none⟩)]]).run Tryd.prog w=.ok (.bool true) w:=by kernel_rfl
theorem zR (v:Value) (w:World):(Go.method 310 144 v "Comparable").run Tryd.prog w=.ok (130,v) w:=by kernel_rfl
theorem XC:(Tryd.prog.info? 177).map (·.comparable)=some true:=by kernel_rfl
theorem XD:(Tryd.prog.info? 198).map (·.size)=some 1:=by kernel_rfl
theorem Vv (b:Addr) (w:World):Calls Tryd.prog 35 #[.iface 177 (.pointer (some b)),.iface 177 (.pointer (some b))] w fun e w'=>e=.returned (.bool true)∧w'=w:=by
 obtain ⟨i,hi,hcmp⟩:=Option.map_eq_some_iff.1 XC
 obtain ⟨j,hj,hjs⟩:=Option.map_eq_some_iff.1 XD
 have h8:=@run_callFunc_extern Tryd.prog 64 _ Extern.ReflectliteType.typeOf Tryd.func64 (by kernel_rfl) (by kernel_rfl) (by kernel_rfl) (by kernel_rfl)
 have h32:=@run_callFunc_extern Tryd.prog 130 _ XB Tryd.func130 (by kernel_rfl) (by kernel_rfl) (by kernel_rfl) (by kernel_rfl)
 have tT:=SF
 have cT:=J4
 have mR:=zR
 have heq:=run_eql_iface_ptr_same (P:=Tryd.prog) w b Tryd.underlying27 Tryd.underlying177 hi hcmp hj
 go_enter Tryd.func35,Tryd.ntmps35
 go_wp2
 refine wp_loop_rounds 1 ?_
 rw [rounds_succ]
 go_wp2
 go_ret
 exact ⟨rfl,rfl⟩
end Go.Proofs.YthomdlajobnmnaaDoor
set_option linter.unusedSimpArgs false
set_option linter.unusedVariables false
namespace Go.Proofs.YthomdlajobnmnaaDoor
open Go.Rex
def Qc:SC→Bool
 | .int _ (.lit 0)=>true
 | .bool (.lit false)=>true
 | .bU=>true
 | .hole=>true
 | _=>false
theorem XE {ρ:Env} {c:SC} (h:Qc c=true):c.I ρ=0∧c.B ρ=false:=by
 unfold Qc at h
 split at h
 ·exact ⟨rfl,rfl⟩
 ·exact ⟨rfl,rfl⟩
 ·exact ⟨rfl,rfl⟩
 ·exact ⟨rfl,rfl⟩
 ·cases h
theorem GK {ρ:Env}:∀{cs:List SC},cs.all Qc=true→∀p,Qc (cs.getD p .hole)=true
 | [],_,p=>rfl
 | c :: r,h,p=>by
  simp only [List.all_cons,Bool.and_eq_true] at h
  cases p with
  | zero=>exact h.1
  | succ p=>exact GK (ρ:=ρ) h.2 p
theorem wG {ρ:Env} {cs:List SC} {lo p:Nat} (h:(cs.drop lo).all Qc=true) (hp:lo≤p):(cs.getD p .hole).I ρ=0∧(cs.getD p .hole).B ρ=false:=by
 have:=GK (ρ:=ρ) h (p-lo)
 rw [show (cs.drop lo).getD (p-lo) .hole=cs.getD p .hole by simp [List.getD_eq_getElem?_getD,List.getElem?_drop,show lo+(p-lo)=p by omega]] at this
 exact XE this
def Y5:Kn:=[(.bT (.var 0) (.lit 1),false),(.bT (.lit 5) (.var 0),false),(.bT (.var 2) (.lit 1),false),(.bT (.lit 6) (.var 2),false),(.bT (.var 1) (.lit 0),false),(.aA (.var 2) (.var 1),false),(.bT (.var 3) (.lit 1),false),(.bT (.lit 64) (.var 3),false)]
noncomputable def UB:Ex:={sched:=sched,loops:=[],fin:=oJ}
def FE:Out :=
 .fin {lo:=4,az:=0,iv:=[(65,.lit 0),(64,.lit 0),(63,.lit 0),(62,.lit 0),(61,.lit 0),(60,.lit 0),(59,.lit 0),(57,.lit 0),(56,.lit 0),(53,.lit 0),(52,.lit 0),(50,.lit 0),(49,.lit 0),(47,.lit 0),(45,.lit 0),(44,.lit 0),(43,.lit 0),(42,.lit 0),(40,.lit 0),(39,.lit 0),(38,.lit 0),(37,.lit 0),(35,.lit 0),(34,.lit 0),(33,.lit 0),(32,.lit 0),(30,.lit 0),(29,.lit 0),(28,.lit 0),(27,.lit 0),(26,.lit 0),(25,.lit 0),(24,.lit 0),(23,.lit 0),(22,.lit 0),(21,.lit 0),(20,.lit 0),(19,.lit 0),(18,.lit 0),(16,.lit 0),(15,.lit 0),(14,.lit 0),(13,.lit 0),(11,.lit 0),(10,.lit 0),(9,.lit 0),(8,.lit 0),(7,.lit 0),(6,.lit 0),(5,.lit 0),(4,.lit 0)],bv:=[(67,.lit false),(66,.lit false),(58,.lit true),(55,.lit false),(51,.lit true),(48,.lit true),(46,.lit false),(41,.lit false),(36,.lit false),(31,.lit false),(17,.lit false),(12,.lit false)],ct:=[(54,.ex [.int .i64 (.lit 0),.int .i64 (.lit 0),.int .i64 (.lit 0),.int .i64 (.lit 0),.int .i64 (.lit 0),.int .i64 (.lit 0),.int .i64 (.lit 0),.int .i64 (.lit 0),.bool (.lit false),.int .i64 (.lit 0),.int .i64 (.lit 0),.int .i64 (.lit 0),.int .i64 (.lit 0),.bool (.lit false),.int .i64 (.lit 0),.int .i64 (.lit 0),.int .i64 (.lit 0),.int .i64 (.lit 0),.int .i64 (.lit 0),.int .i64 (.lit 0),.int .i64 (.lit 0),.int .i64 (.lit 0),.int .i64 (.lit 0),.int .i64 (.lit 0),.int .i64 (.lit 0),.int .i64 (.lit 0),.int .i64 (.lit 0),.bool (.lit false),.int .i64 (.lit 0),.int .i64 (.lit 0),.int .i64 (.lit 0),.int .i64 (.lit 0),.bool (.lit false),.int .i64 (.lit 0),.int .i64 (.lit 0),.int .i64 (.lit 0),.int .i64 (.lit 0),.bool (.lit false),.int .i64 (.lit 0),.int .i64 (.lit 0),.int .i64 (.lit 0),.int .i64 (.lit 0),.bool (.lit false),.int .i64 (.lit 0),.bU,.bU,.int .i64 (.var 0),.int .i64 (.var 1),.int .i64 (.var 2),.int .i64 (.var 3),.int .i64 (.lit 0),.int .i64 (.lit 0),.int .i64 (.lit 0),.int .i64 (.lit 0),.bool (.lit false),.int .i64 (.lit 0),.int .i64 (.lit 0),.int .i64 (.lit 0),.int .i64 (.lit 0),.bool (.lit false),.int .i64 (.lit 0),.int .i64 (.lit 0),.int .i64 (.lit 0),.int .i64 (.lit 0),.bool (.lit false),.int .i64 (.lit 0),.int .i64 (.lit 0),.int .i64 (.lit 0),.int .i64 (.lit 0),.bool (.lit false),.int .i64 (.lit 0),.int .i64 (.lit 0),.int .i64 (.lit 0),.int .i64 (.lit 0),.bool (.lit false),.int .i64 (.lit 0),.int .i64 (.lit 0),.int .i64 (.lit 0),.int .i64 (.lit 0),.bool (.lit false),.int .i64 (.lit 0),.int .i64 (.lit 0),.int .i64 (.lit 0),.int .i64 (.lit 0),.bool (.lit false),.int .i64 (.lit 0),.int .i64 (.lit 0),.int .i64 (.lit 0),.int .i64 (.lit 0),.bool (.lit false),.int .i64 (.lit 0),.int .i64 (.lit 0),.int .i64 (.lit 0),.int .i64 (.lit 0),.bool (.lit false),.bool (.lit false),.int .i64 (.lit 0),.int .i64 (.lit 0),.bU,.int .i64 (.lit 0),.int .i64 (.lit 0),.int .i64 (.lit 0),.int .i64 (.lit 0),.int .i64 (.lit 0),.bool (.lit false),.bool (.lit false)] 5 0 50)],bk:=[(0,yb 0)],nb:=[3,2,1,3,2,1]}
theorem SG:exec tab UB 8000 [] (fT oJ.f oJ.nv Y5 oJ.gl oJ.hp oJ.args)=FE:=by kernel_rfl
def LG (ρ:Env):Prop:=(1≤ρ.iv 0∧ρ.iv 0≤5)∧(0≤ρ.iv 1∧ρ.iv 1<ρ.iv 2)∧(1≤ρ.iv 2∧ρ.iv 2≤6)∧1≤ρ.iv 3∧ρ.iv 3≤64
def J5 (ρ:Env):Prop:=bJ ρ 4∧ae ρ 0 4=RS.new (ρ.iv 0) (ρ.iv 1) (ρ.iv 2) (ρ.iv 3)
theorem SH (ρ:Env) (hpre:LG ρ.num):Sat J5 [] [] ρ FE:=by
 unfold FE
 have o1:=True.intro
 refine Sat.fin ⟨⟨ak rfl rfl,⟨ak rfl rfl,Int.le_refl 0,.inl rfl⟩,ak rfl rfl⟩,RS.ext' rfl rfl rfl rfl rfl rfl (Gx rfl) (oM rfl) rfl rfl rfl rfl (fun i=>?_) rfl (uM rfl) rfl rfl⟩
 refine pJ.2 ⟨?_,?_,?_,?_,?_⟩
 ·show ((_:List SC).getD (i * 5+0 * 0+50+0) .hole).I ρ=0
  exact (wG (lo:=50) (by rfl) (by omega)).1
 ·show ((_:List SC).getD (i * 5+0 * 0+50+1) .hole).I ρ=0
  exact (wG (lo:=50) (by rfl) (by omega)).1
 ·show ((_:List SC).getD (i * 5+0 * 0+50+2) .hole).I ρ=0
  exact (wG (lo:=50) (by rfl) (by omega)).1
 ·show ((_:List SC).getD (i * 5+0 * 0+50+3) .hole).I ρ=0
  exact (wG (lo:=50) (by rfl) (by omega)).1
 ·show ((_:List SC).getD (i * 5+0 * 0+50+4) .hole).B ρ=false
  exact (wG (lo:=50) (by rfl) (by omega)).2
theorem SK:bF Tryd.prog oJ LG J5 :=
 dH eQ (E:=UB) (cs:=[]) rfl (fun k pre post h=>by cases h) cK rfl SG (by kernel_rfl) (fun ρ h p hp=>by
   obtain ⟨⟨a1,a2⟩,⟨b1,b2⟩,⟨c1,c2⟩,d1,d2⟩:=h
   simp only [Y5,List.mem_cons,List.not_mem_nil,or_false] at hp
   rcases hp with rfl | rfl | rfl | rfl | rfl | rfl | rfl | rfl
   · exact decide_eq_false (show ¬ρ.num.iv 0<1 by omega)
   · exact decide_eq_false (show ¬5<ρ.num.iv 0 by omega)
   · exact decide_eq_false (show ¬ρ.num.iv 2<1 by omega)
   · exact decide_eq_false (show ¬6<ρ.num.iv 2 by omega)
   · exact decide_eq_false (show ¬ρ.num.iv 1<0 by omega)
   · exact decide_eq_false (show ¬ρ.num.iv 2≤ρ.num.iv 1 by omega)
   · exact decide_eq_false (show ¬ρ.num.iv 3<1 by omega)
   · exact decide_eq_false (show ¬64<ρ.num.iv 3 by omega)) SH
theorem KH {ρ ρ':Env} {r r':Nat} {n n':Int} (hn:n=n') (h:∀i:Nat,(i:Int)<n→bO ρ r i=bO ρ' r' i):aU ρ r n=aU ρ' r' n':=by
 subst hn
 exact List.map_congr_left fun i hi=>h i (by have:=List.mem_range.1 hi;omega)
noncomputable def Qd:Ex:={sched:=sched,loops:=[],fin:=kP}
def Cz:Out :=
 .br (.var 58)
 (.fin {lo:=71,az:=4,iv:=yo [(137,yv 70)]<|yr 132 65 7<|yo [(124,yv 57),(123,yv 56),(120,yv 53),(119,yv 52),(136,yv 69),(117,yv 50),(116,yv 49),(114,yv 47)]<|yr 112 45 4<|yr 107 40 4<|yr 102 35 4<|yr 97 30 13<|yr 83 16 4<|yr 78 11 8<|[(140,.lit 0),(139,.lit 0)],bv:=[(134,yw 67),(133,yw 66),(125,yw 58),(122,yw 55),(118,yw 51),(115,yw 48),(113,yw 46),(108,yw 41),(103,yw 36),(98,yw 31),(84,yw 17),(79,yw 12),(138,.lit true)],ct:=[(137,yu 70 59 7 yN 0),(136,yu 69 70 7 yN 0),(135,yu 68 49 5 yW 0),(121,yl 54 9 5 50 yW 0)],bk:=[(6,yc 3 7),(5,yc 2 7),(4,yc 1 5)],nb:=[7]})
 (.ob (.aA (.mul (.var 59) (.lit 56)) (.lit 140737488355328)) <|
  .ob (.aA (.lit 0) (.var 59)) <|
  .new 71 [.be (.and (.aA (.var 59) (.var 71)) (.aA (.var 71) (.lit 9223372036854775807))),.be (.or (.lit true) (.aC (.var 59) (.lit 0))),.be (.or (.lit true) (.aC (.var 71) (.lit 0))),.cat 72 (.lit 0) (.ex [] 7 0 0) (.var 59) (yu 70 59 7 yN 0)] <|
  .fin {lo:=71,az:=4,iv:=yo [(137,yv 70)]<|yr 132 65 7<|yo [(124,yv 57),(123,yv 56),(120,yv 53),(119,yv 52),(136,yv 69),(117,yv 50),(116,yv 49),(114,yv 47)]<|yr 112 45 4<|yr 107 40 4<|yr 102 35 4<|yr 97 30 13<|yr 83 16 4<|yr 78 11 8<|[(140,yv 71),(139,yv 59)],bv:=[(134,yw 67),(133,yw 66),(125,yw 58),(122,yw 55),(118,yw 51),(115,yw 48),(113,yw 46),(108,yw 41),(103,yw 36),(98,yw 31),(84,yw 17),(79,yw 12),(138,.lit false)],ct:=[(141,yu 72 59 7 yN 0),(137,yu 70 59 7 yN 0),(136,yu 69 70 7 yN 0),(135,yu 68 49 5 yW 0),(121,yl 54 9 5 50 yW 0)],bk:=[(6,yc 3 7),(5,yc 2 7),(4,yc 1 5),(7,yc 5 7)]})
theorem Qe:exec tab Qd 8000 [] (fT kP.f kP.nv [] kP.gl kP.hp kP.args)=Cz:=by kernel_rfl
def CB (ρ:Env):Prop:=bJ ρ 4∧ρ.iv 59≤1000000
def GL (ρ:Env):Prop:=bJ ρ 71∧(bg ρ 138∧aU ρ 141 (ρ.iv 139)=(ae ρ 0 4).notes)∧ae ρ 0 71=ae ρ 0 4
theorem Qf (ρ:Env) (hpre:CB ρ.num):Sat GL [] [] ρ Cz:=by
 replace hpre:CB ρ:=hpre
 obtain ⟨⟨o1,o2,o3⟩,hf⟩:=hpre
 have GH:=o3
 obtain ⟨p1,p2,p3,p4⟩:=GH
 simp only [Nat.reduceAdd] at p1 p2 p3 p4
 unfold Cz
 refine Sat.br (fun c=>?_) (fun c=>?_)
 ·exact Sat.fin ⟨⟨(by first | exact o1 | exact o2 | exact o3 | exact ak rfl rfl | assumption),(by first | exact o2 | exact ⟨ak rfl rfl,Int.le_refl 0,.inl rfl⟩ | assumption),(by first | exact o1 | exact o2 | exact o3 | exact ak rfl rfl | assumption)⟩,⟨ak rfl rfl,(uM rfl).trans (uM (p1 c)).symm⟩,Eq.trans (b:=(ae ρ 0 4)) (RS.ext' rfl rfl rfl rfl rfl rfl bB bE rfl rfl rfl rfl bI rfl bC rfl rfl) (Eq.symm (rfl))⟩
 ·refine Sat.ob (by simp only [Da];omega) (Sat.ob (decide_eq_true p2) (Sat.ZH (fun q=>bJ q 4) (fun e=>⟨o1,o2,o3⟩) fun q hq hf=>?_))
  obtain ⟨o1,o2,o3⟩:=hq
  have h1:=hf _ (List.mem_cons_self ..)
  have h2:=hf _ (List.mem_cons_of_mem _ (List.mem_cons_of_mem _ (List.mem_cons_of_mem _ (List.mem_cons_self ..))))
  simp only [Da,D.be] at h1
  refine Sat.fin ⟨⟨(by first | exact o1 | exact o2 | exact o3 | exact ak rfl rfl | assumption),(by first | exact o2 | exact ⟨ak rfl rfl,Int.le_refl 0,.inl rfl⟩ | assumption),(by first | exact o1 | exact o2 | exact o3 | exact ak rfl rfl | assumption)⟩,⟨⟨fun h=>(by cases h),o3.2.1,h1⟩,?_⟩,Eq.trans (b:=(ae q 0 4)) (RS.ext' rfl rfl rfl rfl rfl rfl bB bE rfl rfl rfl rfl bI rfl bC rfl rfl) (Eq.symm (rfl))⟩
  have h3:∀i j:Nat,(i:Int)<q.iv 59→q.ic 72 i 0 j=q.ic 70 i 0 j∧q.bc 72 i 0 j=q.bc 70 i 0 j:=fun i j hi=>by
   have:=(h2 i j).2 hi
   simpa [-Int.pred_toNat,Sub.af,assoc,CV.I,CV.B,ah,ai,aa.I,aa.B,SC.I,SC.B,IE.den,BE.den] using this
  refine (KH rfl fun i hi=>?_:aU _ 141 _=aU q 70 (q.iv 59))
  replace hi:(i:Int)<q.iv 59:=hi
  obtain ⟨a0,b0⟩:=h3 i 0 hi
  obtain ⟨a1,b1⟩:=h3 i 1 hi
  obtain ⟨a2,b2⟩:=h3 i 2 hi
  obtain ⟨a3,b3⟩:=h3 i 3 hi
  obtain ⟨a4,b4⟩:=h3 i 4 hi
  obtain ⟨a5,b5⟩:=h3 i 5 hi
  obtain ⟨a6,b6⟩:=h3 i 6 hi
  simp [bO,aG,-Int.pred_toNat,Sub.af,assoc,CV.I,CV.B,ah,ai,aa.I,aa.B,SC.I,SC.B,IE.den,BE.den,a0,a1,a2,a3,b4,a5,a6]
theorem Qg:bF Tryd.prog kP CB GL :=
 dH eQ (E:=Qd) (cs:=[]) rfl (fun k pre post h=>by cases h) cK rfl Qe (by kernel_rfl) (fun ρ _ p hp=>by cases hp) Qf
theorem Vw:bF Tryd.prog Ui nI nI:=by
 refine RB ⟨_,Tryd.func35,by kernel_rfl,by kernel_rfl⟩ rfl (fun ρ ν w jg _ _=>?_) fun _ _=>trivial
 have e0:SA.den ρ ν {aI:=0}=ν 0:=by simp [SA.den,SA.off,IE.den,Addr.add_zero]
 have hc:=Vv (ν 0) w
 show Calls Tryd.prog 35 #[.iface 177 (.pointer (some (SA.den ρ ν {aI:=0}))),.iface 177 (.pointer (some (SA.den ρ ν {aI:=0})))] w _
 rw [e0]
 exact hc
def SL:kM:=[(Ui,nI,nI)]
theorem Vx:∀k pre post,(k,pre,post)∈SL→jF k=true∧bF Tryd.prog k pre post:=by
 intro k pre post h
 simp only [SL,List.mem_cons,List.not_mem_nil,or_false,Prod.mk.injEq] at h
 obtain ⟨rfl,rfl,rfl⟩:=h
 exact ⟨by kernel_rfl,Vw⟩
noncomputable def LH:Ex:={sched:=sched,loops:=[],cons:=[Ui],fin:=tX}
def GM:Out :=
 .ob (.inr .i64 (.mul (.lit 0) (.lit 9))) <|
 .ob (.inr .i64 (.add (.lit 25) (.mul (.lit 0) (.lit 9)))) <|
 .ob (.inr .i64 (.add (.add (.lit 25) (.mul (.lit 0) (.lit 9))) (.lit 1))) <|
 .call 0 {lo:=0,az:=0,bk:=[(0,yb 1)]} 1 <|
 .fin {lo:=1,az:=12}
theorem NM:exec tab LH 8000 [] (fT tX.f tX.nv [] tX.gl tX.hp tX.args)=GM:=by kernel_rfl
theorem NN:bF Tryd.prog tX nI nI :=
 dH eQ (E:=LH) (cs:=SL) rfl Vx cK rfl NM (by kernel_rfl) (fun ρ _ p hp=>by cases hp) fun ρ _=>by
  unfold GM
  refine Sat.ob ?_ (Sat.ob ?_ (Sat.ob ?_ (Sat.iD (c:=Ui) rfl trivial (fun _=>True) (fun _ _=>trivial) fun q _=>Sat.fin trivial)))
  all_goals simp only [Da];omega
structure RS.Tk (r:RS) (x:Rp):Prop where
 me:0≤r.me∧r.me<6
 threads:1≤r.threads∧r.threads≤6
 step:r.step≠0
 notes:r.notes.length≤1000000
 seen:r.step=13→r.seen.length≤99999
 clock:r.step=13→r.aj=4→(-1000000000000≤r.clock.tag∧r.clock.tag≤1000000000000)∧-1000000000000≤r.clock.num∧r.clock.num≤1000000000000
 index:r.step=13→0≤r.index∧r.index≤99999
 word:(-1000000000000≤x.word.tag∧x.word.tag≤1000000000000)∧-1000000000000≤x.word.num∧x.word.num≤1000000000000
 freed:-1000000000000≤r.freed∧r.freed≤1000000000000
 again:r.step=15→r.aj=4
 EY:r.step=4→0≤r.index∧r.index≤8
 cZ:r.step=5∨r.step=6∨r.step=7→0≤r.call.i∧r.call.i<9
 ZK:r.step=16→∃d l,r.bM=d :: l∧d∈r.notes
def vD (ρ:Env) (b:Nat):RS where
 call:=iK ρ b
 step:=ρ.iv (b+18)
 acc:=ay ρ (b+19)
 word:=av ρ (b+33)
 clock:=av ρ (b+38)
 index:=ρ.iv (b+43)
 seen:=dX ρ (b+47) (ρ.iv (b+45))
 bM:=gX ρ (b+51) (ρ.iv (b+51)) (ρ.iv (b+49))
 aj:=ρ.iv (b+52)
 me:=ρ.iv (b+53)
 threads:=ρ.iv (b+54)
 most:=ρ.iv (b+55)
 holds:=fun i=>aG (ρ.ic (b+70) i 0) (ρ.bc (b+70) i 0)
 span:=⟨ρ.bv (b+56),ρ.iv (b+57),ρ.iv (b+58)⟩
 notes:=aU ρ (b+62) (ρ.iv (b+60))
 freed:=ρ.iv (b+63)
 gW:=aL ρ (b+64)
def SN (ρ:Env) (b:Nat):Prop:=bg ρ (b+44)∧(bg ρ (b+48)∧0≤ρ.iv (b+51)∧(ρ.iv (b+49)=0∨ρ.iv (b+51)+ρ.iv (b+49)≤ρ.iv (b+48)))∧bg ρ (b+59)
def RS.at (r:RS) (E M T N:Int):RS:={r with aj:=E,me:=M,threads:=T,most:=N}
section
variable {σ:Sub} {ρ q:Env} {m d:Nat}
theorem LJ (h:71≤m):ae (aJ σ m d ρ q) 0 m=(ae q 0 d).at ((σ.af ρ).iv 0) ((σ.af ρ).iv 1) ((σ.af ρ).iv 2) ((σ.af ρ).iv 3):=by
 have h0:=(rX (σ:=σ) (ρ:=ρ) (q:=q) (d:=d) (show 0<m by omega))
 have h1:=(rX (σ:=σ) (ρ:=ρ) (q:=q) (d:=d) (show 0+1<m by omega))
 have h2:=(rX (σ:=σ) (ρ:=ρ) (q:=q) (d:=d) (show 0+2<m by omega))
 have h3:=(rX (σ:=σ) (ρ:=ρ) (q:=q) (d:=d) (show 0+3<m by omega))
 have z0:=iw (σ:=σ) (ρ:=ρ) (ρ':=q) (N:=d) m 0
 have z1:=kE (σ:=σ) (ρ:=ρ) (ρ':=q) (N:=d) m 0
 rw [Nat.add_zero,Nat.add_zero] at z0 z1
 unfold RS.at ae iK ay aL av dX aU gX
 rw [h0,h1,h2,h3]
 simp only [zI,Nat.add_assoc,Nat.reduceAdd,iw,kE,tZ,wz,z0,z1]
end
section
variable {post:Env→Prop} {cs:kM} {Γ:List (Env→Prop)} {ρ:Env}
theorem NP {g nv:Nat} {σ:Sub} {k:Out} (hg:cs[g]?=some (jc,uk,rz)) (r:RS) (c:Ca) (hr:ae (σ.af ρ) 0 4=r) (hc:iK (σ.af ρ) 71=c) (hok:bJ (σ.af ρ) 4)
  (hs:(0≤r.me∧r.me<6)∧1≤r.threads∧r.threads≤6) (hf:r.notes.length≤1000000) (h0:r.step=0) (hco:c.OK) (K:Env→Prop)
  (hK:∀e,bJ (ρ.join nv e) nv→(ae (ρ.join nv e) 0 nv).at r.aj r.me r.threads r.most=(r.begin c).1→K (ρ.join nv e)) (h:∀q,K q→Sat post cs Γ q k):Sat post cs Γ ρ (.call g σ nv k):=by
 subst hr hc
 have hn:((σ.af ρ).iv 59)≤1000000:=by
  have h1:(aU (σ.af ρ) 70 ((σ.af ρ).iv 59)).length≤1000000:=hf
  rw [iT] at h1
  omega
 refine Sat.iD (c:=jc) hg ⟨⟨hok,⟨hs.1.1,hs.1.2,hs.2.1,hs.2.2⟩,hn⟩,h0,hco⟩ K (fun e hq=>?_) h
 replace hq:rz (aJ σ 89 nv ρ (ρ.join nv e)):=hq
 obtain ⟨q1,q2⟩:=hq
 rw [xK] at q1
 rw [LJ (by decide),Ay (by decide)] at q2
 exact hK e q1 q2
theorem Qh {g nv:Nat} {σ:Sub} {k:Out} (hg:cs[g]?=some (lq,wF,uq)) (r:RS) (x:Rp) (hr:ae (σ.af ρ) 0 4=r) (hx:aL (σ.af ρ) 71=x) (hok:bJ (σ.af ρ) 4) (ht:r.Tk x) (K:Env→Prop)
  (hK:∀e,bJ (ρ.join nv e) nv→(ae (ρ.join nv e) 0 nv).at r.aj r.me r.threads r.most=(r.aK x).1→K (ρ.join nv e)) (h:∀q,K q→Sat post cs Γ q k):Sat post cs Γ ρ (.call g σ nv k):=by
 subst hr hx
 have hn:((σ.af ρ).iv 59)≤1000000:=by
  have h1:(aU (σ.af ρ) 70 ((σ.af ρ).iv 59)).length≤1000000:=ht.notes
  rw [iT] at h1
  omega
 have hn2:(σ.af ρ).iv 22=13→((σ.af ρ).iv 49)≤99999:=fun JK=>by
  have h1:(dX (σ.af ρ) 68 ((σ.af ρ).iv 49)).length≤99999:=ht.seen JK
  rw [ru] at h1
  omega
 refine Sat.iD (c:=lq) hg ⟨⟨hok,⟨ht.me.1,ht.me.2,ht.threads.1,ht.threads.2⟩,⟨⟨hn,hn2⟩,ht.clock,ht.index,ht.again⟩,ht.word,ht.freed,ht.ZK⟩,ht.step,ht.EY,ht.cZ⟩ K (fun e hq=>?_) h
 replace hq:uq (aJ σ 77 nv ρ (ρ.join nv e)):=hq
 obtain ⟨q1,q2⟩:=hq
 rw [xK] at q1
 rw [LJ (by decide),Ay (by decide)] at q2
 refine hK e q1 (q2.trans ?_)
 congr 1
end
structure Mn where
 r:RS
 pc:Int
 old:Wd
 node:Wd
 bad:Bool
 stop:Bool
def dV (w:Wd):Int:=w.slot+2000 * w.gen
def Ca.of (kind:Int):Ca:={Ca.zero with kind:=kind}
def Mn.next (m:Mn):Mn × Ca :=
 let x:=m.r.gW
 if m.pc=0 then ({m with pc:=1},Ca.of 1)
 else if m.pc=1 then ({m with pc:=2},Ca.of 6)
 else if m.pc=2 then ({m with pc:=3,old:=x.word},if x.word.slot=0 then Ca.of 3 else {Ca.of 3 with slot:=x.word.slot,gen:=x.word.gen,field:=1})
 else if m.pc=3 then ({m with pc:=4,bad:=m.bad || (m.old.slot != 0 && x.word.num != dV m.old)},Ca.of 8)
 else if m.pc=4 then
  if x.ok=false then ({m with pc:=0},Ca.of 2)
  else ({m with pc:=5,node:=x.word},{Ca.of 4 with slot:=x.word.slot,gen:=x.word.gen,field:=1,new:=Wd.dG (dV x.word)})
 else if m.pc=5 then ({m with pc:=6},{Ca.of 5 with old:=m.old,new:=⟨m.node.slot,m.node.gen,m.old.tag+1,0,false⟩})
 else if m.pc=6 then ({m with pc:=7},if x.ok=false then {Ca.of 9 with old:=m.node} else if m.old.slot=0 then Ca.of 3 else {Ca.of 10 with old:=m.old})
 else ({m with pc:=0},Ca.of 2)
def Mn.go:Nat→Mn→Mn × Option Bool
 | 0,m=>(m,none)
 | k+1,m =>
  if m.r.step≠0 then (m,none)
  else if m.stop=true∧m.pc=0 then (m,some true)
  else
   let q:=m.next
   let b:=q.1.r.begin q.2
   if b.2=false then ({q.1 with r:=b.1},some false) else Mn.go k {q.1 with r:=b.1}
def Mn.step (m:Mn) (p:PS):Mn × PS × Bool :=
 match m.go 12 with
 | (m,some b)=>(m,p,b)
 | (m,none) =>
  if m.r.step=0 then (m,p,false) else
  match p.act m.r.acc with
  | (p,none)=>(m,p,false)
  | (p,some x)=>({m with r:=(m.r.aK x).1},p,(m.r.aK x).2)
def Mn.new (aj me threads notes:Int):Mn:=⟨RS.new aj me threads notes,0,Wd.zero,Wd.zero,false,false⟩
noncomputable def Qi:Ex:={sched:=sched,loops:=[],cons:=[],fin:=jR}
def CE:Out :=
 .ob (.inr .i64 (.add (.var 0) (.lit 1))) <|
 .br (.aC (.add (.var 0) (.lit 1)) (.lit 1))
 (.fin {lo:=20,az:=2,iv:=yr 29 9 4<|yr 24 4 4<|[(20,.add (.var 0) (.lit 1)),(50,.lit 0),(49,.lit 0),(48,.lit 0),(47,.lit 0),(45,.lit 0),(44,.lit 0),(43,.lit 0),(42,.lit 0),(40,.lit 0),(39,.lit 0),(38,.lit 0),(37,.lit 0),(36,.lit 0),(35,.lit 0),(34,.lit 0),(33,.lit 1)],bv:=[(32,yw 12),(31,yw 11),(30,yw 10),(25,yw 5),(46,.lit false),(41,.lit false)]})
 (.br (.aC (.add (.var 0) (.lit 1)) (.lit 2))
  (.fin {lo:=20,az:=2,iv:=yr 29 9 4<|yr 24 4 4<|[(20,.add (.var 0) (.lit 1)),(50,.lit 0),(49,.lit 0),(48,.lit 0),(47,.lit 0),(45,.lit 0),(44,.lit 0),(43,.lit 0),(42,.lit 0),(40,.lit 0),(39,.lit 0),(38,.lit 0),(37,.lit 0),(36,.lit 0),(35,.lit 0),(34,.lit 0),(33,.lit 6)],bv:=[(32,yw 12),(31,yw 11),(30,yw 10),(25,yw 5),(46,.lit false),(41,.lit false)]})
  (.br (.aC (.add (.var 0) (.lit 1)) (.lit 3))
   (.br (.aC (.var 13) (.lit 0))
    (.fin {lo:=20,az:=2,iv:=yr 29 9 4<|yr 24 16 4<|[(20,.add (.var 0) (.lit 1)),(50,.lit 0),(49,.lit 0),(48,.lit 0),(47,.lit 0),(45,.lit 0),(44,.lit 0),(43,.lit 0),(42,.lit 0),(40,.lit 0),(39,.lit 0),(38,.lit 0),(37,.lit 0),(36,.lit 0),(35,.lit 0),(34,.lit 0),(33,.lit 3)],bv:=[(32,yw 12),(31,yw 11),(30,yw 10),(25,yw 17),(46,.lit false),(41,.lit false)]})
    (.fin {lo:=20,az:=2,iv:=yr 29 9 4<|yr 24 16 4<|[(20,.add (.var 0) (.lit 1)),(50,.lit 0),(49,.lit 0),(48,.lit 0),(47,.lit 0),(45,.lit 0),(44,.lit 0),(43,.lit 0),(42,.lit 0),(40,.lit 0),(39,.lit 0),(38,.lit 0),(37,.lit 0),(36,.lit 1),(35,yv 14),(34,yv 13),(33,.lit 3)],bv:=[(32,yw 12),(31,yw 11),(30,yw 10),(25,yw 17),(46,.lit false),(41,.lit false)]}))
   (.br (.aC (.add (.var 0) (.lit 1)) (.lit 4))
    (.br (.not (.var 11))
     (.br (.not (.aC (.var 1) (.lit 0)))
      (.ob (.inr .i64 (.mul (.lit 2000) (.var 2))) <|
       .ob (.inr .i64 (.add (.var 1) (.mul (.lit 2000) (.var 2)))) <|
       .fin {lo:=20,az:=2,iv:=yr 29 9 4<|yr 24 4 4<|[(20,.add (.var 0) (.lit 1)),(50,.lit 0),(49,.lit 0),(48,.lit 0),(47,.lit 0),(45,.lit 0),(44,.lit 0),(43,.lit 0),(42,.lit 0),(40,.lit 0),(39,.lit 0),(38,.lit 0),(37,.lit 0),(36,.lit 0),(35,.lit 0),(34,.lit 0),(33,.lit 8)],bv:=[(32,yw 12),(31,.not (.aC (.var 16) (.add (.var 1) (.mul (.lit 2000) (.var 2))))),(30,yw 10),(25,yw 5),(46,.lit false),(41,.lit false)]})
      (.fin {lo:=20,az:=2,iv:=yr 29 9 4<|yr 24 4 4<|[(20,.add (.var 0) (.lit 1)),(50,.lit 0),(49,.lit 0),(48,.lit 0),(47,.lit 0),(45,.lit 0),(44,.lit 0),(43,.lit 0),(42,.lit 0),(40,.lit 0),(39,.lit 0),(38,.lit 0),(37,.lit 0),(36,.lit 0),(35,.lit 0),(34,.lit 0),(33,.lit 8)],bv:=[(32,yw 12),(31,.lit false),(30,yw 10),(25,yw 5),(46,.lit false),(41,.lit false)]}))
     (.fin {lo:=20,az:=2,iv:=yr 29 9 4<|yr 24 4 4<|[(20,.add (.var 0) (.lit 1)),(50,.lit 0),(49,.lit 0),(48,.lit 0),(47,.lit 0),(45,.lit 0),(44,.lit 0),(43,.lit 0),(42,.lit 0),(40,.lit 0),(39,.lit 0),(38,.lit 0),(37,.lit 0),(36,.lit 0),(35,.lit 0),(34,.lit 0),(33,.lit 8)],bv:=[(32,yw 12),(31,.lit true),(30,yw 10),(25,yw 5),(46,.lit false),(41,.lit false)]}))
    (.br (.aC (.add (.var 0) (.lit 1)) (.lit 5))
     (.br (.not (.var 18))
      (.fin {lo:=20,az:=2,iv:=yr 29 9 4<|yr 24 4 4<|[(20,.lit 0),(50,.lit 0),(49,.lit 0),(48,.lit 0),(47,.lit 0),(45,.lit 0),(44,.lit 0),(43,.lit 0),(42,.lit 0),(40,.lit 0),(39,.lit 0),(38,.lit 0),(37,.lit 0),(36,.lit 0),(35,.lit 0),(34,.lit 0),(33,.lit 2)],bv:=[(32,yw 12),(31,yw 11),(30,yw 10),(25,yw 5),(46,.lit false),(41,.lit false)]})
      (.ob (.inr .i64 (.mul (.lit 2000) (.var 14))) <|
       .ob (.inr .i64 (.add (.var 13) (.mul (.lit 2000) (.var 14)))) <|
       .fin {lo:=20,az:=2,iv:=yr 29 16 4<|yr 24 4 4<|[(20,.add (.var 0) (.lit 1)),(50,.lit 0),(49,.lit 0),(48,.lit 0),(47,.lit 0),(45,.add (.var 13) (.mul (.lit 2000) (.var 14))),(44,.lit 0),(43,.lit 0),(42,.lit 0),(40,.lit 0),(39,.lit 0),(38,.lit 0),(37,.lit 0),(36,.lit 1),(35,yv 14),(34,yv 13),(33,.lit 4)],bv:=[(32,yw 12),(31,yw 11),(30,yw 17),(25,yw 5),(46,.lit false),(41,.lit false)]}))
     (.br (.aC (.add (.var 0) (.lit 1)) (.lit 6))
      (.ob (.inr .i64 (.add (.var 3) (.lit 1))) <|
       .fin {lo:=20,az:=2,iv:=yr 29 9 4<|yr 24 4 4<|yo [(20,.add (.var 0) (.lit 1)),(50,.lit 0),(49,.lit 0),(48,.lit 0),(47,.lit 0),(45,.lit 0),(44,.add (.var 3) (.lit 1)),(43,yv 7),(42,yv 6)]<|yr 40 4 4<|[(36,.lit 0),(35,.lit 0),(34,.lit 0),(33,.lit 5)],bv:=[(32,yw 12),(31,yw 11),(30,yw 10),(25,yw 5),(46,.lit false),(41,yw 5)]})
      (.br (.aC (.add (.var 0) (.lit 1)) (.lit 7))
       (.br (.not (.var 18))
        (.fin {lo:=20,az:=2,iv:=yr 29 9 4<|yr 24 4 4<|yo [(20,.add (.var 0) (.lit 1)),(50,.lit 0),(49,.lit 0),(48,.lit 0),(47,.lit 0),(45,.lit 0),(44,.lit 0),(43,.lit 0),(42,.lit 0)]<|yr 40 9 4<|[(36,.lit 0),(35,.lit 0),(34,.lit 0),(33,.lit 9)],bv:=[(32,yw 12),(31,yw 11),(30,yw 10),(25,yw 5),(46,.lit false),(41,yw 10)]})
        (.br (.aC (.var 1) (.lit 0))
         (.fin {lo:=20,az:=2,iv:=yr 29 9 4<|yr 24 4 4<|[(20,.add (.var 0) (.lit 1)),(50,.lit 0),(49,.lit 0),(48,.lit 0),(47,.lit 0),(45,.lit 0),(44,.lit 0),(43,.lit 0),(42,.lit 0),(40,.lit 0),(39,.lit 0),(38,.lit 0),(37,.lit 0),(36,.lit 0),(35,.lit 0),(34,.lit 0),(33,.lit 3)],bv:=[(32,yw 12),(31,yw 11),(30,yw 10),(25,yw 5),(46,.lit false),(41,.lit false)]})
         (.fin {lo:=20,az:=2,iv:=yr 29 9 4<|yr 24 4 4<|yo [(20,.add (.var 0) (.lit 1)),(50,.lit 0),(49,.lit 0),(48,.lit 0),(47,.lit 0),(45,.lit 0),(44,.lit 0),(43,.lit 0),(42,.lit 0)]<|yr 40 4 4<|[(36,.lit 0),(35,.lit 0),(34,.lit 0),(33,.lit 10)],bv:=[(32,yw 12),(31,yw 11),(30,yw 10),(25,yw 5),(46,.lit false),(41,yw 5)]})))
       (.fin {lo:=20,az:=2,iv:=yr 29 9 4<|yr 24 4 4<|[(20,.lit 0),(50,.lit 0),(49,.lit 0),(48,.lit 0),(47,.lit 0),(45,.lit 0),(44,.lit 0),(43,.lit 0),(42,.lit 0),(40,.lit 0),(39,.lit 0),(38,.lit 0),(37,.lit 0),(36,.lit 0),(35,.lit 0),(34,.lit 0),(33,.lit 2)],bv:=[(32,yw 12),(31,yw 11),(30,yw 10),(25,yw 5),(46,.lit false),(41,.lit false)]})))))))
theorem Qj:exec tab Qi 8000 [] (fT jR.f jR.nv [] jR.gl jR.hp jR.args)=CE:=by kernel_rfl
def kQ (x:Rp):RS:={RS.new 0 0 0 0 with gW:=x}
def eU (ρ:Env) (r:RS) (v:Nat):Mn:=⟨r,ρ.iv v,av ρ (v+1),av ρ (v+6),ρ.bv (v+11),ρ.bv (v+12)⟩
def GN (n:Int):Prop:=-1000000000000≤n∧n≤1000000000000
structure Mn.GN (m:Mn):Prop where
 pc:0≤m.pc∧m.pc≤7
 old:YthomdlajobnmnaaDoor.GN m.old.slot∧YthomdlajobnmnaaDoor.GN m.old.gen∧YthomdlajobnmnaaDoor.GN m.old.tag
 rp:YthomdlajobnmnaaDoor.GN m.r.gW.word.slot∧YthomdlajobnmnaaDoor.GN m.r.gW.word.gen
def uu (ρ:Env):Prop:=(eU ρ (kQ (aL ρ 13)) 0).GN
def mP (ρ:Env):Prop:=eU ρ (kQ (aL ρ 13)) 20=(eU ρ (kQ (aL ρ 13)) 0).next.1∧iK ρ 33=(eU ρ (kQ (aL ρ 13)) 0).next.2
theorem Qk (ρ:Env) (hpre:uu ρ.num):Sat mP [] [] ρ CE:=by
 replace hpre:uu ρ:=hpre
 obtain ⟨h1,⟨h2,h3,h4⟩,h5,h6⟩:=hpre
 replace h1:0≤ρ.iv 0∧ρ.iv 0≤7:=h1
 replace h2:-1000000000000≤ρ.iv 1∧ρ.iv 1≤1000000000000:=h2
 replace h3:-1000000000000≤ρ.iv 2∧ρ.iv 2≤1000000000000:=h3
 replace h4:-1000000000000≤ρ.iv 3∧ρ.iv 3≤1000000000000:=h4
 replace h5:-1000000000000≤ρ.iv 13∧ρ.iv 13≤1000000000000:=h5
 replace h6:-1000000000000≤ρ.iv 14∧ρ.iv 14≤1000000000000:=h6
 unfold CE
 have fin:∀{σ:Sub} (q:Mn × Ca),(eU ρ (kQ (aL ρ 13)) 0).next=q→aL (σ.af ρ) 13=aL ρ 13→eU (σ.af ρ) (kQ (aL ρ 13)) 0=eU ρ (kQ (aL ρ 13)) 0→q.1.r=kQ (aL ρ 13)→(σ.af ρ).iv 20=q.1.pc→av (σ.af ρ) 21=q.1.old→av (σ.af ρ) 26=q.1.node→(σ.af ρ).bv 31=q.1.bad→(σ.af ρ).bv 32=q.1.stop→iK (σ.af ρ) 33=q.2→mP (σ.af ρ):=by
  intro σ q hq e1 e2 r0 r1 r2 r3 r4 r5 e4
  unfold mP
  rw [e1,e2,e4,hq]
  refine ⟨?_,rfl⟩
  unfold eU
  rw [r1,r2,r3,r4,r5,←r0]
 refine Sat.ob (by simp only [Da];omega) (Sat.br (fun c=>?_) (fun c=>?_))
 all_goals simp only [Da] at c
 ·exact Sat.fin (fin _ (if_pos (show ρ.iv 0=0 by omega)) rfl rfl rfl (show ρ.iv 0+1=1 by omega) rfl rfl rfl rfl rfl)
 have n0:¬ρ.iv 0=0:=by omega
 refine Sat.br (fun c=>?_) (fun c=>?_)
 all_goals simp only [Da] at c
 ·exact Sat.fin (fin _ ((if_neg n0).trans (if_pos (show ρ.iv 0=1 by omega))) rfl rfl rfl (show ρ.iv 0+1=2 by omega) rfl rfl rfl rfl rfl)
 have n1:¬ρ.iv 0=1:=by omega
 refine Sat.br (fun c=>?_) (fun c=>?_)
 all_goals simp only [Da] at c
 ·have q:(eU ρ (kQ (aL ρ 13)) 0).next=_:=(if_neg n0).trans ((if_neg n1).trans (if_pos (show ρ.iv 0=2 by omega)))
  refine Sat.br (fun c2=>?_) (fun c2=>?_)
  all_goals simp only [Da] at c2
  ·exact Sat.fin (fin _ q rfl rfl rfl (show ρ.iv 0+1=3 by omega) rfl rfl rfl rfl (if_pos c2).symm)
  ·exact Sat.fin (fin _ q rfl rfl rfl (show ρ.iv 0+1=3 by omega) rfl rfl rfl rfl (if_neg c2).symm)
 have n2:¬ρ.iv 0=2:=by omega
 refine Sat.br (fun c=>?_) (fun c=>?_)
 all_goals simp only [Da] at c
 ·have q:(eU ρ (kQ (aL ρ 13)) 0).next=_:=(if_neg n0).trans ((if_neg n1).trans ((if_neg n2).trans (if_pos (show ρ.iv 0=3 by omega))))
  refine Sat.br (fun c2=>?_) (fun c2=>?_)
  all_goals simp only [Da] at c2
  ·refine Sat.br (fun c3=>?_) (fun c3=>?_)
   all_goals simp only [Da] at c3
   ·refine Sat.ob (by simp only [Da];omega) (Sat.ob (by simp only [Da];omega) ?_)
    refine Sat.fin (fin _ q rfl rfl rfl (show ρ.iv 0+1=4 by omega) rfl rfl ?_ rfl rfl)
    show (!(ρ.iv 16 == ρ.iv 1+2000 * ρ.iv 2))=(ρ.bv 11 || (ρ.iv 1 != 0 && ρ.iv 16 != ρ.iv 1+2000 * ρ.iv 2))
    rw [c2]
    simp [c3,bne]
   ·refine Sat.fin (fin _ q rfl rfl rfl (show ρ.iv 0+1=4 by omega) rfl rfl ?_ rfl rfl)
    show false=(ρ.bv 11 || (ρ.iv 1 != 0 && ρ.iv 16 != ρ.iv 1+2000 * ρ.iv 2))
    rw [c2]
    simp [c3]
  ·refine Sat.fin (fin _ q rfl rfl rfl (show ρ.iv 0+1=4 by omega) rfl rfl ?_ rfl rfl)
   show true=(ρ.bv 11 || (ρ.iv 1 != 0 && ρ.iv 16 != ρ.iv 1+2000 * ρ.iv 2))
   simp [c2]
 have n3:¬ρ.iv 0=3:=by omega
 refine Sat.br (fun c=>?_) (fun c=>?_)
 all_goals simp only [Da] at c
 ·have q:(eU ρ (kQ (aL ρ 13)) 0).next=_:=(if_neg n0).trans ((if_neg n1).trans ((if_neg n2).trans ((if_neg n3).trans (if_pos (show ρ.iv 0=4 by omega)))))
  refine Sat.br (fun c2=>?_) (fun c2=>?_)
  all_goals simp only [Da] at c2
  ·exact Sat.fin (fin _ (q.trans (if_pos (show ρ.bv 18=false from c2))) rfl rfl rfl rfl rfl rfl rfl rfl rfl)
  ·refine Sat.ob (by simp only [Da];omega) (Sat.ob (by simp only [Da];omega) ?_)
   exact Sat.fin (fin _ (q.trans (if_neg (show ¬ρ.bv 18=false by rw [c2];decide))) rfl rfl rfl (show ρ.iv 0+1=5 by omega) rfl rfl rfl rfl rfl)
 have n4:¬ρ.iv 0=4:=by omega
 refine Sat.br (fun c=>?_) (fun c=>?_)
 all_goals simp only [Da] at c
 ·have q:(eU ρ (kQ (aL ρ 13)) 0).next=_:=(if_neg n0).trans ((if_neg n1).trans ((if_neg n2).trans ((if_neg n3).trans ((if_neg n4).trans (if_pos (show ρ.iv 0=5 by omega))))))
  refine Sat.ob (by simp only [Da];omega) ?_
  exact Sat.fin (fin _ q rfl rfl rfl (show ρ.iv 0+1=6 by omega) rfl rfl rfl rfl rfl)
 have n5:¬ρ.iv 0=5:=by omega
 refine Sat.br (fun c=>?_) (fun c=>?_)
 all_goals simp only [Da] at c
 ·have q:(eU ρ (kQ (aL ρ 13)) 0).next=_:=(if_neg n0).trans ((if_neg n1).trans ((if_neg n2).trans ((if_neg n3).trans ((if_neg n4).trans ((if_neg n5).trans (if_pos (show ρ.iv 0=6 by omega)))))))
  refine Sat.br (fun c2=>?_) (fun c2=>?_)
  all_goals simp only [Da] at c2
  ·exact Sat.fin (fin _ q rfl rfl rfl (show ρ.iv 0+1=7 by omega) rfl rfl rfl rfl (if_pos (show ρ.bv 18=false from c2)).symm)
  ·refine Sat.br (fun c3=>?_) (fun c3=>?_)
   all_goals simp only [Da] at c3
   ·exact Sat.fin (fin _ q rfl rfl rfl (show ρ.iv 0+1=7 by omega) rfl rfl rfl rfl ((if_neg (show ¬ρ.bv 18=false by rw [c2];decide)).trans (if_pos c3)).symm)
   ·exact Sat.fin (fin _ q rfl rfl rfl (show ρ.iv 0+1=7 by omega) rfl rfl rfl rfl ((if_neg (show ¬ρ.bv 18=false by rw [c2];decide)).trans (if_neg c3)).symm)
 have n6:¬ρ.iv 0=6:=by omega
 exact Sat.fin (fin _ ((if_neg n0).trans ((if_neg n1).trans ((if_neg n2).trans ((if_neg n3).trans ((if_neg n4).trans ((if_neg n5).trans (if_neg n6))))))) rfl rfl rfl rfl rfl rfl rfl rfl rfl)
theorem Ql:bF Tryd.prog jR uu mP :=
 dH eQ (E:=Qi) (cs:=[]) rfl (fun k pre post h=>by cases h) cK rfl Qj (by kernel_rfl) (fun ρ _ p hp=>by cases hp) Qk
structure Th where
 l:Lo
 t:RT
 pc:Int
 old:Wd
 node:Wd
 bad:Bool
 stop:Bool
def Th.call (h:Th) (x:Rp):Th × Ca :=
 if h.pc=0 then ({h with pc:=1},Ca.of 1)
 else if h.pc=1 then ({h with pc:=2},Ca.of 6)
 else if h.pc=2 then ({h with pc:=3,old:=x.word},if x.word.slot=0 then Ca.of 3 else {Ca.of 3 with slot:=x.word.slot,gen:=x.word.gen,field:=1})
 else if h.pc=3 then ({h with pc:=4,bad:=h.bad || (h.old.slot != 0 && x.word.num != dV h.old)},Ca.of 8)
 else if h.pc=4 then
  if x.ok=false then ({h with pc:=0},Ca.of 2)
  else ({h with pc:=5,node:=x.word},{Ca.of 4 with slot:=x.word.slot,gen:=x.word.gen,field:=1,new:=Wd.dG (dV x.word)})
 else if h.pc=5 then ({h with pc:=6},{Ca.of 5 with old:=h.old,new:=⟨h.node.slot,h.node.gen,h.old.tag+1,0,false⟩})
 else if h.pc=6 then ({h with pc:=7},if x.ok=false then {Ca.of 9 with old:=h.node} else if h.old.slot=0 then Ca.of 3 else {Ca.of 10 with old:=h.old})
 else ({h with pc:=0},Ca.of 2)
def Th.with (h:Th) (q:LR):Th:={h with l:=q.1,t:=q.2}
def Th.dP (h:Th) (x:Rp):Th:=(h.call x).1.with (RT.begin (h.call x).1.l (h.call x).2)
def Th.go:Nat→Th→Th × Option Bool
 | 0,h=>(h,none)
 | k+1,h =>
  match h.t with
  | .idle x=>if h.stop=true∧h.pc=0 then (h,some true) else Th.go k (h.dP x)
  | _=>(h,none)
def Th.aK (h:Th) (x:Rp):Th:=h.with (RT.aK h.l h.t x)
def Th.step (h:Th) (p:PS):Th × PS × Bool :=
 match h.go 12 with
 | (h,some b)=>(h,p,b)
 | (h,none) =>
  if h.t.aW=0 then (h,p,false) else
  match p.act (h.t.acc h.l) with
  | (p,none)=>(h,p,false)
  | (p,some x)=>(h.aK x,p,true)
theorem Th.wh (h:Th) (x:Rp):(h.call x).2.OK:=by
 unfold Th.call Ca.OK
 repeat' first
  | (split)
  | (simp [Ca.of,Ca.zero];done)
theorem Th.pQ (h:Th) (x:Rp):(h.call x).1.l=h.l∧(h.call x).1.t=h.t∧(h.call x).1.stop=h.stop:=by
 unfold Th.call
 repeat' first
  | (split)
  | (exact ⟨rfl,rfl,rfl⟩)
structure MT (m:Mn) (h:Th):Prop where
 rep:iL h.l h.t m.r
 pc:m.pc=h.pc
 old:m.old=h.old
 node:m.node=h.node
 bad:m.bad=h.bad
 stop:m.stop=h.stop
theorem MT.next {m:Mn} {h:Th} (H:MT m h) {x:Rp} (hx:m.r.gW=x):m.next.2=(h.call x).2∧m.next.1.r=m.r∧m.next.1.pc=(h.call x).1.pc∧m.next.1.old=(h.call x).1.old∧m.next.1.node=(h.call x).1.node∧m.next.1.bad=(h.call x).1.bad∧m.next.1.stop=(h.call x).1.stop:=by
 obtain ⟨H1,h2,h3,h4,h5,h6⟩:=H
 obtain ⟨r,pc,old,node,bad,stop⟩:=m
 obtain ⟨l,t,pc',old',aaL,bad',aaM⟩:=h
 simp only at h2 h3 h4 h5 h6 hx
 subst h2 h3 h4 h5 h6 hx
 unfold Mn.next Th.call
 simp only
 repeat' first
  | (exact ⟨rfl,rfl,rfl,rfl,rfl,rfl,rfl⟩)
  | (split)
  | (rename_i h;exact absurd h (by assumption))
structure Sm (a b:Lo):Prop where
 aj:b.aj=a.aj
 me:b.me=a.me
 threads:b.threads=a.threads
 most:b.most=a.most
theorem Sm.refl (a:Lo):Sm a a:=⟨rfl,rfl,rfl,rfl⟩
theorem jh {c:Prop} [Decidable c] {l:Lo} {a b:LR} (h1:Sm l a.1) (h2:Sm l b.1):Sm l (if c then a else b).1:=by
 by_cases h:c
 ·rw [if_pos h];exact h1
 ·rw [if_neg h];exact h2
theorem RT.SQ (l:Lo) (k:Int):Sm l (RT.leave l k).1:=by
 refine jh ⟨rfl,rfl,rfl,rfl⟩ (jh ?_ (Sm.refl l))
 cases RS.first l.h k.toNat (9-k.toNat) <;> exact ⟨rfl,rfl,rfl,rfl⟩
theorem RT.LK (l:Lo):Sm l (RT.scan l).1:=jh (Sm.refl l) (jh (Sm.refl l) (Sm.refl l))
theorem RT.SS (l:Lo):Sm l (RT.dn l).1:=jh (RT.LK l) (Sm.refl l)
theorem RT.Vy (l:Lo) (w:Wd) (b d:Int):Sm l (RT.dn (RT.note l w b d)).1:=by
 obtain ⟨a1,a2,a3,a4⟩:=RT.SS (RT.note l w b d)
 exact ⟨a1,a2,a3,a4⟩
theorem RT.J6 (l:Lo) (c:Ca):Sm l (RT.begin l c).1 :=
 jh (jh (Sm.refl l) (Sm.refl l))<|jh (RT.SQ l 0)<|jh (Sm.refl l)<|jh (Sm.refl l)<|jh (Sm.refl l)<|jh (Sm.refl l)<|jh (jh ⟨rfl,rfl,rfl,rfl⟩ (Sm.refl l))<|jh (jh (Sm.refl l) (Sm.refl l))<|jh (Sm.refl l) <|
  jh (jh (RT.Vy ..)<|jh (Sm.refl l)<|jh (Sm.refl l) (Sm.refl l)) (RT.LK l)
theorem Sm.ok {a b:Lo} (h:Sm a b) (ho:a.OK):b.OK:=⟨by rw [h.aj];exact ho.aj,by rw [h.me,h.threads];exact ho.me,by rw [h.threads];exact ho.threads,by rw [h.most];exact ho.most⟩
theorem RT.SX {l:Lo} {c:Ca} (h:l.OK):(RT.begin l c).1.OK:=(RT.J6 l c).ok h
theorem RT.iP {t:RT} (h:t.aW=0):∃x,t=.idle x:=by
 cases t with
 | idle x=>exact ⟨x,rfl⟩
 | _=>cases h
theorem Th.nA {h:Th} (hb:h.t.aW≠0):∀k,h.go k=(h,none)
 | 0=>rfl
 | k+1=>by
  unfold Th.go
  cases ht:h.t with
  | idle x=>rw [ht] at hb;exact absurd rfl hb
  | _=>rfl
theorem Th.sU {h:Th} {x:Rp} (hx:h.t=.idle x) (k:Nat):h.go (k+1)=if h.stop=true∧h.pc=0 then (h,some true) else Th.go k (h.dP x):=by
 rw [Th.go,hx]
theorem MT.go {k:Nat}:∀{m:Mn} {h:Th},MT m h→h.l.OK→MT (m.go k).1 (h.go k).1∧(m.go k).2=(h.go k).2∧(h.go k).1.l.OK:=by
 induction k with
 | zero=>intro m h H ho;exact ⟨H,rfl,ho⟩
 | succ k ih =>
  intro m h H ho
  have hs:=H.rep.step
  by_cases h0:h.t.aW=0
  ·obtain ⟨x,hx⟩:=RT.iP h0
   rw [Th.sU hx]
   unfold Mn.go
   rw [if_neg (by rw [hs];exact fun c=>c h0),H.stop,H.pc]
   have hrep:iL h.l (.idle x) m.r:=by
    have:=H.rep
    rw [hx] at this
    exact this
   have hr:m.r.gW=x:=hrep.more
   by_cases hst:h.stop=true∧h.pc=0
   ·rw [if_pos hst,if_pos hst]
    exact ⟨H,rfl,ho⟩
   ·rw [if_neg hst,if_neg hst]
    obtain ⟨n1,n2,n3,n4,n5,n6,n7⟩:=H.next hr
    have hb:=hrep.begin ho (c:=(h.call x).2) (h.wh x)
    simp only
    rw [n1,n2,if_neg (by rw [hb.2];decide)]
    have hl:=h.pQ x
    refine ih ⟨?_,n3,n4,n5,n6,n7⟩ ?_
    ·show iL (RT.begin (h.call x).1.l (h.call x).2).1 (RT.begin (h.call x).1.l (h.call x).2).2 _
     rw [hl.1]
     exact hb.1
    ·show (RT.begin (h.call x).1.l (h.call x).2).1.OK
     rw [hl.1]
     exact RT.SX ho
  ·rw [Th.nA h0]
   unfold Mn.go
   rw [if_pos (by rw [hs];exact h0)]
   exact ⟨H,rfl,ho⟩
theorem MT.step {m:Mn} {h:Th} {p:PS} (H:MT m h) (ho:h.l.OK) (hf:(h.go 12).1.t.fits (h.go 12).1.l) :
  MT (m.step p).1 (h.step p).1∧(m.step p).2.1=(h.step p).2.1∧(m.step p).2.2=(h.step p).2.2:=by
 obtain ⟨g1,g2,g3⟩:=H.go (k:=12) ho
 unfold Mn.step Th.step
 generalize hm:m.go 12=mg at g1 g2
 generalize hh:h.go 12=hg at g1 g2 g3 hf
 obtain ⟨m1,mo⟩:=mg
 obtain ⟨h1,IA⟩:=hg
 simp only at g1 g2 g3 hf
 subst g2
 cases mo with
 | some b=>exact ⟨g1,rfl,rfl⟩
 | none =>
  simp only
  have hs:=g1.rep.step
  by_cases h0:h1.t.aW=0
  ·rw [if_pos h0,if_pos (hs.trans h0)]
   exact ⟨g1,rfl,rfl⟩
  ·rw [if_neg h0,if_neg (by rw [hs];exact h0),g1.rep.acc h0]
   cases ha:p.act (h1.t.acc h1.l) with
   | mk p' xo =>
    cases xo with
    | none=>exact ⟨g1,rfl,rfl⟩
    | some x =>
     have ht:=g1.rep.aK g3 hf h0 x
     exact ⟨⟨ht.1,g1.pc,g1.old,g1.node,g1.bad,g1.stop⟩,rfl,ht.2⟩
def bA {α:Type} (f:Nat→α) (i:Nat) (x:α):Nat→α:=fun k=>if k=i then x else f k
theorem aF {α:Type} (f:Nat→α) (i:Nat) (x:α):bA f i x i=x:=if_pos rfl
theorem aY {α:Type} (f:Nat→α) {i k:Nat} (x:α) (h:k≠i):bA f i x k=f k:=if_neg h
inductive iy where
 | free | root | hand (i:Nat) | cut (i:Nat) | note (i:Nat) | lost
 deriving DecidableEq
def Cl (rt:Option Wd) (hd ct:Nat→Option Wd) (nt:Nat→List Nt):iy→Wd→Prop
 | .root,w=>rt=some w
 | .hand i,w=>hd i=some w
 | .cut i,w=>ct i=some w
 | .note i,w=>∃n∈nt i,n.ref=w
 | _,_=>False
structure OI (e ns:Int) (used:Nat→Bool) (gen:Nat→Int) (rt:Option Wd) (hd ct:Nat→Option Wd) (nt:Nat→List Nt) (own:Int→iy):Prop where
 used:∀s,1≤s→s≤ns→(used (s-1).toNat=true↔own s≠.free)
 out:∀s,own s≠.free→1≤s∧s≤ns
 c1:∀o w,Cl rt hd ct nt o w→own w.slot=o∧gen (w.slot-1).toNat=w.gen
 c2:∀s,own s≠.free→own s≠.lost→∃w,Cl rt hd ct nt (own s) w∧w.slot=s
 lost:∀s,own s=.lost→e=1
 pU:∀i,((nt i).map (·.ref.slot)).Nodup
section
variable {e ns:Int} {used used':Nat→Bool} {gen SY:Nat→Int} {rt LM:Option Wd} {hd ct hd' J7:Nat→Option Wd} {nt GQ:Nat→List Nt} {own:Int→iy}
theorem OI.same (h:OI e ns used gen rt hd ct nt own) (h1:LM=rt) (h2:∀k,hd' k=hd k) (h3:∀k,J7 k=ct k) (h4:∀k,GQ k=nt k):OI e ns used gen LM hd' J7 GQ own:=by
 rw [h1,show hd'=hd from funext h2,show J7=ct from funext h3,show GQ=nt from funext h4]
 exact h
theorem OI.move (h:OI e ns used gen rt hd ct nt own) (w0:Wd) (b:iy) (hs:1≤w0.slot∧w0.slot≤ns)
  (hu:∀s,1≤s→s≤ns→s≠w0.slot→used' (s-1).toNat=used (s-1).toNat) (hu0:used' (w0.slot-1).toNat=true↔b≠.free)
  (hg:∀s,1≤s→s≤ns→s≠w0.slot→SY (s-1).toNat=gen (s-1).toNat) (hg0:b≠.free→SY (w0.slot-1).toNat=w0.gen)
  (hl:b=.lost→e=1) (hn:∀i,((GQ i).map (·.ref.slot)).Nodup)
  (hc:∀o w,Cl LM hd' J7 GQ o w→(Cl rt hd ct nt o w∧w.slot≠w0.slot)∨(o=b∧w.slot=w0.slot∧w.gen=w0.gen∧b≠.free))
  (hc':∀o w,Cl rt hd ct nt o w→w.slot≠w0.slot→Cl LM hd' J7 GQ o w) (hb:b≠.free→b≠.lost→∃w,Cl LM hd' J7 GQ b w∧w.slot=w0.slot) :
  OI e ns used' SY LM hd' J7 GQ (fun s=>if s=w0.slot then b else own s):=by
 refine ⟨fun s h1 h2=>?_,fun s hne=>?_,fun o w hcl=>?_,fun s h1 h2=>?_,fun s h1=>?_,hn⟩
 ·by_cases hx:s=w0.slot
  ·rw [if_pos hx,hx];exact hu0
  ·rw [if_neg hx,hu s h1 h2 hx];exact h.used s h1 h2
 ·by_cases hx:s=w0.slot
  ·rw [hx];exact hs
  ·rw [if_neg hx] at hne;exact h.out s hne
 ·rcases hc o w hcl with ⟨h1,h2⟩ | ⟨h1,h2,h3,h4⟩
  ·obtain ⟨a,b'⟩:=h.c1 o w h1
   rw [if_neg h2]
   refine ⟨a,?_⟩
   have hf:own w.slot≠.free:=by
    rw [a]
    intro ho
    rw [ho] at h1
    exact h1
   obtain ⟨r1,r2⟩:=h.out _ hf
   rw [hg _ r1 r2 h2]
   exact b'
  ·rw [if_pos h2,h2,h3]
   exact ⟨h1.symm,hg0 h4⟩
 ·by_cases hx:s=w0.slot
  ·rw [if_pos hx] at h1 h2 ⊢
   rw [hx]
   exact hb h1 h2
  ·rw [if_neg hx] at h1 h2 ⊢
   obtain ⟨w,q1,q2⟩:=h.c2 s h1 h2
   exact ⟨w,hc' _ w q1 (by rw [q2];exact hx),q2⟩
 ·by_cases hx:s=w0.slot
  ·rw [if_pos hx] at h1;exact hl h1
  ·rw [if_neg hx] at h1;exact h.lost s h1
theorem OI.jS (h:OI e ns used gen rt hd ct nt own) {o:iy} {w:Wd} (hc:Cl rt hd ct nt o w):1≤w.slot∧w.slot≤ns∧used (w.slot-1).toNat=true∧gen (w.slot-1).toNat=w.gen∧own w.slot=o:=by
 obtain ⟨a,b⟩:=h.c1 o w hc
 have hf:own w.slot≠.free:=by
  rw [a]
  intro ho
  rw [ho] at hc
  exact hc
 obtain ⟨r1,r2⟩:=h.out _ hf
 exact ⟨r1,r2,(h.used _ r1 r2).2 hf,b,a⟩
theorem OI.one (h:OI e ns used gen rt hd ct nt own) {o o':iy} {w w':Wd} (hc:Cl rt hd ct nt o w) (hc':Cl rt hd ct nt o' w') (he:w.slot=w'.slot):o=o':=by
 rw [←(h.c1 o w hc).1,←(h.c1 o' w' hc').1,he]
variable {i:Nat}
theorem OI.alloc (h:OI e ns used gen rt hd ct nt own) (w0:Wd) (hs:1≤w0.slot∧w0.slot≤ns) (hu:used (w0.slot-1).toNat=false) (h0:hd i=none) :
  OI e ns (fun k=>if k=(w0.slot-1).toNat then true else used k) (fun k=>if k=(w0.slot-1).toNat then w0.gen else gen k) rt (bA hd i (some w0)) ct nt (fun s=>if s=w0.slot then .hand i else own s):=by
 have hno:∀o w,Cl rt hd ct nt o w→w.slot≠w0.slot:=fun o w hc he=>by
  have:=(h.jS hc).2.2.1
  rw [he,hu] at this
  cases this
 refine h.move w0 (.hand i) hs (fun s h1 h2 h3=>if_neg (by omega)) ⟨fun _=>by simp,fun _=>if_pos rfl⟩ (fun s h1 h2 h3=>if_neg (by omega)) (fun _=>if_pos rfl) (fun h=>by cases h) h.pU (fun o w hc=>?_) (fun o w hc hne=>?_) (fun _ _=>⟨w0,aF _ _ _,rfl⟩)
 ·cases o with
  | hand k =>
   by_cases hk:k=i
   ·subst hk
    have:bA hd k (some w0) k=some w:=hc
    rw [aF] at this
    cases this
    exact .inr ⟨rfl,rfl,rfl,by simp⟩
   ·have:bA hd i (some w0) k=some w:=hc
    rw [aY _ _ hk] at this
    exact .inl ⟨this,hno (.hand k) w this⟩
  | root=>exact .inl ⟨hc,hno .root w hc⟩
  | cut k=>exact .inl ⟨hc,hno (.cut k) w hc⟩
  | note k=>exact .inl ⟨hc,hno (.note k) w hc⟩
  | _=>exact hc.elim
 ·cases o with
  | hand k =>
   by_cases hk:k=i
   ·subst hk
    rw [show Cl rt hd ct nt (.hand k) w=(hd k=some w) from rfl,h0] at hc
    cases hc
   ·exact (aY hd (some w0) hk).trans hc
  | _=>exact hc
theorem OI.drop (h:OI e ns used gen rt hd ct nt own) {w0:Wd} (h0:hd i=some w0) :
  OI e ns (fun k=>if k=(w0.slot-1).toNat then false else used k) gen rt (bA hd i none) ct nt (fun s=>if s=w0.slot then .free else own s):=by
 obtain ⟨r1,r2,r3,r4,r5⟩:=h.jS (o:=.hand i) (w:=w0) h0
 have hno:∀o w,Cl rt hd ct nt o w→o≠.hand i→w.slot≠w0.slot:=fun o w hc hne he=>hne (h.one hc (o':=.hand i) h0 he)
 refine h.move w0 .free ⟨r1,r2⟩ (fun s h1 h2 h3=>if_neg (by omega)) ⟨fun h=>by simp at h,fun h=>absurd rfl h⟩ (fun s h1 h2 h3=>rfl) (fun h=>absurd rfl h) (fun h=>by cases h) h.pU (fun o w hc=>?_) (fun o w hc hne=>?_) (fun h=>absurd rfl h)
 ·cases o with
  | hand k =>
   by_cases hk:k=i
   ·subst hk
    have:bA hd k none k=some w:=hc
    rw [aF] at this
    cases this
   ·have:bA hd i none k=some w:=hc
    rw [aY _ _ hk] at this
    exact .inl ⟨this,hno (.hand k) w this (fun h=>hk (by cases h;rfl))⟩
  | root=>exact .inl ⟨hc,hno .root w hc (by simp)⟩
  | cut k=>exact .inl ⟨hc,hno (.cut k) w hc (by simp)⟩
  | note k=>exact .inl ⟨hc,hno (.note k) w hc (by simp)⟩
  | _=>exact hc.elim
 ·cases o with
  | hand k =>
   by_cases hk:k=i
   ·subst hk
    rw [show Cl rt hd ct nt (.hand k) w=(hd k=some w) from rfl,h0] at hc
    cases hc
    exact absurd rfl hne
   ·exact (aY hd none hk).trans hc
  | _=>exact hc
theorem OI.take {w0:Wd} (h:OI e ns used gen (some w0) hd ct nt own) (h0:ct i=none) {w1:Wd} (hw:w1.slot=w0.slot∧w1.gen=w0.gen):OI e ns used gen none hd (bA ct i (some w1)) nt (fun s=>if s=w0.slot then .cut i else own s):=by
 obtain ⟨r1,r2,r3,r4,r5⟩:=h.jS (o:=.root) (w:=w0) rfl
 have hno:∀o w,Cl (some w0) hd ct nt o w→o≠.root→w.slot≠w0.slot:=fun o w hc hne he=>hne (h.one hc (o':=.root) rfl he)
 refine h.move w0 (.cut i) ⟨r1,r2⟩ (fun s h1 h2 h3=>rfl) ⟨fun _=>by simp,fun _=>r3⟩ (fun s h1 h2 h3=>rfl) (fun _=>r4) (fun h=>by cases h) h.pU (fun o w hc=>?_) (fun o w hc hne=>?_) (fun _ _=>⟨w1,aF _ _ _,hw.1⟩)
 ·cases o with
  | cut k =>
   by_cases hk:k=i
   ·subst hk
    have:bA ct k (some w1) k=some w:=hc
    rw [aF] at this
    cases this
    exact .inr ⟨rfl,hw.1,hw.2,by simp⟩
   ·have:bA ct i (some w1) k=some w:=hc
    rw [aY _ _ hk] at this
    exact .inl ⟨this,hno (.cut k) w this (by simp)⟩
  | root=>cases hc
  | hand k=>exact .inl ⟨hc,hno (.hand k) w hc (by simp)⟩
  | note k=>exact .inl ⟨hc,hno (.note k) w hc (by simp)⟩
  | _=>exact hc.elim
 ·cases o with
  | cut k =>
   by_cases hk:k=i
   ·subst hk
    rw [show Cl (some w0) hd ct nt (.cut k) w=(ct k=some w) from rfl,h0] at hc
    cases hc
   ·exact (aY ct (some w1) hk).trans hc
  | root =>
   cases hc
   exact absurd rfl hne
  | _=>exact hc
theorem OI.put (h:OI e ns used gen none hd ct nt own) {w0 w1:Wd} (h0:hd i=some w0) (hw:w1.slot=w0.slot∧w1.gen=w0.gen):OI e ns used gen (some w1) (bA hd i none) ct nt (fun s=>if s=w0.slot then .root else own s):=by
 obtain ⟨r1,r2,r3,r4,r5⟩:=h.jS (o:=.hand i) (w:=w0) h0
 have hno:∀o w,Cl none hd ct nt o w→o≠.hand i→w.slot≠w0.slot:=fun o w hc hne he=>hne (h.one hc (o':=.hand i) h0 he)
 refine h.move w0 .root ⟨r1,r2⟩ (fun s h1 h2 h3=>rfl) ⟨fun _=>by simp,fun _=>r3⟩ (fun s h1 h2 h3=>rfl) (fun _=>r4) (fun h=>by cases h) h.pU (fun o w hc=>?_) (fun o w hc hne=>?_) (fun _ _=>⟨w1,rfl,hw.1⟩)
 ·cases o with
  | hand k =>
   by_cases hk:k=i
   ·subst hk
    have:bA hd k none k=some w:=hc
    rw [aF] at this
    cases this
   ·have:bA hd i none k=some w:=hc
    rw [aY _ _ hk] at this
    exact .inl ⟨this,hno (.hand k) w this (fun h=>hk (by cases h;rfl))⟩
  | root =>
   have:some w1=some w:=hc
   cases this
   exact .inr ⟨rfl,hw.1,hw.2,by simp⟩
  | cut k=>exact .inl ⟨hc,hno (.cut k) w hc (by simp)⟩
  | note k=>exact .inl ⟨hc,hno (.note k) w hc (by simp)⟩
  | _=>exact hc.elim
 ·cases o with
  | hand k =>
   by_cases hk:k=i
   ·subst hk
    rw [show Cl none hd ct nt (.hand k) w=(hd k=some w) from rfl,h0] at hc
    cases hc
    exact absurd rfl hne
   ·exact (aY hd none hk).trans hc
  | root=>cases hc
  | _=>exact hc
theorem OI.note (h:OI e ns used gen rt hd ct nt own) {w0:Wd} (h0:ct i=some w0) {n:Nt} (hn:n.ref.slot=w0.slot∧n.ref.gen=w0.gen):OI e ns used gen rt hd (bA ct i none) (bA nt i (nt i ++ [n])) (fun s=>if s=w0.slot then .note i else own s):=by
 obtain ⟨r1,r2,r3,r4,r5⟩:=h.jS (o:=.cut i) (w:=w0) h0
 have hno:∀o w,Cl rt hd ct nt o w→o≠.cut i→w.slot≠w0.slot:=fun o w hc hne he=>hne (h.one hc (o':=.cut i) h0 he)
 refine h.move w0 (.note i) ⟨r1,r2⟩ (fun s h1 h2 h3=>rfl) ⟨fun _=>by simp,fun _=>r3⟩ (fun s h1 h2 h3=>rfl) (fun _=>r4) (fun h=>by cases h) (fun k=>?_) (fun o w hc=>?_) (fun o w hc hne=>?_) (fun _ _=>⟨n.ref,⟨n,by rw [aF];simp,rfl⟩,hn.1⟩)
 ·by_cases hk:k=i
  ·subst hk
   rw [aF,List.map_append,List.nodup_append]
   refine ⟨h.pU k,by simp,fun a ha b hb=>?_⟩
   obtain ⟨m,hm,rfl⟩:=List.mem_map.1 ha
   have hb':b=n.ref.slot:=by simpa using hb
   rw [hb',hn.1]
   exact hno (.note k) m.ref ⟨m,hm,rfl⟩ (by simp)
  ·rw [aY _ _ hk];exact h.pU k
 ·cases o with
  | cut k =>
   by_cases hk:k=i
   ·subst hk
    have:bA ct k none k=some w:=hc
    rw [aF] at this
    cases this
   ·have:bA ct i none k=some w:=hc
    rw [aY _ _ hk] at this
    exact .inl ⟨this,hno (.cut k) w this (fun h=>hk (by cases h;rfl))⟩
  | note k =>
   obtain ⟨m,hm,rfl⟩:=hc
   by_cases hk:k=i
   ·subst hk
    rw [aF] at hm
    rcases List.mem_append.1 hm with hm | hm
    ·exact .inl ⟨⟨m,hm,rfl⟩,hno (.note k) m.ref ⟨m,hm,rfl⟩ (by simp)⟩
    ·have:m=n:=by simpa using hm
     subst this
     exact .inr ⟨rfl,hn.1,hn.2,by simp⟩
   ·rw [aY _ _ hk] at hm
    exact .inl ⟨⟨m,hm,rfl⟩,hno (.note k) m.ref ⟨m,hm,rfl⟩ (by simp)⟩
  | root=>exact .inl ⟨hc,hno .root w hc (by simp)⟩
  | hand k=>exact .inl ⟨hc,hno (.hand k) w hc (by simp)⟩
  | _=>exact hc.elim
 ·cases o with
  | cut k =>
   by_cases hk:k=i
   ·subst hk
    rw [show Cl rt hd ct nt (.cut k) w=(ct k=some w) from rfl,h0] at hc
    cases hc
    exact absurd rfl hne
   ·exact (aY ct none hk).trans hc
  | note k =>
   obtain ⟨m,hm,rfl⟩:=hc
   by_cases hk:k=i
   ·subst hk
    exact ⟨m,by rw [aF];exact List.mem_append_left _ hm,rfl⟩
   ·exact ⟨m,by rw [aY _ _ hk];exact hm,rfl⟩
  | _=>exact hc
theorem OI.S9 (h:OI e ns used gen rt hd ct nt own) (he:e=1) {w0:Wd} (h0:ct i=some w0):OI e ns used gen rt hd (bA ct i none) nt (fun s=>if s=w0.slot then .lost else own s):=by
 obtain ⟨r1,r2,r3,r4,r5⟩:=h.jS (o:=.cut i) (w:=w0) h0
 have hno:∀o w,Cl rt hd ct nt o w→o≠.cut i→w.slot≠w0.slot:=fun o w hc hne he=>hne (h.one hc (o':=.cut i) h0 he)
 refine h.move w0 .lost ⟨r1,r2⟩ (fun s h1 h2 h3=>rfl) ⟨fun _=>by simp,fun _=>r3⟩ (fun s h1 h2 h3=>rfl) (fun _=>r4) (fun _=>he) h.pU (fun o w hc=>?_) (fun o w hc hne=>?_) (fun _ h=>absurd rfl h)
 ·cases o with
  | cut k =>
   by_cases hk:k=i
   ·subst hk
    have:bA ct k none k=some w:=hc
    rw [aF] at this
    cases this
   ·have:bA ct i none k=some w:=hc
    rw [aY _ _ hk] at this
    exact .inl ⟨this,hno (.cut k) w this (fun h=>hk (by cases h;rfl))⟩
  | root=>exact .inl ⟨hc,hno .root w hc (by simp)⟩
  | hand k=>exact .inl ⟨hc,hno (.hand k) w hc (by simp)⟩
  | note k=>exact .inl ⟨hc,hno (.note k) w hc (by simp)⟩
  | _=>exact hc.elim
 ·cases o with
  | cut k =>
   by_cases hk:k=i
   ·subst hk
    rw [show Cl rt hd ct nt (.cut k) w=(ct k=some w) from rfl,h0] at hc
    cases hc
    exact absurd rfl hne
   ·exact (aY ct none hk).trans hc
  | _=>exact hc
theorem uU {α β:Type} {f:α→β}:∀{l:List α},(l.map f).Nodup→∀{a b:α},a∈l→b∈l→f a=f b→a=b
 | [],_,_,_,ha,_,_=>by cases ha
 | x :: l,h,a,b,ha,hb,he=>by
  rw [List.map_cons,List.nodup_cons] at h
  rcases List.mem_cons.1 ha with ea | ha
  ·rcases List.mem_cons.1 hb with eb | hb
   ·rw [ea,eb]
   ·exact absurd (List.mem_map.2 ⟨b,hb,by rw [←he,ea]⟩) h.1
  ·rcases List.mem_cons.1 hb with eb | hb
   ·exact absurd (List.mem_map.2 ⟨a,ha,by rw [he,eb]⟩) h.1
   ·exact uU h.2 ha hb he
theorem lF {α β:Type} {f:α→β}:∀{l:List α},(l.map f).Nodup→l.Nodup
 | [],_=>List.nodup_nil
 | x :: l,h=>by
  rw [List.map_cons,List.nodup_cons] at h
  rw [List.nodup_cons]
  exact ⟨fun hx=>h.1 (List.mem_map.2 ⟨x,hx,rfl⟩),lF h.2⟩
theorem OI.fw (h:OI e ns used gen rt hd ct nt own) {d:Nt} (hd':d∈nt i):OI e ns (fun k=>if k=(d.ref.slot-1).toNat then false else used k) gen rt hd ct (bA nt i ((nt i).erase d)) (fun s=>if s=d.ref.slot then .free else own s):=by
 obtain ⟨r1,r2,r3,r4,r5⟩:=h.jS (o:=.note i) (w:=d.ref) ⟨d,hd',rfl⟩
 have hno:∀o w,Cl rt hd ct nt o w→o≠.note i→w.slot≠d.ref.slot:=fun o w hc hne he=>hne (h.one hc (o':=.note i) ⟨d,hd',rfl⟩ he)
 have hnd:=lF (h.pU i)
 refine h.move d.ref .free ⟨r1,r2⟩ (fun s h1 h2 h3=>if_neg (by omega)) ⟨fun h=>by simp at h,fun h=>absurd rfl h⟩ (fun s h1 h2 h3=>rfl) (fun h=>absurd rfl h) (fun h=>by cases h) (fun k=>?_) (fun o w hc=>?_) (fun o w hc hne=>?_) (fun h=>absurd rfl h)
 ·by_cases hk:k=i
  ·subst hk
   rw [aF]
   exact List.Nodup.sublist ((List.erase_sublist ..).map _) (h.pU k)
  ·rw [aY _ _ hk];exact h.pU k
 ·cases o with
  | note k =>
   obtain ⟨m,hm,rfl⟩:=hc
   by_cases hk:k=i
   ·subst hk
    rw [aF,hnd.mem_erase_iff] at hm
    exact .inl ⟨⟨m,hm.2,rfl⟩,fun he=>hm.1 (uU (h.pU k) hm.2 hd' he)⟩
   ·rw [aY _ _ hk] at hm
    exact .inl ⟨⟨m,hm,rfl⟩,hno (.note k) m.ref ⟨m,hm,rfl⟩ (fun h=>hk (by cases h;rfl))⟩
  | root=>exact .inl ⟨hc,hno .root w hc (by simp)⟩
  | hand k=>exact .inl ⟨hc,hno (.hand k) w hc (by simp)⟩
  | cut k=>exact .inl ⟨hc,hno (.cut k) w hc (by simp)⟩
  | _=>exact hc.elim
 ·cases o with
  | note k =>
   obtain ⟨m,hm,rfl⟩:=hc
   by_cases hk:k=i
   ·subst hk
    refine ⟨m,?_,rfl⟩
    rw [aF,hnd.mem_erase_iff]
    exact ⟨fun h=>hne (by rw [h]),hm⟩
   ·exact ⟨m,by rw [aY _ _ hk];exact hm,rfl⟩
  | _=>exact hc
end
def dW (c:Int):Wd:=⟨0,0,c-1,c,false⟩
def PS.aB (p:PS):Int:=(p.bd 24).num
def PS.rt (p:PS):Option Wd:=if (p.bd 0).slot=0 then none else some (p.bd 0)
def PS.aX (p:PS) (s:Int):Int:=(p.cell (s-1).toNat 9).num
namespace Th
variable (h:Th)
def hand:Option Wd :=
 match h.t with
 | .idle x=>if h.pc=4 then (if x.ok=true then some x.word else none) else if h.pc=5 then some h.node else if h.pc=6 then (if x.ok=true then none else some h.node) else none
 | .one _=>if h.pc=5∨h.pc=6 then some h.node else none
 | .fin _=>if h.pc=7 then some h.node else none
 | _=>none
def cut:Option Wd :=
 match h.t with
 | .idle x=>if h.pc=6∧x.ok=true∧h.old.slot≠0 then some h.old else none
 | .jC o=>some o
 | .dU o _=>some o
 | _=>none
def snap:Option Wd :=
 match h.t with
 | .ji _ w=>some w
 | .idle x=>if h.pc=2 then some x.word else if 3≤h.pc∧h.pc≤5 then some h.old else none
 | .one _=>if 3≤h.pc∧h.pc≤6 then some h.old else none
 | .ou=>some h.old
 | _=>none
def cZ (C:Int):Option Wd :=
 match h.t with
 | .idle x=>if h.pc=2∧x.word.slot≠0 then some x.word else none
 | .one _=>if h.pc=3∧h.old.slot≠0 then some h.old else none
 | .ji _ w=>if w.slot≠0∧RT.bZ h.l 0 C then some w else none
 | _=>none
def full:Option Wd :=
 match h.t with
 | .idle _=>if h.pc=5 then some h.node else none
 | .one _=>if h.pc=6 then some h.node else none
 | _=>none
def sh (e C:Int):Prop :=
 match h.t with
 | .idle x=>(0≤h.pc∧h.pc≤7)∧(h.pc=3→h.old.slot≠0→x.word.num=dV h.old)
 | .one a=>(h.pc=3∧a=if h.old.slot=0 then Ac.load 0 0 0 else Ac.load h.old.slot h.old.gen 1)∨(h.pc=4∧∃b,a=⟨4,0,0,0,Wd.zero,Wd.dG b⟩∧b≤C) ∨
   (h.pc=5∧a=⟨2,h.node.slot,h.node.gen,1,Wd.zero,Wd.dG (dV h.node)⟩)∨(h.pc=6∧a=⟨3,0,0,0,h.old,⟨h.node.slot,h.node.gen,h.old.tag+1,0,false⟩⟩)∨(h.pc=7∧a=Ac.load 0 0 0)
 | .fin a=>(((h.pc=0∧h.l.s=Sp.zero)∨(h.pc=1∧h.l.s.is=true))∧(e=4∨e=5)∧a=RT.fV h.l h.l.s)∨(h.pc=7∧a=⟨5,0,0,0,h.node,Wd.zero⟩)
 | .pK=>h.pc=1∧(e=4∨e=5)
 | .jm k=>h.pc=0∧k=0∧(e=2∨e=3)
 | .fU c=>h.pc=2∧c=Ca.of 6
 | .ji c w=>h.pc=2∧c=Ca.of 6∧(e=3∨e=5)
 | .fA c a=>h.pc=2∧c=Ca.of 6∧(((e=2∨e=3)∧a=Ac.store 0 0 (25+h.l.me * 9+0) (h.l.h 0))∨(e=5∧a=RT.fV h.l h.l.s))
 | .ou=>h.pc=4∧(e=3∨e=5)
 | .jC o=>h.pc=7∧(e=3∨e=5)
 | .dU o b=>h.pc=7∧(e=3∨e=4∨e=5)
 | .jZ ck=>h.pc=7∧(e=3∨e=5)∧∃c,c≤C∧ck=dW c
 | .je=>(h.pc=0∨h.pc=7)∧e=4
 | .bV ck seen=>(h.pc=0∨h.pc=7)∧e≠1∧(seen.length:Int)<h.l.all∧(e=4→∃c,c≤C∧ck=dW c)
 | .iE ck=>(h.pc=0∨h.pc=7)∧e=4∧∃c,c≤C∧ck=dW c
 | .dO=>(h.pc=0∨h.pc=7)∧e=4
 | .fe d r=>(h.pc=0∨h.pc=7)∧e≠1∧(∀x∈d :: r,x∈h.l.notes)∧(d :: r).Nodup
def dw:Prop:=match h.t with | .jm _=>True | .fA _ _=>True | _=>False
def dI:Prop:=match h.t with | .fin _=>h.pc≤1 | .fA _ _=>True | _=>False
def busy:Prop:=match h.t with | .idle _=>1≤h.pc | _=>2≤h.pc
structure Loc (e:Int) (n:Nat) (p:PS) (i:Nat):Prop where
 iA:h.l.aj=e
 me:h.l.me=i
 nS:h.l.threads=n
 most:1≤h.l.most
 hz:∀k,k≠0→h.l.h k=Wd.zero
 kz:∀k,k≠0→k<9→p.bd (25+9 * i+k)=Wd.zero
 nk:e≠2→e≠3→h.l.h 0=Wd.zero∧p.bd (25+9 * i)=Wd.zero
 ns:e≠4→e≠5→h.l.s=Sp.zero∧p.bd (79+i)=Wd.zero
 h3:e=3→(h.l.h 0).num≤p.aB∧(p.bd (25+9 * i)).num≤p.aB
 s5:h.l.s=Sp.zero∨∃a b,h.l.s=⟨true,a,b⟩∧a≤b∧b≤p.aB
 b5:p.bd (79+i)=Wd.zero∨∃a b,p.bd (79+i)=⟨0,0,b,a,true⟩∧a≤b∧b≤p.aB
 kc:¬h.dw→p.bd (25+9 * i)=h.l.h 0
 sc:¬h.dI→p.bd (79+i)=RS.lQ h.l.s
 on:(e=4∨e=5)→h.busy→h.l.s.is=true
 off:h.pc=0→h.l.h 0=Wd.zero∧h.l.s=Sp.zero
 jN:h.sh e p.aB
end Th
structure Kp (e:Int) (w:Wd) (A:Int) (n:Nt):Prop where
 k2:e=2→w.slot=n.ref.slot
 k3:e=3→0<w.num∧n.aX≤w.num∧w.num≤n.cO
 k4:e=4→A≤n.cO
 k5:e=5→w.mark=true∧w.num≤n.cO∧n.aX≤w.tag
def ik (e:Int) (p:PS) (i:Nat):Wd:=if e=2∨e=3 then p.bd (25+9 * i) else p.bd (79+i)
def jI (e:Int) (i:Nat):Nat:=if e=2∨e=3 then 9 * i else i
structure Qm (e:Int) (w:Wd) (s aX:Int):Prop where
 k2:e=2→w.slot=s
 k3:e=3→0<w.num∧aX≤w.num
 k4:e=4→w.mark=true
 k5:e=5→w.mark=true∧aX≤w.tag
def NK (e:Int) (w:Wd) (A:Int) (pos:Nat) (h:Th) (s:Int):Prop :=
 ∀n∈h.l.notes,n.ref.slot=s→Kp e w A n∧(∀d r,h.t=.fe d r→n≠d∧n ∉ r)∧(∀ck seen,h.t=.bV ck seen→e≠4→∀x,seen[pos]?=some x→Kp e x A n)
def qD (e:Int) (p:PS) (T:Nat→Th) (A:Nat→Int) (i:Nat) (s:Int):Prop :=
 Qm e (ik e p i) s (p.aX s)∧∀j,NK e (ik e p i) (A i) (jI e i) (T j) s
def iy.rC (o:iy):Prop:=o≠.free∧∀i,o≠.hand i
def kR (C:Int) (i:Nat) (h:Th):Prop :=
 (∀ck seen,h.t=.bV ck seen→ck.num=C→∀x,seen[i]?=some x→x.mark=true∧x.num≠C)∧(∀ck,h.t=.iE ck→ck.num≠C)
structure Inv (n:Nat) (e:Int) (p:PS) (T:Nat→Th) (own:Int→iy) (A:Nat→Int):Prop where
 ok:p.OK
 nb:p.nb=85
 gV:p.gV=true
 n6:1≤n∧n≤6
 e5:1≤e∧e≤5
 clock:p.bd 24=dW p.aB∧1≤p.aB
 root:(p.bd 0).num=0∧(p.bd 0).mark=false
 oi:OI e p.ns p.used p.gen p.rt (fun i=>(T i).hand) (fun i=>(T i).cut) (fun i=>(T i).l.notes) own
 loc:∀i,i<n→(T i).Loc e n p i
 rest:∀i,n≤i→(T i).hand=none∧(T i).cut=none∧(T i).l.notes=[]
 snap:∀i,i<n→∀w,(T i).snap=some w→w.tag≤(p.bd 0).tag∧(w.tag=(p.bd 0).tag→w=p.bd 0)
 val:∀s,(own s).rC→(p.cell (s-1).toNat 1).num=s+2000 * p.gen (s-1).toNat
 full:∀i,i<n→∀w,(T i).full=some w→(p.cell (w.slot-1).toNat 1).num=dV w
 aX:∀s,own s≠.free→p.aX s≤p.aB
 cO:∀i,∀m∈(T i).l.notes,(e=3∨e=5→m.aX=p.aX m.ref.slot)∧(e≠2→m.cO≤p.aB)
 rb:∀i,i<n→∀o b,(T i).t=.dU o b→e≠4→b=p.aX o.slot
 held:∀i,i<n→∀w,(T i).cZ p.aB=some w→(own w.slot).rC∧p.gen (w.slot-1).toNat=w.gen∧qD e p T A i w.slot
 ep:e=4→∀i,i<n→(p.bd (79+i)).mark=true→((p.bd (79+i)).num≤A i∧A i≤p.aB∧p.aB≤A i+1)∧(p.aB=A i+1→∀j,j<n→kR p.aB i (T j))
def Calm (t:RT):Prop:=(∀d r,t≠.fe d r)∧(∀ck seen,t=.bV ck seen→seen=[])∧(∀ck,t≠.iE ck)
theorem NK.calm {e:Int} {w:Wd} {A:Int} {pos:Nat} {h h':Th} {s:Int} (H:NK e w A pos h s) (hn:h'.l.notes=h.l.notes) (hc:Calm h'.t):NK e w A pos h' s:=by
 intro n hm hs
 rw [hn] at hm
 refine ⟨(H n hm hs).1,fun d r ht=>absurd ht (hc.1 d r),fun ck seen ht _ x hx=>?_⟩
 rw [hc.2.1 ck seen ht] at hx
 simp at hx
theorem kR.calm {C:Int} {i:Nat} {h:Th} (hc:Calm h.t):kR C i h:=by
 refine ⟨fun ck seen ht _ x hx=>?_,fun ck ht=>absurd ht (hc.2.2 ck)⟩
 rw [hc.2.1 ck seen ht] at hx
 simp at hx
section
variable {n:Nat} {e:Int} {p:PS} {T:Nat→Th} {own:Int→iy} {A:Nat→Int} {i:Nat} {h':Th}
theorem Th.Loc.Y6 {h:Th} (H:h.Loc e n p i) (k:Int):h.Loc e n {p with steps:=k} i:=⟨H.iA,H.me,H.nS,H.most,H.hz,H.kz,H.nk,H.ns,H.h3,H.s5,H.b5,H.kc,H.sc,H.on,H.off,H.jN⟩
theorem aD {α:Type} {f:Nat→α} {P:Nat→α→Prop} {x:α} (h1:P i x) (h2:∀k,k≠i→P k (f k)):∀k,P k (bA f i x k):=by
 intro k
 by_cases hk:k=i
 ·subst hk;rw [aF];exact h1
 ·rw [aY _ _ hk];exact h2 k hk
theorem Inv.stay (H:Inv n e p T own A) (hi:i<n) {k:Int} (hok:({p with steps:=k}:PS).OK) (h1:h'.hand=(T i).hand) (h2:h'.cut=(T i).cut) (h3:h'.l.notes=(T i).l.notes) (hl:h'.Loc e n p i)
  (hs:∀w,h'.snap=some w→w.tag≤(p.bd 0).tag∧(w.tag=(p.bd 0).tag→w=p.bd 0)) (hf:∀w,h'.full=some w→(p.cell (w.slot-1).toNat 1).num=dV w)
  (hr:∀o b,h'.t=.dU o b→e≠4→b=p.aX o.slot) (hp:∀w,h'.cZ p.aB=some w→(own w.slot).rC∧p.gen (w.slot-1).toNat=w.gen∧qD e p T A i w.slot)
  (XF:∀j,j<n→∀s,Qm e (ik e p j) s (p.aX s)→NK e (ik e p j) (A j) (jI e j) (T i) s→NK e (ik e p j) (A j) (jI e j) h' s)
  (XG:e=4→∀j,j<n→(p.bd (79+j)).mark=true→p.aB=A j+1→kR p.aB j (T i)→kR p.aB j h'):Inv n e {p with steps:=k} (bA T i h') own A:=by
 have hH:∀j,j<n→∀s,qD e p T A j s→qD e p (bA T i h') A j s:=fun j hj s ⟨a,b⟩=>⟨a,aD (P:=fun _ (h:Th)=>NK e (ik e p j) (A j) (jI e j) h s) (XF j hj s a (b i)) fun k _=>b k⟩
 refine ⟨hok,H.nb,H.gV,H.n6,H.e5,H.clock,H.root,?_,?_,?_,?_,H.val,?_,H.aX,?_,?_,?_,?_⟩
 ·refine H.oi.same rfl ?_ ?_ ?_
  ·exact aD (P:=fun k (h:Th)=>h.hand=(T k).hand) h1 fun _ _=>rfl
  ·exact aD (P:=fun k (h:Th)=>h.cut=(T k).cut) h2 fun _ _=>rfl
  ·exact aD (P:=fun k (h:Th)=>h.l.notes=(T k).l.notes) h3 fun _ _=>rfl
 ·exact fun j hj=>(aD (P:=fun k (h:Th)=>k<n→h.Loc e n p k) (fun _=>hl) (fun k _=>H.loc k) j hj).Y6 k
 ·exact aD (P:=fun k (h:Th)=>n≤k→h.hand=none∧h.cut=none∧h.l.notes=[]) (fun h=>absurd hi (Nat.not_lt.2 h)) fun k _=>H.rest k
 ·exact aD (P:=fun k (h:Th)=>k<n→∀w,h.snap=some w→w.tag≤(p.bd 0).tag∧(w.tag=(p.bd 0).tag→w=p.bd 0)) (fun _=>hs) fun k _=>H.snap k
 ·exact aD (P:=fun k (h:Th)=>k<n→∀w,h.full=some w→(p.cell (w.slot-1).toNat 1).num=dV w) (fun _=>hf) fun k _=>H.full k
 ·exact aD (P:=fun k (h:Th)=>∀m∈h.l.notes,(e=3∨e=5→m.aX=p.aX m.ref.slot)∧(e≠2→m.cO≤p.aB)) (by rw [h3];exact H.cO i) fun k _=>H.cO k
 ·exact aD (P:=fun k (h:Th)=>k<n→∀o b,h.t=.dU o b→e≠4→b=p.aX o.slot) (fun _=>hr) fun k _=>H.rb k
 ·refine aD (P:=fun k (h:Th)=>k<n→∀w,h.cZ p.aB=some w→(own w.slot).rC∧p.gen (w.slot-1).toNat=w.gen∧qD e p (bA T i h') A k w.slot) (fun _ w hw=>?_) fun k _ hk w hw=>?_
  ·obtain ⟨a,b,c⟩:=hp w hw
   exact ⟨a,b,hH i hi _ c⟩
  ·obtain ⟨a,b,c⟩:=H.held k hk w hw
   exact ⟨a,b,hH k hk _ c⟩
 ·intro e4 j hj hm
  obtain ⟨a,b⟩:=H.ep e4 j hj hm
  refine ⟨a,fun hc=>?_⟩
  have b:=b hc
  exact aD (P:=fun k (h:Th)=>k<n→kR p.aB j h) (fun _=>XG e4 j hj hm hc (b i hi)) fun k _ hk=>b k hk
theorem Inv.calm (H:Inv n e p T own A) (hi:i<n) {k:Int} (hok:({p with steps:=k}:PS).OK) (h1:h'.hand=(T i).hand) (h2:h'.cut=(T i).cut) (h3:h'.l.notes=(T i).l.notes) (hl:h'.Loc e n p i)
  (hs:∀w,h'.snap=some w→w.tag≤(p.bd 0).tag∧(w.tag=(p.bd 0).tag→w=p.bd 0)) (hf:∀w,h'.full=some w→(p.cell (w.slot-1).toNat 1).num=dV w)
  (hr:∀o b,h'.t=.dU o b→e≠4→b=p.aX o.slot) (hp:∀w,h'.cZ p.aB=some w→(own w.slot).rC∧p.gen (w.slot-1).toNat=w.gen∧qD e p T A i w.slot)
  (hc:Calm h'.t):Inv n e {p with steps:=k} (bA T i h') own A :=
 H.stay hi hok h1 h2 h3 hl hs hf hr hp (fun j _ s _ h=>h.calm h3 hc) (fun _ _ _ _ _ _=>kR.calm hc)
end
end Go.Proofs.YthomdlajobnmnaaDoor
namespace Go.Proofs.YthomdlajobnmnaaDoor
open Go.Rex
section
variable {n:Nat} {e:Int} {p:PS} {T:Nat→Th} {own:Int→iy} {A:Nat→Int} {i:Nat} {h h':Th}
theorem Th.Loc.go (L:h.Loc e n p i) (hl:h'.l=h.l) (hk:¬h.dw) (hs:¬h.dI) (hon:e=4∨e=5→h'.busy→h.l.s.is=true) (hoff:h'.pc=0→h.l.h 0=Wd.zero∧h.l.s=Sp.zero) (hsh:h'.sh e p.aB):h'.Loc e n p i:=by
 refine ⟨?_,?_,?_,?_,?_,L.kz,?_,?_,?_,?_,L.b5,?_,?_,?_,?_,hsh⟩
 all_goals rw [hl]
 ·exact L.iA
 ·exact L.me
 ·exact L.nS
 ·exact L.most
 ·exact L.hz
 ·exact L.nk
 ·exact L.ns
 ·exact L.h3
 ·exact L.s5
 ·exact fun _=>L.kc hk
 ·exact fun _=>L.sc hs
 ·exact hon
 ·exact hoff
theorem su {f:Nat→Wd}:∀{k m:Nat},(∀j,m≤j→f j=Wd.zero)→RS.first f m k=none
 | 0,_,_=>rfl
 | k+1,m,h=>by
  unfold RS.first
  rw [if_neg (by rw [h m (Nat.le_refl m)];exact fun c=>c rfl)]
  exact su fun j hj=>h j (by omega)
theorem AQ (l:Lo) (w:Wd):(l.hold 0 w).h 0=w:=by simp [Lo.hold]
theorem UC (l:Lo) (w:Wd) {k:Nat} (hk:k≠0):(l.hold 0 w).h k=l.h k:=by simp [Lo.hold,hk]
theorem Th.Loc.bf (L:h.Loc e n p i):h.l.bf↔(e=2∨e=3):=by unfold Lo.bf;rw [L.iA]
theorem Th.Loc.bu (L:h.Loc e n p i):h.l.bu↔(e=3∨e=5):=by unfold Lo.bu;rw [L.iA]
theorem Th.Loc.bK (L:h.Loc e n p i):h.l.bK↔(e=4∨e=5):=by unfold Lo.bK;rw [L.iA]
theorem Th.Loc.ok (L:h.Loc e n p i) (hi:i<n) (h6:1≤n∧n≤6) (he:1≤e∧e≤5):h.l.OK :=
 ⟨by rw [L.iA];exact he,by rw [L.me,L.nS];omega,by rw [L.nS];omega,L.most⟩
theorem Bl (L:h.Loc e n p i) (he:1≤e∧e≤5):((e=4∨e=5)∧h.l.s≠Sp.zero∧RT.leave h.l 0=({h.l with s:=Sp.zero},.fin (RT.fV h.l Sp.zero))) ∨
  ((e=2∨e=3)∧h.l.h 0≠Wd.zero∧RT.leave h.l 0=(h.l.hold 0 Wd.zero,.jm 0))∨(h.l.h 0=Wd.zero∧h.l.s=Sp.zero∧RT.leave h.l 0=(h.l,.idle Rp.yes)):=by
 unfold RT.leave
 by_cases h1:h.l.bK∧h.l.s≠Sp.zero
 ·rw [if_pos h1]
  exact .inl ⟨L.bK.1 h1.1,h1.2,rfl⟩
 rw [if_neg h1]
 by_cases h2:h.l.bf
 ·rw [if_pos h2]
  have he2:=L.bf.1 h2
  have hs:=(L.ns (by omega) (by omega)).1
  by_cases h3:h.l.h 0=Wd.zero
  ·right;right
   rw [show RS.first h.l.h (0:Int).toNat (9-(0:Int).toNat)=none from su fun j _=>by
     by_cases hj:j=0
     · rw [hj];exact h3
     · exact L.hz j hj]
   exact ⟨h3,hs,rfl⟩
  ·right;left
   rw [show RS.first h.l.h (0:Int).toNat (9-(0:Int).toNat)=some 0 from if_pos h3]
   exact ⟨he2,h3,rfl⟩
 ·rw [if_neg h2]
  have he2:¬(e=2∨e=3):=fun x=>h2 (L.bf.2 x)
  refine .inr (.inr ⟨(L.nk (by omega) (by omega)).1,?_,rfl⟩)
  by_cases h4:h.l.s=Sp.zero
  ·exact h4
  ·have:¬(e=4∨e=5):=fun x=>h1 ⟨L.bK.2 x,h4⟩
   exact (L.ns (by omega) (by omega)).1
theorem Calm.idle (x:Rp):Calm (.idle x):=⟨fun _ _ h=>(by cases h),fun _ _ h=>(by cases h),fun _ h=>(by cases h)⟩
theorem dY {t:RT} (h:t.aW<13∨t.aW=15):Calm t:=by
 refine ⟨fun d r e=>?_,fun ck s e=>?_,fun ck e=>?_⟩
 all_goals
  rw [e] at h
  simp only [RT.aW] at h
  omega
theorem Calm.new (ck:Wd):Calm (.bV ck []):=⟨fun _ _ h=>(by cases h),fun _ _ h=>(by cases h;rfl),fun _ h=>(by cases h)⟩
theorem Inv.self (H:Inv n e p T own A):({p with steps:=p.steps}:PS).OK:=H.ok
theorem Inv.GR (H:Inv n e p T own A) (hi:i<n) (hk:¬(T i).dw) (hs:¬(T i).dI) (hh:(T i).hand=none) (hc:(T i).cut=none)
  (h':Th) (hl:h'.l=(RT.leave (T i).l 0).1) (ht:h'.t=(RT.leave (T i).l 0).2) (hpc:h'.pc=0):Inv n e p (bA T i h') own A:=by
 have L:=H.loc i hi
 have XH:h'.l.notes=(T i).l.notes∧h'.hand=none∧h'.cut=none∧h'.snap=none∧h'.full=none∧(∀C,h'.cZ C=none)∧Calm h'.t∧h'.Loc e n p i∧∀o b,h'.t≠.dU o b:=by
  unfold Th.hand Th.cut Th.snap Th.full Th.cZ
  rcases Bl L H.e5 with ⟨e4,s0,q⟩ | ⟨e2,k0,q⟩ | ⟨k0,s0,q⟩
  ·rw [q] at hl ht
   simp only at hl ht
   rw [ht,hl,hpc]
   refine ⟨rfl,rfl,rfl,rfl,rfl,fun _=>rfl,dY (.inl (by simp only [RT.aW];omega)),?_,fun _ _ h=>by cases h⟩
   have Y7:¬h'.dw:=by unfold Th.dw;rw [ht];exact id
   have hpS:h'.dI:=by unfold Th.dI;rw [ht,hpc];simp
   refine ⟨?_,?_,?_,?_,?_,L.kz,?_,?_,?_,?_,L.b5,?_,fun x=>absurd hpS x,?_,?_,?_⟩
   all_goals try rw [hl]
   ·exact L.iA
   ·exact L.me
   ·exact L.nS
   ·exact L.most
   ·exact L.hz
   ·exact L.nk
   ·exact fun a b=>absurd e4 (by omega)
   ·exact L.h3
   ·exact .inl rfl
   ·exact fun _=>L.kc hk
   ·intro _ hb
    unfold Th.busy at hb
    rw [ht,hpc] at hb
    simp at hb
   ·exact fun _=>⟨(L.nk (by omega) (by omega)).1,rfl⟩
   ·unfold Th.sh
    rw [ht]
    exact .inl ⟨.inl ⟨hpc,by rw [hl]⟩,e4,by rw [hl];rfl⟩
  ·rw [q] at hl ht
   simp only at hl ht
   rw [ht,hl,hpc]
   refine ⟨rfl,rfl,rfl,rfl,rfl,fun _=>rfl,dY (.inl (by simp only [RT.aW];omega)),?_,fun _ _ h=>by cases h⟩
   have Y7:h'.dw:=by unfold Th.dw;rw [ht];trivial
   refine ⟨?_,?_,?_,?_,?_,L.kz,?_,?_,?_,?_,L.b5,fun x=>absurd Y7 x,?_,?_,?_,?_⟩
   all_goals try rw [hl]
   ·exact L.iA
   ·exact L.me
   ·exact L.nS
   ·exact L.most
   ·intro k k1
    show (if k=(0:Int).toNat then Wd.zero else (T i).l.h k)=_
    rw [if_neg (by simpa using k1)]
    exact L.hz k k1
   ·exact fun a b=>absurd e2 (by omega)
   ·exact L.ns
   ·intro e3
    have:=L.h3 e3
    refine ⟨?_,this.2⟩
    show (if 0=(0:Int).toNat then Wd.zero else (T i).l.h 0).num≤_
    rw [if_pos (show 0=(0:Int).toNat from rfl)]
    have:=H.clock.2
    show (0:Int)≤_
    omega
   ·exact L.s5
   ·exact fun _=>L.sc hs
   ·exact fun a=>absurd e2 (by omega)
   ·exact fun _=>⟨AQ _ _,(L.ns (by omega) (by omega)).1⟩
   ·unfold Th.sh
    rw [ht]
    exact ⟨hpc,rfl,e2⟩
  ·rw [q] at hl ht
   simp only at hl ht
   rw [ht,hl,hpc]
   refine ⟨rfl,rfl,rfl,rfl,rfl,fun _=>rfl,Calm.idle _,?_,fun _ _ h=>by cases h⟩
   refine L.go hl hk hs (fun _ hb=>?_) (fun _=>⟨k0,s0⟩) ?_
   ·unfold Th.busy at hb
    rw [ht,hpc] at hb
    simp at hb
   ·unfold Th.sh
    rw [ht,hpc]
    exact ⟨by omega,fun h=>by omega⟩
 obtain ⟨a1,a2,a3,a4,a5,a6,a7,a8,a9⟩:=XH
 exact H.calm hi H.self (a2.trans hh.symm) (a3.trans hc.symm) a1 a8 (fun w hw=>by rw [a4] at hw;cases hw) (fun w hw=>by rw [a5] at hw;cases hw) (fun o b hb=>absurd hb (a9 o b)) (fun w hw=>by rw [a6] at hw;cases hw) a7
theorem Inv.note (H:Inv n e p T own A) (hi:i<n) {k:Int} (hok:({p with steps:=k}:PS).OK) {w0:Wd} (hc:(T i).cut=some w0) {m:Nt} (hm:m.ref.slot=w0.slot∧m.ref.gen=w0.gen) (h1:h'.hand=(T i).hand) (h2:h'.cut=none)
  (h3:h'.l.notes=(T i).l.notes ++ [m]) (hl:h'.Loc e n p i) (hs:h'.snap=none) (hf:h'.full=none) (hr:∀o b,h'.t≠.dU o b) (hp:∀C,h'.cZ C=none) (hcm:Calm h'.t) (hb:e=3∨e=5→m.aX=p.aX m.ref.slot) (hd:e≠2→m.cO=p.aB) :
  ∃own',Inv n e {p with steps:=k} (bA T i h') own' A:=by
 have hoi:=H.oi.note (i:=i) hc hm
 obtain ⟨r1,r2,r3,r4,r5⟩:=H.oi.jS (o:=.cut i) (w:=w0) hc
 refine ⟨fun s=>if s=w0.slot then .note i else own s,hok,H.nb,H.gV,H.n6,H.e5,H.clock,H.root,?_,?_,?_,?_,?_,?_,?_,?_,?_,?_,?_⟩
 ·refine hoi.same rfl ?_ ?_ ?_
  ·exact aD (P:=fun k (h:Th)=>h.hand=(T k).hand) h1 fun _ _=>rfl
  ·refine aD (P:=fun k (h:Th)=>h.cut=bA (fun i=>(T i).cut) i none k) ?_ fun k hk=>?_
   ·rw [aF,h2]
   ·rw [aY _ _ hk]
  ·refine aD (P:=fun k (h:Th)=>h.l.notes=bA (fun i=>(T i).l.notes) i ((T i).l.notes ++ [m]) k) ?_ fun k hk=>?_
   ·rw [aF,h3]
   ·rw [aY _ _ hk]
 ·exact fun j hj=>(aD (P:=fun k (h:Th)=>k<n→h.Loc e n p k) (fun _=>hl) (fun k _=>H.loc k) j hj).Y6 k
 ·exact aD (P:=fun k (h:Th)=>n≤k→h.hand=none∧h.cut=none∧h.l.notes=[]) (fun h=>absurd hi (Nat.not_lt.2 h)) fun k _=>H.rest k
 ·exact aD (P:=fun k (h:Th)=>k<n→∀w,h.snap=some w→w.tag≤(p.bd 0).tag∧(w.tag=(p.bd 0).tag→w=p.bd 0)) (fun _ w hw=>by rw [hs] at hw;cases hw) fun k _=>H.snap k
 ·intro s hs'
  refine H.val s ?_
  by_cases hx:s=w0.slot
  ·rw [hx,r5];exact ⟨by simp,by simp⟩
  ·simp only [if_neg hx] at hs';exact hs'
 ·exact aD (P:=fun k (h:Th)=>k<n→∀w,h.full=some w→(p.cell (w.slot-1).toNat 1).num=dV w) (fun _ w hw=>by rw [hf] at hw;cases hw) fun k _=>H.full k
 ·intro s hs'
  refine H.aX s ?_
  by_cases hx:s=w0.slot
  ·rw [hx,r5];simp
  ·simp only [if_neg hx] at hs';exact hs'
 ·refine aD (P:=fun k (h:Th)=>∀m∈h.l.notes,(e=3∨e=5→m.aX=p.aX m.ref.slot)∧(e≠2→m.cO≤p.aB)) (fun x hx=>?_) fun k _=>H.cO k
  rw [h3] at hx
  rcases List.mem_append.1 hx with hx | hx
  ·exact H.cO i x hx
  ·have:x=m:=by simpa using hx
   rw [this]
   exact ⟨hb,fun h=>by rw [hd h];exact Int.le_refl _⟩
 ·exact aD (P:=fun k (h:Th)=>k<n→∀o b,h.t=.dU o b→e≠4→b=p.aX o.slot) (fun _ o b hb=>absurd hb (hr o b)) fun k _=>H.rb k
 ·refine aD (P:=fun k (h:Th)=>k<n→∀w,h.cZ p.aB=some w→(if w.slot=w0.slot then iy.note i else own w.slot).rC∧p.gen (w.slot-1).toNat=w.gen∧qD e p (bA T i h') A k w.slot) (fun _ w hw=>by rw [hp] at hw;cases hw) fun k hk hkn w hw=>?_
  obtain ⟨a,b,c,d⟩:=H.held k hkn w hw
  refine ⟨?_,b,c,aD (P:=fun _ (h:Th)=>NK e (ik e p k) (A k) (jI e k) h w.slot) ?_ fun j _=>d j⟩
  ·by_cases hx:w.slot=w0.slot
   ·rw [if_pos hx];exact ⟨by simp,by simp⟩
   ·rw [if_neg hx];exact a
  ·intro x hx hsx
   rw [h3] at hx
   refine ⟨?_,fun d' r ht=>absurd ht (hcm.1 d' r),fun ck seen ht _ y hy=>?_⟩
   ·rcases List.mem_append.1 hx with hx | hx
    ·exact (d i x hx hsx).1
    ·have hxm:x=m:=by simpa using hx
     subst hxm
     have Lk:=H.loc k hkn
     refine ⟨fun e2=>by rw [hsx];exact c.k2 e2,fun e3=>?_,fun e4=>?_,fun e5=>?_⟩
     ·obtain ⟨c1,c2⟩:=c.k3 e3
      have h1:=(Lk.h3 e3).2
      rw [hb (.inl e3),hd (by omega),hsx]
      refine ⟨c1,c2,?_⟩
      unfold ik
      rw [if_pos (.inr e3)]
      exact h1
     ·have hmk:=c.k4 e4
      unfold ik at hmk
      rw [if_neg (by omega)] at hmk
      have:=(H.ep e4 k hkn hmk).1
      rw [hd (by omega)]
      omega
     ·obtain ⟨c1,c2⟩:=c.k5 e5
      rw [hb (.inr e5),hd (by omega),hsx]
      refine ⟨c1,?_,c2⟩
      unfold ik at c1 ⊢
      rw [if_neg (by omega)] at c1 ⊢
      rcases Lk.b5 with hz | ⟨a',b',hz,hab,hbc⟩
      ·rw [hz] at c1;cases c1
      ·rw [hz];show a'≤_;omega
   ·rw [hcm.2.1 ck seen ht] at hy
    simp at hy
 ·intro e4 j hj hmk
  obtain ⟨a,b⟩:=H.ep e4 j hj hmk
  exact ⟨a,fun hc=>aD (P:=fun k (h:Th)=>k<n→kR p.aB j h) (fun _=>kR.calm hcm) fun k _ hk=>b hc k hk⟩
theorem Inv.S9 (H:Inv n e p T own A) (hi:i<n) (he:e=1) {w0:Wd} (hc:(T i).cut=some w0) (h1:h'.hand=(T i).hand) (h2:h'.cut=none)
  (h3:h'.l.notes=(T i).l.notes) (hl:h'.Loc e n p i) (hs:h'.snap=none) (hf:h'.full=none) (hr:∀o b,h'.t≠.dU o b) (hp:∀C,h'.cZ C=none) (hcm:Calm h'.t) :
  ∃own',Inv n e p (bA T i h') own' A:=by
 have hoi:=H.oi.S9 (i:=i) he hc
 obtain ⟨r1,r2,r3,r4,r5⟩:=H.oi.jS (o:=.cut i) (w:=w0) hc
 refine ⟨fun s=>if s=w0.slot then .lost else own s,H.ok,H.nb,H.gV,H.n6,H.e5,H.clock,H.root,?_,?_,?_,?_,?_,?_,?_,?_,?_,?_,?_⟩
 ·refine hoi.same rfl ?_ ?_ ?_
  ·exact aD (P:=fun k (h:Th)=>h.hand=(T k).hand) h1 fun _ _=>rfl
  ·refine aD (P:=fun k (h:Th)=>h.cut=bA (fun i=>(T i).cut) i none k) ?_ fun k hk=>?_
   ·rw [aF,h2]
   ·rw [aY _ _ hk]
  ·exact aD (P:=fun k (h:Th)=>h.l.notes=(T k).l.notes) h3 fun _ _=>rfl
 ·exact aD (P:=fun k (h:Th)=>k<n→h.Loc e n p k) (fun _=>hl) fun k _=>H.loc k
 ·exact aD (P:=fun k (h:Th)=>n≤k→h.hand=none∧h.cut=none∧h.l.notes=[]) (fun h=>absurd hi (Nat.not_lt.2 h)) fun k _=>H.rest k
 ·exact aD (P:=fun k (h:Th)=>k<n→∀w,h.snap=some w→w.tag≤(p.bd 0).tag∧(w.tag=(p.bd 0).tag→w=p.bd 0)) (fun _ w hw=>by rw [hs] at hw;cases hw) fun k _=>H.snap k
 ·intro s hs'
  refine H.val s ?_
  by_cases hx:s=w0.slot
  ·rw [hx,r5];exact ⟨by simp,by simp⟩
  ·simp only [if_neg hx] at hs';exact hs'
 ·exact aD (P:=fun k (h:Th)=>k<n→∀w,h.full=some w→(p.cell (w.slot-1).toNat 1).num=dV w) (fun _ w hw=>by rw [hf] at hw;cases hw) fun k _=>H.full k
 ·intro s hs'
  refine H.aX s ?_
  by_cases hx:s=w0.slot
  ·rw [hx,r5];simp
  ·simp only [if_neg hx] at hs';exact hs'
 ·exact aD (P:=fun k (h:Th)=>∀m∈h.l.notes,(e=3∨e=5→m.aX=p.aX m.ref.slot)∧(e≠2→m.cO≤p.aB)) (by rw [h3];exact H.cO i) fun k _=>H.cO k
 ·exact aD (P:=fun k (h:Th)=>k<n→∀o b,h.t=.dU o b→e≠4→b=p.aX o.slot) (fun _ o b hb=>absurd hb (hr o b)) fun k _=>H.rb k
 ·refine aD (P:=fun k (h:Th)=>k<n→∀w,h.cZ p.aB=some w→(if w.slot=w0.slot then iy.lost else own w.slot).rC∧p.gen (w.slot-1).toNat=w.gen∧qD e p (bA T i h') A k w.slot) (fun _ w hw=>by rw [hp] at hw;cases hw) fun k hk hkn w hw=>?_
  obtain ⟨a,b,c,d⟩:=H.held k hkn w hw
  refine ⟨?_,b,c,aD (P:=fun _ (h:Th)=>NK e (ik e p k) (A k) (jI e k) h w.slot) ((d i).calm h3 hcm) fun j _=>d j⟩
  by_cases hx:w.slot=w0.slot
  ·rw [if_pos hx];exact ⟨by simp,by simp⟩
  ·rw [if_neg hx];exact a
 ·intro e4;omega
end
end Go.Proofs.YthomdlajobnmnaaDoor
