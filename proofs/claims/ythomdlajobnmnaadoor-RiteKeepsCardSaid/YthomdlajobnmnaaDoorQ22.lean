/- part 22 of the proof -/
import Derived.Tactics
import Derived.Tactics2
import Derived.Deep.LoopGhost
import Derived.Maps.AppendAt
import Derived.Test.YthomdlajobnmnaaDoorQ18
import Derived.Test.YthomdlajobnmnaaDoorQ21
set_option linter.unusedSimpArgs false
set_option linter.unusedVariables false
set_option linter.unusedSimpArgs false
set_option linter.unusedVariables false
namespace Go.Proofs.YthomdlajobnmnaaDoor
open Go.RowKit Go.Rex
theorem MI (w:World):Calls Tryd.prog 48 #[] w fun e w'=>e=.returned (.int .i64 85)∧w'=w:=by
 go_enter Tryd.func48,Tryd.ntmps48
 go_wp2
 go_ret
 exact ⟨rfl,rfl⟩
def tF:eu:={f:=49,nv:=0,args:=[],hp:=[],jP:=0,ret:=.w (.agg [.int .i64 (.lit 0),.int .i64 (.lit 0),.int .i64 (.lit 24)]),hp':=[]}
noncomputable def V6:Ex:={sched:=sched,loops:=[],cons:=[],fin:=tF}
theorem Uf:exec tab V6 1000 [] (fV tF.f tF.nv [] tF.gl tF.hp tF.args)=.fin {lo:=0,az:=0}:=by kernel_rfl
theorem Ug:bC Tryd.prog tF (fun _=>True) (fun _=>True) :=
 dJ fu (E:=V6) (cs:=[]) rfl (fun k pre post h=>by cases h) di rfl Uf (by kernel_rfl) (fun ρ _ p hp=>by cases hp) (fun ρ _=>Sat.fin trivial)
theorem Rq (w:World):Calls Tryd.prog 49 #[] w fun e w'=>e=.returned (.agg #[.int .i64 0,.int .i64 0,.int .i64 24])∧Nw w w':=by
 refine Calls.mono (Ug.run Ro (fun _=>⟨0,0,none⟩) w ME ⟨fun g k _ h=>(by cases h),fun g g' k k' _ _ h=>(by cases h)⟩ trivial) ?_
 rintro e w' ⟨ρ,ν,hA,rfl,jR,hwr,how,-⟩
 exact ⟨rfl,hwr.os,hwr.tape,hwr.output,hwr.size,fun k hk _=>hwr.block k hk fun ⟨j,sb,hj,_⟩=>by
   have hj:([]:List SB)[j]?=some sb:=hj
   simp at hj⟩
section
variable {w w':World} {aP a:Addr} {aM:Nat→Addr} {n k:Nat} {p:PS} {M:Nat→Mn} {m:Mn} {F B:Nat→Prop}
theorem ni.nil (h:mf w aP p B):ni w aP aM 0 p M B :=
 ⟨B,fun _ _=>False,h,fun k hk=>absurd hk (Nat.not_lt_zero k),fun k hk=>absurd hk (Nat.not_lt_zero k),fun j k hj=>absurd hj (Nat.not_lt_zero j),fun _ h=>h,fun k hk=>absurd hk (Nat.not_lt_zero k)⟩
theorem ni.add (h:ni w aP aM n p M F) (hm:pQ w a m B) (hd:∀b,B b→¬F b):ni w aP (bT aM n a) (n+1) p (bT M n m) (fun b=>F b∨B b):=by
 obtain ⟨BP,BM,h1,h2,h3,h4,h5,h6⟩:=h.ex
 refine ⟨BP,bT BM n B,h1,fun k hk=>?_,fun k hk b=>?_,fun j k hj hk hjk b=>?_,fun b hb=>.inl (h5 b hb),fun k hk b=>?_⟩
 ·by_cases hkn:k=n
  ·rw [hkn,aS,aS,aS];exact hm
  ·rw [bH _ _ hkn,bH _ _ hkn,bH _ _ hkn];exact h2 k (by omega)
 ·by_cases hkn:k=n
  ·rw [hkn,aS];exact fun x y=>hd b x (h5 b y)
  ·rw [bH _ _ hkn];exact h3 k (by omega) b
 ·by_cases q1:j=n
  ·have q2:k≠n:=fun e=>hjk (q1.trans e.symm)
   rw [q1,aS,bH _ _ q2]
   exact fun x y=>hd b x (h6 k (by omega) b y)
  ·rw [bH _ _ q1]
   by_cases q2:k=n
   ·rw [q2,aS]
    exact fun x y=>hd b y (h6 j (by omega) b x)
   ·rw [bH _ _ q2]
    exact h4 j k (by omega) (by omega) hjk b
 ·by_cases hkn:k=n
  ·rw [hkn,aS];exact .inr
  ·rw [bH _ _ hkn];exact fun x=>.inl (h6 k (by omega) b x)
end
theorem Nw.trans {a b c:World} (h1:Nw a b) (h2:Nw b c):Nw a c :=
 ⟨h2.os.trans h1.os,h2.tape.trans h1.tape,h2.output.trans h1.output,Nat.le_trans h1.size h2.size,fun k hk _=>(h2.block k (Nat.lt_of_lt_of_le hk h1.size) id).trans (h1.block k hk id)⟩
theorem Pk {a b c:World} {F:Nat→Prop} (h1:Nw a b) (h2:lM b F c) (hF:∀x,F x→a.heap.size≤x):Nw a c :=
 ⟨h2.os.trans h1.os,h2.tape.trans h1.tape,h2.output.trans h1.output,Nat.le_trans h1.size h2.size,fun k hk _=>(h2.block k (Nat.lt_of_lt_of_le hk h1.size) fun h=>absurd (hF k h) (Nat.not_le.2 hk)).trans (h1.block k hk id)⟩
def uy:Ac:=⟨2,0,0,24,⟨0,0,0,0,false⟩,⟨0,0,0,1,false⟩⟩
theorem FL {p:PS} {m:Int} (h:ry p 85 m):∃p',p.act uy=(p',some ⟨Wd.zero,true⟩)∧p'={p with steps:=p.steps+1,bd:=fun b=>if b=24 then ⟨0,0,0,1,false⟩ else p.bd b}:=by
 have hv:p.has 0 0 24:=by simp [PS.has,h.nb]
 refine ⟨_,y7 hv (.inl rfl),?_⟩
 unfold PS.put
 rw [if_pos rfl]
 rfl
theorem Uh:(Tryd.prog.info? 56).map (fun i=>(i.zero,i.size,i.bytes))=some (some (.pointer none),1,8):=by kernel_rfl
theorem qM.nw {w w':World} {iI:Nat→Addr} (h:qM w iI) (hz:∀k,k<8→(iI k).block<w.heap.size) (hn:Nw w w'):qM w' iI :=
 h.frame hn.size fun k hk=>hn.block _ (hz k hk) id
theorem V7 {w w':World} {base:Nat} {e:TypeId} {size:Nat} {v:Value} {n:Nat} {xs:List Value} (h:w.ownsRow base e size v n xs) (hn:Nw w w'):w'.ownsRow base e size v n xs:=by
 obtain ⟨h1,h2 | ⟨g,cap,cur,h2,h3,h4,h5⟩⟩:=h
 ·exact ⟨h1,.inl h2⟩
 ·refine ⟨h1,.inr ⟨g,cap,cur,h2,h3,?_,h5⟩⟩
  rw [hn.block g ?_ id]
  ·exact h4
  ·rcases Nat.lt_or_ge g w.heap.size with h | h
   ·exact h
   ·rw [Array.getElem?_eq_none h] at h4;cases h4
theorem Ui {w0 w w':World} {row:Option Nat} (h:Nw w0 w) (hg:w.grownBy w' row) (hr:∀g,row=some g→w0.heap.size≤g):Nw w0 w' :=
 h.step hg.os hg.tape hg.output hg.size fun k hk _=>hg.block k (Nat.lt_of_lt_of_le hk h.size) fun e=>by have:=hr k e.symm;omega
theorem Jl (w:World) (o:Obj):(w.alloc o).heap[w.heap.size]?=some o:=by
 show (w.heap.push o)[w.heap.size]?=some o
 simp
structure BI (w0 w:World) (aP:Addr) (E N:Int) (n j:Nat) (p:PS) (s:Value):Prop where
 ex:∃aM F,ni w aP aM j p (fun i=>Mn.new E i n N) F∧w.ownsRow w0.heap.size 56 1 s j ((List.range j).map fun i=>.pointer (some (aM i)))∧∀b,F b→w0.heap.size≤b∧b<w.heap.size∧s.ownBlock≠some b
 nw:Nw w0 w
set_option maxHeartbeats 4000000 in
set_option maxRecDepth 100000 in
theorem Pm (E N m:Int) (n:Nat) (h1:1≤E∧E≤5) (h3:1≤n∧n≤6) (h4:1≤N∧N≤64) (h:0≤m∧m≤1024) (w:World) (iI:Nat→Addr) (hs:qM w iI) (hz:∀k,k<8→(iI k).block<w.heap.size) :
  Calls Tryd.prog 21 #[.int .i64 E,.int .i64 n,.int .i64 N,.int .i64 m] w fun e w'=>∃aP g c p p0,e=.returned (.tuple #[.pointer (some aP),.slice (some ⟨g,0,none⟩) n c])∧BI w w' aP E N n n p (.slice (some ⟨g,0,none⟩) n c)∧ry p0 85 m∧p0.act uy=(p,some ⟨Wd.zero,true⟩):=by
 obtain ⟨i0,hi,hy0,hy1,hy2⟩:=info_parts Uh
 have hc:=MI w
 have hp:=MF m h w
 have A0:Aside ((1≤E∧E≤5)∧(1≤n∧n≤6)∧(1≤N∧N≤64)∧(0≤m∧m≤1024)∧qM w iI∧∀k,k<8→(iI k).block<w.heap.size):=⟨h1,h3,h4,h,hs,hz⟩
 clear h1 h3 h4 h hs hz
 go_enter Tryd.func21,Tryd.ntmps21
 go_wp2_with (go_at_call 48;(with_reducible refine hc.mono ?_);rintro ev w1 ⟨rfl,rfl⟩)
 go_wp2_with (go_at_call 13;(with_reducible refine hp.mono ?_);intro ev w2 hp2;obtain ⟨aP,p0,B,rfl,FM,hF,hB,hw⟩:=hp2)
 have he:=Rq w2
 have A1:Aside (mf w2 aP p0 B∧ry p0 85 m∧(∀b,B b→w1.heap.size≤b)∧Nw w1 w2):=⟨FM,hF,hB,hw⟩
 clear hp hc FM hF hB hw
 go_wp2_with (go_at_call 49;(with_reducible refine he.mono ?_);rintro ev w3 ⟨rfl,hw3⟩)
 obtain ⟨FM,hF,hB,hw⟩:=A1.out
 obtain ⟨h1,h3,h4,h,hs,hz⟩:=A0.out
 obtain ⟨p,hact,hp⟩:=FL hF
 have V8:=(FM.mono (B':=fun b=>B b∧b<w2.heap.size) fun b x y=>⟨x,y⟩).frame (w':=w3) fun b hb=>hw3.block b hb.2 id
 have hd:=WE (a:=uy) (hs.nw hz (hw.trans hw3)) V8 (fun k hk hb=>absurd (hB _ hb.1) (Nat.not_le.2 (hz k hk))) (hF.ok h ⟨by decide,by decide⟩) (by rw [hF.steps];decide) hact
 rw [show MG uy=.agg #[.int .i64 2,.int .i64 0,.int .i64 0,.int .i64 24,.int .i64 0,.int .i64 0,.int .i64 0,.int .i64 0,.bool false,.int .i64 0,.int .i64 0,.int .i64 0,.int .i64 1,.bool false] from rfl] at hd
 have A2:Aside ((ry p0 85 m∧p0.act uy=(p,some ⟨Wd.zero,true⟩))∧(∀b,B b→w1.heap.size≤b)∧Nw w1 w3):=⟨⟨hF,hact⟩,hB,hw.trans hw3⟩
 clear FM hF hB hw h1 h3 h4 h hs hz hact hp V8 hw3 A1 he
 go_wp2_with (go_at_call 14;(with_reducible refine hd.mono ?_);intro ev w4 YH;obtain ⟨rfl,B',FM,hB',hw4⟩:=YH)
 have A3:Aside (mf w4 aP p B'∧(∀b,B' b→w1.heap.size≤b)∧Nw w1 w4):=by
  obtain ⟨-,q2,q3⟩:=A2.out
  refine ⟨FM,fun b hb=>?_,Pk q3 hw4 fun x hx=>q2 x hx.1⟩
  rcases hB' b hb with h | h
  ·exact Nat.le_trans q3.size h
  ·exact q2 b h.1
 clear FM hB' hw4 hd
 go_loopg [12,13] n (fun k s i wr=>∃j:Nat,i=.int .i64 j∧j+k=n∧Aside (BI w1 wr aP E N n j p s))
 case atStart =>
  obtain ⟨q1,q2,q3⟩:=A3.out
  refine ⟨0,rfl,by omega,⟨fun _=>⟨0,0,none⟩,fun b=>B' b∧b<w4.heap.size,ni.mono ((ni.nil (q1.mono (B':=fun b=>B' b∧b<w4.heap.size) fun b x y=>⟨x,y⟩)).frame fun b hb _=>heap_alloc_old _ _ hb) fun b x _=>x,⟨rfl,.inr ⟨w4.heap.size,0,#[],rfl,q3.size,Jl _ _,Nat.le_refl _,Nat.zero_le _,rfl,rfl⟩⟩,fun b hb=>⟨q2 b hb.1,?_,fun e=>?_⟩⟩,q3.alloc _⟩
  ·have:=hb.2
   simp
   omega
  ·have e:=Option.some.inj e
   have:=hb.2
   simp at e
   omega
 case round =>
  obtain ⟨j,rfl,hjk,hY⟩:=hrel
  rcases Nat.lt_or_ge j n with hlt | hge
  ·have hlt':(j:Int)<(n:Int):=by omega
   obtain ⟨⟨aM,F,pR,hown,hF⟩,hnw⟩:=hY.out
   have hr:=MH E j n N A0.out.1 ⟨by omega,by omega⟩ (by have:=A0.out.2.1;omega) A0.out.2.2.1 wr
   generalize hxs:(List.range j).map (fun i=>Value.pointer (some (aM i)))=xs at hown
   have A4:Aside ((j+gk=n∧j<n∧(List.range j).map (fun i=>Value.pointer (some (aM i)))=xs)∧ni wr aP aM j p (fun i=>Mn.new E i n N) F∧(∀b,F b→w1.heap.size≤b∧b<wr.heap.size∧u12.ownBlock≠some b)∧Nw w1 wr):=⟨⟨hjk,hlt,hxs⟩,pR,hF,hnw⟩
   have hsz:=hnw.size
   have YU:j<6:=by have:=A0.out.2.1;omega
   clear hjk hlt hxs pR hF hnw hY
   go_wp2_with (first
     | (go_at_call 30;(with_reducible refine hr.mono ?_);intro ev w5 YI;obtain ⟨ρ,ν,rfl,hR,KG⟩:=YI)
     | (at_builtin;refine wpList_append_own_at _ rfl _ _ 53 rfl w1.heap.size 56 i0 (.pointer none) 1 8 Tryd.underlying53 hi hy0 hy1 hy2 rfl (by decide) _ _ _ rfl (((V7 hown KG).alloc _).alloc _) _ 1 1 [.pointer (some ⟨w5.heap.size,0,none⟩)] rfl rfl ?c1 ?c2 ?c3 ?c4 ?c5 ?_)
     | fail)
   case c1 =>
    intro i u hi'
    match i,hi' with
    | 0,hi'=>simp at hi';subst hi';simp [Addr.add]
    | i+1,hi'=>simp at hi'
   case c2=>intro u hu;simp at hu;subst hu;rfl
   case c3=>unfold maxLen;omega
   case c4=>omega
   case c5 =>
    have:=KG.size
    simp
    omega
   ·intro v' w6 hown' hgrow _ hat
    obtain ⟨⟨q1,q2,q3⟩,pR,hF,hnw⟩:=A4.out
    obtain ⟨Pn,hR2,Xq,Sz⟩:=hR
    have V9:=KG.size
    have MJ:∀b,b<w5.heap.size+1→u12.ownBlock≠some b→w6.heap[b]?=(w5.alloc (.cells #[.pointer (some (ν 0)),.int .i64 0,.int .i64 0,.int .i64 0,.int .i64 0,.int .i64 0,.bool false,.int .i64 0,.int .i64 0,.int .i64 0,.int .i64 0,.bool false,.bool false,.bool false] 60)).heap[b]?:=fun b hb hn=>by
     rw [hgrow.block b (by simp;omega) fun e=>hn e.symm]
     exact heap_alloc_old _ _ (by simp;omega)
    have hlt:=hown.lt
    have hold:∀b,wr.heap.size≤b→u12.ownBlock≠some b:=fun b hb e=>absurd (hlt b e).2 (Nat.not_lt.2 hb)
    have h6:w5.heap.size+2≤w6.heap.size:=by
     have:=hgrow.size
     simp at this
     omega
    have SE:ni w6 aP aM j p (fun i=>Mn.new E i n N) F:=pR.frame fun b hb We=>by
     rw [MJ b (by omega) (hF b We).2.2,heap_alloc_old _ _ (by omega)]
     exact KG.block b hb id
    have Xr:aL ρ ν mh w6:=Pn.Jk Sw fun b hb=>by
     have h1:=Sz b hb
     have h2:=tu Pn hb
     rw [MJ b (by omega) (hold b h1),heap_alloc_old _ _ h2]
    have Xt:=Ud Xr hR2 Xq (fun h=>absurd (tu Pn h) (Nat.lt_irrefl _)) (by
      rw [MJ _ (by omega) (hold _ V9)]
      exact Jl _ _)
    have hadd:=SE.add Xt fun b hb We=>by
     have h1:=(hF b We).2.1
     rcases hb with rfl | hb
     ·omega
     ·have:=Sz b hb
      omega
    have hY:BI w1 w6 aP E N n (j+1) p v':=by
     refine ⟨⟨bT aM j ⟨w5.heap.size,0,none⟩,_,cast (congrArg (fun M=>ni w6 aP (bT aM j ⟨w5.heap.size,0,none⟩) (j+1) p M _) ?_) hadd,?_,fun b hb=>?_⟩,Ui ((hnw.trans KG).alloc _ |>.alloc _) hgrow fun g hg=>?_⟩
     ·exact Jg (fun i:Nat=>Mn.new E i n N) j
     ·have e:(List.range (j+1)).map (fun i=>Value.pointer (some (bT aM j ⟨w5.heap.size,0,none⟩ i)))=xs ++ [.pointer (some ⟨w5.heap.size,0,none⟩)]:=by
       rw [List.range_succ,List.map_append,List.map_cons,List.map_nil,aS,←q3]
       congr 1
       refine List.map_congr_left fun i hi=>?_
       rw [bH _ _ (Nat.ne_of_lt (List.mem_range.1 hi))]
      rw [e]
      exact hown'
     ·have J2:b<w5.heap.size+2→u12.ownBlock≠some b→v'.ownBlock≠some b:=fun h1 h2 h3=>by
       rcases hat with h | h
       ·exact h2 (h.symm.trans h3)
       ·rw [h,Option.some.injEq] at h3
        omega
      rcases hb with hb | rfl | hb
      ·obtain ⟨a1,a2,a3⟩:=hF b hb
       exact ⟨a1,by omega,J2 (by omega) a3⟩
      ·exact ⟨by omega,by omega,J2 (by omega) (hold _ V9)⟩
      ·have a1:=Sz b hb
       have a2:=tu Pn hb
       exact ⟨by omega,by omega,J2 (by omega) (hold _ a1)⟩
     ·exact (hlt g hg).1
    have A5:Aside (BI w1 w6 aP E N n (j+1) p v'):=hY
    clear hY hadd Xt Xr SE h6 hold hlt MJ V9 Pn hR2 Xq Sz pR hF hnw hown' hgrow hat hown hr KG
    go_wp2
    go_roundg (gk-1)
    case measure=>omega
    case rel=>exact ⟨j+1,by go_num,by omega,A5.out⟩
  ·have hlt':¬(j:Int)<(n:Int):=by omega
   have hjn:j=n:=by omega
   subst hjn
   have A4:Aside (BI w1 wr aP E N j j p u12):=hY.out
   obtain ⟨g,c,rfl⟩:∃g c,u12=.slice (some ⟨g,0,none⟩) j c:=by
    obtain ⟨⟨aM,F,-,hown,-⟩,-⟩:=hY.out
    obtain ⟨-,h2 | ⟨g,cap,cur,h2,-⟩⟩:=hown
    ·have:=A0.out.2.1
     omega
    ·exact ⟨g,cap,h2⟩
   clear hY
   go_wp2
   go_ret2
   obtain ⟨⟨q1,q2⟩,-⟩:=A2.out
   exact ⟨aP,g,c,rfl,p,A4.out,p0,q1,q2⟩
end Go.Proofs.YthomdlajobnmnaaDoor
set_option linter.unusedSimpArgs false
set_option linter.unusedVariables false
set_option linter.unusedSimpArgs false
set_option linter.unusedVariables false
namespace Go.Proofs.YthomdlajobnmnaaDoor
open Go.RowKit Go.Rex
def xm:List SB:=jd 27 nN 0
structure oM (w:World) (ν:Nat→Addr):Prop where
 hp:∃ρ,aL ρ ν xm w
 gl:jr ν (gH nN 0)
def gS (k:Nat):Nat:=if k<2 then k else k+4
theorem mO:(List.range iH.length).map (fun j=>xm[gS j]?)=iH.map fun sb=>some (sb.aT id gS):=by kernel_rfl
theorem Wh:∀i j,i<iH.length→j<iH.length→gS i=gS j→i=j:=by
 intro i j _ _ h
 unfold gS at h
 split at h <;> split at h <;> omega
theorem YJ (ν:Nat→Addr) (h:jr ν (gH nN 0)):jr (fun k=>ν (gS k)) (gH Ag 0):=by
 have hm:∀g k,assoc g (gH Ag 0)=some k→assoc g (gH nN 0)=some (gS k):=fun g k hk=>by
  have hmem:=jM hk
  have:∀x∈gH Ag 0,assoc x.1 (gH nN 0)=some (gS x.2):=by decide
  exact this _ hmem
 exact ⟨fun g k hg hk=>h.at_ g _ hg (hm g k hk),fun g g' k k' h1 h2 h3 h4=>h.ne g g' _ _ h1 h2 (hm _ _ h3) (hm _ _ h4)⟩
theorem oM.sn {w:World} {ν:Nat→Addr} (h:oM w ν):qM w fun k=>ν (gS k):=by
 obtain ⟨⟨ρ,h1⟩,h2⟩:=h
 exact ⟨⟨ρ.pull id,h1.sub mO Wh⟩,YJ ν h2⟩
theorem oM.lt {w:World} {ν:Nat→Addr} (h:oM w ν) {k:Nat} (hk:k<12):(ν k).block<w.heap.size:=by
 obtain ⟨⟨ρ,h1⟩,h2⟩:=h
 have hl:k<xm.length:=hk
 have hd:∀sb∈xm,sb.dead ρ=false:=by
  have hg:(xm.all fun b=>!b.gone && (match b.nl with | .lit false=>true | _=>false))=true:=by kernel_rfl
  intro sb hsb
  have:=List.all_eq_true.1 hg sb hsb
  simp only [Bool.and_eq_true,Bool.not_eq_true'] at this
  obtain ⟨a,b⟩:=this
  unfold SB.dead
  rw [a]
  split at b
  ·rename_i he
   rw [he]
   rfl
  ·cases b
 exact h1.lt (List.getElem?_eq_getElem hl) (hd _ (List.getElem_mem hl))
theorem oM.nw {w w':World} {ν:Nat→Addr} (h:oM w ν) (hn:Nw w w'):oM w' ν:=by
 have hl:=fun k hk=>h.lt (k:=k) hk
 obtain ⟨⟨ρ,h1⟩,h2⟩:=h
 exact ⟨⟨ρ,h1.DX hn.size fun k sb hk _=>hn.block _ (hl k (List.getElem?_eq_some_iff.1 hk).1) id⟩,h2⟩
theorem MK {w:World} {ν:Nat→Addr} (h:oM w ν):Calls Tryd.prog 20 #[] w fun e w'=>e=.returned (.bool true)∧Nw w w':=by
 obtain ⟨⟨ρ,h1⟩,h2⟩:=h
 refine Calls.mono (Mq.run ρ ν w h1 h2 trivial) ?_
 rintro e w' ⟨ρ',aN,hA,rfl,jR,hwr,how,-⟩
 exact ⟨rfl,hwr.os,hwr.tape,hwr.output,hwr.size,fun k hk _=>hwr.block k hk fun h=>BG (by kernel_rfl) h⟩
theorem Nw.zS {w w':World} (h:Nw w w') {a:Addr} {x:Value} (hc:w.cell? a=some x):w'.cell? a=some x:=by
 rw [←hc]
 unfold World.cell?
 rw [h.block _ (World.block_lt_of_cell? _ _ hc) id]
def Rd (w:World) (v:Value) (l:List Int):Prop :=
 ∃A c,v=.slice A l.length c∧l.length≤c∧c≤9223372036854775807∧∀k,k<l.length→∃ad,A=some ad∧w.cell? (ad.add k)=some (.int .i64 (l.getD k 0))
theorem Rd.nw {w w':World} {v:Value} {l:List Int} (h:Rd w v l) (hn:Nw w w'):Rd w' v l:=by
 obtain ⟨A,c,h1,h2,h3,h4⟩:=h
 refine ⟨A,c,h1,h2,h3,fun k hk=>?_⟩
 obtain ⟨ad,h5,h6⟩:=h4 k hk
 exact ⟨ad,h5,hn.zS h6⟩
def Jm (m:Nat):List (Bool × List FK):=[(true,List.replicate m (.int .i64)),Vn]
theorem WG {ρ:Env} {ν:Nat→Addr} {w:World} {b k:Nat} {H:List SB} (hp:aL ρ ν H w) (hb:H[k]?=some {t:=3,aV:=[{r:=b+3,n1:=.var (b+1),s1:=1,ks:=[.int .i64]}],ro:=true,nl:=.var b})
  (h:(ρ.bv b=true→ρ.iv (b+1)=0∧ρ.iv (b+2)=0)∧0≤ρ.iv (b+1)∧ρ.iv (b+1)≤ρ.iv (b+2)∧ρ.iv (b+2)≤9223372036854775807) :
  Rd w (SC.den ρ ν (.eX (.var b) {aH:=k,i1:=.lit 0,s1:=1} (.var (b+1)) (.var (b+2)))) ((List.range (ρ.iv (b+1)).toNat).map fun i=>ρ.ic (b+3) i 0 0):=by
 obtain ⟨h1,h2,h3,h4⟩:=h
 have hlen:((List.range (ρ.iv (b+1)).toNat).map fun i=>ρ.ic (b+3) i 0 0).length=(ρ.iv (b+1)).toNat:=by simp
 have hden:SC.den ρ ν (.eX (.var b) {aH:=k,i1:=.lit 0,s1:=1} (.var (b+1)) (.var (b+2)))=if ρ.bv b=true then .slice none 0 0 else .slice (some (ν k)) (ρ.iv (b+1)).toNat (ρ.iv (b+2)).toNat:=by
  simp [SC.den,BE.den,IE.den,SA.den,SA.off,Addr.add_zero]
 cases hnil:ρ.bv b with
 | true =>
  obtain ⟨z1,z2⟩:=h1 hnil
  refine ⟨none,0,?_,?_,by omega,fun j hj=>?_⟩
  ·rw [hden,hlen,z1,if_pos hnil]
   rfl
  ·rw [hlen,z1]
   decide
  ·rw [hlen,z1] at hj
   exact absurd hj (Nat.not_lt_zero _)
 | false =>
  refine ⟨some (ν k),(ρ.iv (b+2)).toNat,?_,?_,by omega,fun j hj=>⟨ν k,rfl,?_⟩⟩
  ·rw [hden,hlen,hnil,if_neg (by decide)]
  ·rw [hlen]
   omega
  ·rw [hlen] at hj
   obtain ⟨-,cs,hcs,hcell⟩:=hp.rd k _ hb (by simp [SB.dead,BE.den,hnil]) rfl
   have:=hcs.sg 0 _ rfl j 0 0 (by show (j:Int)<ρ.iv (b+1);omega) (by show 0<1;decide) (by show 0<1;decide)
   have h0:=hcell _ _ this
   simp only [Nat.mul_one,Nat.zero_mul,Nat.add_zero] at h0
   rw [h0]
   simp [bY,aa.base,hj]
theorem JB (l:List SB):pz (l.map fun _=>dA)=true:=by
 induction l with
 | nil=>rfl
 | cons x r ih=>simpa [pz,dA] using ih
theorem Wi {f:FuncId} {sh:List (Bool × List FK)} (hf:∃fn,Tryd.prog.funcs[f]?=some fn∧fn.body.isSome=true∧(fn.name == "runtime.NumGoroutine")=false)
  (hrun:∀ρ ν w,aL ρ ν (iC 27 nN f sh).hp w→oM w ν→yJ sh ρ.num→Calls Tryd.prog f ((iC 27 nN f sh).args.map (·.den ρ ν)).toArray w fun e w'=>e=.returned (.bool true)∧Nw w w') :
  bC Tryd.prog (iC 27 nN f sh) (yJ sh) (wN nN sh):=by
 refine ⟨hf,fun ρ ν w jR hgl hpre=>?_⟩
 have YK:oM w ν:=by
  refine ⟨⟨ρ,?_⟩,hgl⟩
  have e:∀(k:Nat) (sb:SB),xm[k]?=some sb→(iC 27 nN f sh).hp[k]?=some sb:=fun k sb hk=>by
   show (xm ++ _)[k]?=some sb
   rw [List.getElem?_append_left (List.getElem?_eq_some_iff.1 hk).1]
   exact hk
  exact ⟨fun i j a b hi hj=>jR.inj i j a b (e i a hi) (e j b hj),fun k sb hk=>jR.aH k sb (e k sb hk),fun k sb hk=>jR.rd k sb (e k sb hk)⟩
 refine (hrun ρ ν w jR YK hpre).mono ?_
 rintro e w' ⟨rfl,hw⟩
 obtain ⟨N,hN⟩:∃N,N=(iC 27 nN f sh).nv:=⟨_,rfl⟩
 have hd:∀(j:Nat) (sb:SB),(iC 27 nN f sh).hp'[j]?=some sb→∀q:Env,sb.dead q=true:=fun j sb hj q=>by
  unfold SB.dead
  rw [wM (JB _) hj]
  rfl
 refine ⟨{ρ with bv:=fun i=>if i=N then true else ρ.bv i},ν,⟨fun _ _=>rfl,fun i hi=>if_neg (by omega),fun _ _=>rfl,fun _ _=>rfl,fun _ _=>rfl,fun _ _=>rfl,fun _ _=>rfl⟩,?_,⟨fun i j a b hi hj da=>?_,fun j sb hj dj=>?_,fun j sb hj dj=>?_⟩,⟨hw.os,hw.tape,hw.output,hw.size,fun k hk _=>hw.block k hk id⟩,fun j sb hj _ dj=>?_,?_⟩
 ·show Ending.returned (.bool true)=.returned (.bool (if (iC 27 nN f sh).nv=N then true else _))
  rw [if_pos hN.symm]
 ·rw [hd i a hi] at da;cases da
 ·rw [hd j sb hj] at dj;cases dj
 ·rw [hd j sb hj] at dj;cases dj
 ·rw [hd j sb hj] at dj;cases dj
 ·show (if (iC 27 nN f sh).nv=N then true else _)=true
  rw [if_pos hN.symm]
theorem X0 {f:FuncId} (hf:∃fn,Tryd.prog.funcs[f]?=some fn∧fn.body.isSome=true∧(fn.name == "runtime.NumGoroutine")=false)
  (h:∀w ν a0 a1 a2 a3 v l,oM w ν→Rd w v l→Calls Tryd.prog f #[.agg #[.int .i64 a0,.int .i64 a1,.int .i64 a2,.int .i64 a3],v] w fun e w'=>e=.returned (.bool true)∧Nw w w') :
  bC Tryd.prog (iC 27 nN f (Jm 4)) (yJ (Jm 4)) (wN nN (Jm 4)) :=
 Wi hf fun ρ ν w jR hs hpre=>h w ν (ρ.iv 0) (ρ.iv 1) (ρ.iv 2) (ρ.iv 3) _ _ hs (WG (b:=4) (k:=12) jR rfl (by
   replace hpre:_∧_∧_∧_∧((ρ.bv 4=true→ρ.iv 5=0∧ρ.iv 6=0)∧0≤ρ.iv 5∧ρ.iv 5≤ρ.iv 6∧ρ.iv 6≤9223372036854775807∧_)∧_:=hpre
   obtain ⟨-,-,-,-,⟨h1,h2,h3,h4,-⟩,-⟩:=hpre
   exact ⟨h1,h2,h3,h4⟩))
end Go.Proofs.YthomdlajobnmnaaDoor
set_option linter.unusedSimpArgs false
set_option linter.unusedVariables false
set_option linter.unusedSimpArgs false
set_option linter.unusedVariables false
namespace Go.Proofs.YthomdlajobnmnaaDoor
open Go.RowKit Go.Rex
theorem pQ.cells {w:World} {a:Addr} {m:Mn} {B:Nat→Prop} (h:pQ w a m B):∃b r,a=⟨b,0,none⟩∧w.cell? ⟨b,0,none⟩=some (.pointer (some r))∧w.cell? ⟨b,1,none⟩=some (.int .i64 m.pc)∧w.cell? ⟨b,12,none⟩=some (.bool m.bad)∧w.cell? ⟨b,13,none⟩=some (.bool m.stop)∧B b:=by
 obtain ⟨ρ,ν,rfl,h1,rfl,h3,h4⟩:=h.ex
 obtain ⟨g1,cs,g2,g3⟩:=h1.aH 0 _ rfl rfl rfl
 have g2:=g2.cells rfl
 have hc:∀(p:Nat) (c:SC),(Ah 71 1).cs[p]?=some c→c.isHole=false→w.cell? ⟨(ν 0).block,p,none⟩=some (c.den ρ ν):=fun p c hp hh=>by
  have:=g3.ex p c hp hh
  unfold World.cell?
  rw [g2]
  exact this
 exact ⟨(ν 0).block,_,g1,hc 0 _ rfl rfl,hc 1 _ rfl rfl,hc 12 _ rfl rfl,hc 13 _ rfl rfl,h4 _ ⟨0,_,rfl,rfl,rfl⟩⟩
theorem mf.fault {w:World} {a:Addr} {p:PS} {B:Nat→Prop} (h:mf w a p B) (hg:p.gN=true):∃b,a=⟨b,0,none⟩∧w.cell? ⟨b,5,none⟩=some .nilIface:=by
 obtain ⟨ρ,ν,rfl,h1,rfl,h3,h4⟩:=h.ex
 obtain ⟨g1,cs,g2,g3⟩:=h1.aH 0 _ rfl rfl rfl
 have g2:=g2.cells rfl
 refine ⟨(ν 0).block,g1,?_⟩
 have:=g3.ex 5 _ rfl rfl
 unfold World.cell?
 rw [g2]
 refine this.trans (congrArg some ?_)
 show (if ρ.bv 7=true then Value.nilIface else _)=_
 exact if_pos hg
theorem ML {w:World} {b:Nat} (h:w.cell? ⟨b,5,none⟩=some .nilIface):Calls Tryd.prog 17 #[.pointer (some ⟨b,0,none⟩)] w fun e w'=>e=.returned .nilIface∧w'=w:=by
 go_enter Tryd.func17,Tryd.ntmps17
 go_wp2
 go_ret
 exact ⟨rfl,rfl⟩
structure jZ (w1:World) (aP:Addr) (aM:Nat→Addr) (g n:Nat) (e k:Int) (w:World) (p:PS) (T:Nat→Th) (own:Int→iV) (A:Nat→Int) (M:Nat→Mn):Prop where
 sys:Sys k n e p T own A M
 Wj:∃F,ni w aP aM n p M F∧∀b,F b→w1.heap.size≤b∧b≠g
 row:∀i,i<n→w.cell? ⟨g,i,none⟩=some (.pointer (some (aM i)))
 nw:Nw w1 w
theorem Po {p0 p:PS} {m E N:Int} {n:Nat} (h:ry p0 85 m) (ha:p0.act uy=(p,some ⟨Wd.zero,true⟩)) (hm:0≤m∧m≤1024) (h1:1≤E∧E≤5) (h3:1≤n∧n≤6) (h4:1≤N) :
  Sys 1 n E p (fun i=>Th.new E i n N) (fun _=>.free) (fun _=>1) (fun i=>Mn.new E i n N)∧p.ns=m:=by
 obtain ⟨p',hp,he⟩:=FL h
 rw [ha] at hp
 simp only [Prod.mk.injEq] at hp
 have hpe:p={p0 with steps:=p0.steps+1,bd:=fun b=>if b=24 then ⟨0,0,0,1,false⟩ else p0.bd b}:=hp.1.trans he
 have hok:p.OK:=by
  have:=(h.ok hm ⟨by decide,by decide⟩).act uy
  rw [ha] at this
  exact this
 refine ⟨Sys.init hok (by rw [hpe];exact h.nb) (by rw [hpe];exact h.gN) h3 h1 h4 (fun k hk=>?_) ?_ (fun k=>by rw [hpe];exact h.used k) (fun i j=>by rw [hpe];exact h.cell i j) ?_,by rw [hpe];exact h.ns⟩
 ·rw [hpe]
  exact (if_neg hk).trans (h.bd k)
 ·rw [hpe]
  rfl
 ·rw [hpe]
  show p0.steps+1≤1
  rw [h.steps]
  decide
theorem BI.run {w w':World} {aP:Addr} {E N m:Int} {n g c:Nat} {p p0:PS} (h:BI w w' aP E N n n p (.slice (some ⟨g,0,none⟩) n c)) (hf:ry p0 85 m) (ha:p0.act uy=(p,some ⟨Wd.zero,true⟩)) (hm:0≤m∧m≤1024) (h1:1≤E∧E≤5) (h3:1≤n∧n≤6) (h4:1≤N) :
  ∃aM,jZ w aP aM g n E 1 w' p (fun i=>Th.new E i n N) (fun _=>.free) (fun _=>1) (fun i=>Mn.new E i n N):=by
 obtain ⟨⟨aM,F,pR,hown,hF⟩,hnw⟩:=h
 refine ⟨aM,(Po hf ha hm h1 h3 h4).1,⟨F,pR,fun b hb=>⟨(hF b hb).1,fun e=>(hF b hb).2.2 (by rw [e];rfl)⟩⟩,fun i hi=>?_,hnw⟩
 have hc:=hown.cells (g:=g) rfl i (.pointer (some (aM i))) (by simp [hi])
 rw [←hc]
 congr 1
 unfold Addr.add
 split
 ·rename_i h;subst h;rfl
 ·simp
section
variable {w1 w:World} {aP:Addr} {aM:Nat→Addr} {g n i:Nat} {e k:Int} {p:PS} {T:Nat→Th} {own:Int→iV} {A:Nat→Int} {M:Nat→Mn} {ν:Nat→Addr}
theorem jZ.step (R:jZ w1 aP aM g n e k w p T own A M) (hi:i<n) (hk:k≤900000) (hs:oM w1 ν) :
  Calls Tryd.prog 22 #[.pointer (some (aM i)),.pointer (some aP)] w fun ev w'=>ev=.returned (.bool true)∧∃own' A',jZ w1 aP aM g n e (k+1) w' ((T i).step p).2.1 (bT T i ((T i).step p).1) own' A' (bT M i ((M i).step p).1):=by
 obtain ⟨F,pR,hF⟩:=R.Wj
 have hz:∀j,j<8→(ν (gS j)).block<w1.heap.size:=fun j hj=>hs.lt (by unfold gS;split <;> omega)
 have hsn:=hs.sn.nw hz R.nw
 obtain ⟨s1,s2,own',A',hS⟩:=R.sys.step hi
 refine (pR.step hi hsn (fun j hj hb=>absurd (hF _ hb).1 (Nat.not_le.2 (hz j hj))) ⟨k,n,e,T,own,A,i,hk,R.sys.gN hi⟩).mono ?_
 rintro ev w' ⟨rfl,WH,hwr⟩
 have hg:g<w.heap.size:=World.block_lt_of_cell? _ _ (R.row i hi)
 refine ⟨by rw [s1],own',A',⟨by rw [←s2];exact hS,⟨_,by rw [←s2];exact WH,fun b hb=>?_⟩,fun j hj=>?_,Pk R.nw hwr fun x hx=>(hF x hx).1⟩⟩
 ·rcases hb with hb | hb
  ·exact hF b hb
  ·exact ⟨Nat.le_trans R.nw.size hb,by omega⟩
 ·rw [←R.row j hj]
  unfold World.cell?
  rw [hwr.block g hg fun h=>(hF g h).2 rfl]
theorem jZ.mn (R:jZ w1 aP aM g n e k w p T own A M) (hi:i<n):∃b r,aM i=⟨b,0,none⟩∧w.cell? ⟨b,0,none⟩=some (.pointer (some r))∧w.cell? ⟨b,1,none⟩=some (.int .i64 (M i).pc)∧w.cell? ⟨b,12,none⟩=some (.bool (M i).bad)∧w.cell? ⟨b,13,none⟩=some (.bool (M i).stop):=by
 obtain ⟨F,pR,hF⟩:=R.Wj
 obtain ⟨BP,BM,h1,h2,-⟩:=pR.ex
 obtain ⟨b,r,q1,q2,q3,q4,q5,-⟩:=(h2 i hi).cells
 exact ⟨b,r,q1,q2,q3,q4,q5⟩
theorem jZ.fault (R:jZ w1 aP aM g n e k w p T own A M):∃b,aP=⟨b,0,none⟩∧w.cell? ⟨b,5,none⟩=some .nilIface:=by
 obtain ⟨F,pR,hF⟩:=R.Wj
 obtain ⟨BP,BM,h1,h2,-⟩:=pR.ex
 exact h1.fault R.sys.inv.gN
theorem jZ.X3 (R:jZ w1 aP aM g n e k w p T own A M) (hi:i<n) {b:Nat} (hb:aM i=⟨b,0,none⟩):w.cell? ⟨b,12,none⟩=some (.bool false):=by
 obtain ⟨b',r,h1,-,-,h2,-⟩:=R.mn hi
 rw [hb,Addr.mk.injEq] at h1
 rw [h1.1,h2,(R.sys.mt i hi).bad,R.sys.bad i hi]
theorem jZ.Wl {b:Nat} (R:jZ w1 ⟨b,0,none⟩ aM g n e k w p T own A M):w.cell? ⟨b,5,none⟩=some .nilIface:=by
 obtain ⟨b',h1,h2⟩:=R.fault
 rw [Addr.mk.injEq] at h1
 rw [h1.1,h2]
theorem jZ.bad (R:jZ w1 aP aM g n e k w p T own A M) (hi:i<n):(M i).bad=false:=(R.sys.mt i hi).bad.trans (R.sys.bad i hi)
end
theorem w64 {n:Int} (h0:0≤n) (h1:n<9223372036854775808):wrap64 n=n:=by unfold wrap64;omega
theorem Gp (a k:Int) (h0:0<k) (h1:k≤1000):∃n:Nat,wrap64 (1+wrap64 ((IntKind.u64.wrap a).tmod k))=(n:Int)∧1≤n∧(n:Int)≤k:=by
 have h:=Xm (IntKind.u64.wrap a) k h0 (Xn a)
 have e1:wrap64 ((IntKind.u64.wrap a).tmod k)=(IntKind.u64.wrap a).tmod k:=w64 (by omega) (by omega)
 rw [e1,w64 (by omega) (by omega)]
 exact ⟨(1+(IntKind.u64.wrap a).tmod k).toNat,by omega,by omega,by omega⟩
theorem WI (x:Int) (n:Nat) (h1:1≤n∧n≤6):∃q:Nat,wrap64 ((IntKind.u64.wrap x).tmod (IntKind.u64.wrap (n:Int)))=(q:Int)∧q<n:=by
 rw [Xo (x:=(n:Int)) (by omega) (by omega)]
 have h:=Xm (IntKind.u64.wrap x) n (by omega) (Xn x)
 rw [w64 (by omega) (by omega)]
 exact ⟨((IntKind.u64.wrap x).tmod n).toNat,by omega,by omega⟩
end Go.Proofs.YthomdlajobnmnaaDoor
set_option linter.unusedSimpArgs false
set_option linter.unusedVariables false
set_option linter.unusedSimpArgs false
set_option linter.unusedVariables false
namespace Go.Proofs.YthomdlajobnmnaaDoor
open Go.RowKit Go.Rex
set_option maxHeartbeats 4000000 in
set_option maxRecDepth 100000 in
theorem MM (w:World) (ν:Nat→Addr) (a0 a1 a2 a3:Int) (v:Value) (l:List Int) (hs:oM w ν) (hv:Rd w v l) :
  Calls Tryd.prog 7 #[.agg #[.int .i64 a0,.int .i64 a1,.int .i64 a2,.int .i64 a3],v] w fun e w'=>e=.returned (.bool true)∧Nw w w':=by
 have ha:=MK (hs.nw ((lM.refl w _).alloc (.cells #[.int .i64 a0,.int .i64 a1,.int .i64 a2,.int .i64 a3] 52)))
 obtain ⟨A,c,rfl,hlc,hc,hA⟩:=hv
 have A0:Aside (oM w ν∧(l.length≤c∧c≤9223372036854775807)∧∀k,k<l.length→∃ad,A=some ad∧w.cell? (ad.add k)=some (.int .i64 (l.getD k 0))):=⟨hs,⟨hlc,hc⟩,hA⟩
 clear hs hlc hc hA
 go_enter Tryd.func7,Tryd.ntmps7
 go_wp2_with (go_at_call 20;(with_reducible refine ha.mono ?_);rintro ev w1 ⟨rfl,hw1⟩;have hc0:=hw1.zS (a:=⟨w.heap.size,0,none⟩) (x:=.int .i64 a0) (by simp);have hc1:=hw1.zS (a:=⟨w.heap.size,1,none⟩) (x:=.int .i64 a1) (by simp);have hc2:=hw1.zS (a:=⟨w.heap.size,2,none⟩) (x:=.int .i64 a2) (by simp);have hc3:=hw1.zS (a:=⟨w.heap.size,3,none⟩) (x:=.int .i64 a3) (by simp);have A1:Aside (Nw w w1):=Nw.trans ((lM.refl w _).alloc _) hw1;clear ha hw1)
 obtain ⟨E,e0,e1,e2⟩:=Gp a0 5 (by decide) (by decide)
 obtain ⟨n,n0,n1,n2⟩:=Gp a1 6 (by decide) (by decide)
 obtain ⟨N,m0,m1,m2⟩:=Gp a2 12 (by decide) (by decide)
 obtain ⟨S,s0,s1,s2⟩:=Gp a3 60 (by decide) (by decide)
 have hs1:=A0.out.1.nw A1.out
 have hy:=Pm E N S n ⟨by omega,by omega⟩ ⟨by omega,by omega⟩ ⟨by omega,by omega⟩ ⟨by omega,by omega⟩ w1 _ hs1.sn (fun k hk=>hs1.lt (by unfold gS;split <;> omega))
 have AR:Aside ((1≤E∧E≤5)∧(1≤n∧n≤6)∧(1≤N∧N≤12)∧(1≤S∧S≤60)):=⟨by omega,by omega,by omega,by omega⟩
 simp only [e0,n0,m0,s0]
 clear e0 e1 e2 n0 n1 n2 m0 m1 m2 s0 s1 s2 hs1 hc0 hc1 hc2 hc3
 go_wp2_with (go_at_call 21;(with_reducible refine hy.mono ?_);intro ev w2 hp2;obtain ⟨aP,g,c2,p,p0,rfl,hY,hF,hact⟩:=hp2)
 obtain ⟨aM,hR⟩:=hY.run hF hact ⟨by have:=AR.out.2.2.2;omega,by have:=AR.out.2.2.2;omega⟩ ⟨by have:=AR.out.1;omega,by have:=AR.out.1;omega⟩ AR.out.2.1 (by have:=AR.out.2.2.1;omega)
 obtain ⟨bp,rfl,-⟩:=hR.fault
 have A2:Aside (jZ w1 ⟨bp,0,none⟩ aM g n E 1 w2 p (fun i=>Th.new E i n N) (fun _=>.free) (fun _=>1) (fun i=>Mn.new E i n N)):=hR
 clear hy hY hF hact hR
 go_loopg [8] 3000 (fun k i wr=>∃j:Nat,i=.int .i64 j∧(j+k=3000∧j≤l.length)∧Aside (∃T own A p M,jZ w1 ⟨bp,0,none⟩ aM g n E (1+j) wr p T own A M))
 case atStart=>exact ⟨0,rfl,⟨by omega,by omega⟩,_,_,_,_,_,A2.out⟩
 case round =>
  obtain ⟨j,rfl,hjk,hR⟩:=hrel
  by_cases hlt:j<l.length∧j<3000
  ·obtain ⟨T,own,A',p,M,hR⟩:=hR.out
   obtain ⟨ad,rfl,hcell⟩:=A0.out.2.2 j hlt.1
   replace hcell:=(A1.out.trans hR.nw).zS hcell
   obtain ⟨x,hx⟩:∃x,x=l.getD j 0:=⟨_,rfl⟩
   rw [←hx] at hcell
   obtain ⟨q,hq,Pp⟩:=WI x n AR.out.2.1
   have hrow:wr.cell? ⟨g,(wrap64 ((IntKind.u64.wrap x).tmod (IntKind.u64.wrap (n:Int)))).toNat,none⟩=some (.pointer (some (aM q))):=by
    rw [hq]
    exact hR.row q Pp
   have hq0:0≤wrap64 ((IntKind.u64.wrap x).tmod (IntKind.u64.wrap (n:Int))):=by omega
   have hq1:wrap64 ((IntKind.u64.wrap x).tmod (IntKind.u64.wrap (n:Int)))<(n:Int):=by omega
   obtain ⟨b,-,hb,-⟩:=hR.mn Pp
   have hdz:¬IntKind.u64.wrap (n:Int)=0:=by have:=AR.out.2.1;rw [Xo (x:=(n:Int)) (by omega) (by omega)];omega
   have hst:=hR.step Pp (by omega) (A0.out.1.nw A1.out)
   rw [hb] at hrow hst
   have A3:Aside ((aM q=⟨b,0,none⟩)∧(j+gk=3000∧j≤l.length)∧x=l.getD j 0∧(wrap64 ((IntKind.u64.wrap x).tmod (IntKind.u64.wrap (n:Int)))=(q:Int)∧q<n)):=⟨hb,hjk,hx,hq,Pp⟩
   have h1:(j:Int)<(l.length:Int):=by omega
   have h2:(j:Int)<3000:=by omega
   have h3:(j:Int)≤3000:=by omega
   clear hb hjk hx hq Pp hlt hR
   go_wp2_with (first
     | (go_at_call 22;(with_reducible refine hst.mono ?_);intro ev w3 hp3;obtain ⟨rfl,own',YV,hR⟩:=hp3;have hbad:=hR.X3 A3.out.2.2.2.2 A3.out.1;have hfa:=ML hR.Wl;have A4:=hR;clear hst hR;have A4:Aside (jZ _ _ _ _ _ _ _ _ _ _ _ _ _):=A4)
     | (go_at_call 17;(with_reducible refine hfa.mono ?_);rintro ev w4 ⟨rfl,rfl⟩))
   obtain ⟨q0,q1,q2,q3⟩:=A3.out
   go_roundg (gk-1)
   case measure=>omega
   case rel =>
    have:=A4.out
    rw [show (1:Int)+(j:Int)+1=1+((j+1:Nat):Int) by omega] at this
    exact ⟨j+1,by go_num,⟨by omega,by omega⟩,_,_,_,_,_,this⟩
  ·obtain ⟨T,own,A',p,M,hR⟩:=hR.out
   have A3:Aside (Nw w wr):=A1.out.trans hR.nw
   clear hR
   by_cases h1:(j:Int)<(l.length:Int)
   ·have h2:¬(j:Int)<3000:=by omega
    go_wp2
    go_ret
    exact ⟨rfl,A3.out⟩
   ·go_wp2
    go_ret
    exact ⟨rfl,A3.out⟩
theorem Pq:bC Tryd.prog (iC 27 nN 7 (Jm 4)) (yJ (Jm 4)) (wN nN (Jm 4)) :=
 X0 ⟨_,Tryd.func7,by kernel_rfl,by kernel_rfl⟩ MM
end Go.Proofs.YthomdlajobnmnaaDoor
