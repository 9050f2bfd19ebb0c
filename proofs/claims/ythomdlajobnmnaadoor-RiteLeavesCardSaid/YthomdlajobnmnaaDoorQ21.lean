/- part 21 of the proof -/
import Derived.Tactics
import Derived.Tactics2
import Derived.Deep.LoopGhost
import Derived.Maps.AppendAt
import Derived.Test.YthomdlajobnmnaaDoorQ17
import Derived.Test.YthomdlajobnmnaaDoorQ20
set_option linter.unusedSimpArgs false
set_option linter.unusedVariables false
namespace Go.Proofs.YthomdlajobnmnaaDoor
open Go.RowKit Go.Rex
theorem Oa (w:World):Calls Tryd.prog 48 #[] w fun e w'=>e=.returned (.int .i64 85)∧w'=w:=by
 go_enter Tryd.func48,Tryd.ntmps48
 go_wp2
 go_ret
 exact ⟨rfl,rfl⟩
def uy:eH:={f:=49,nv:=0,args:=[],hp:=[],jL:=0,ret:=.w (.agg [.int .i64 (.lit 0),.int .i64 (.lit 0),.int .i64 (.lit 24)]),hp':=[]}
noncomputable def Yg:Ex:={sched:=sched,loops:=[],cons:=[],fin:=uy}
theorem V7:exec tab Yg 1000 [] (gI uy.f uy.nv [] uy.gl uy.hp uy.args)=.fin {lo:=0,az:=0}:=by kernel_rfl
theorem V8:bF Tryd.prog uy (fun _=>True) (fun _=>True) :=
 dP fC (E:=Yg) (cs:=[]) rfl (fun k pre post h=>by cases h) df rfl V7 (by kernel_rfl) (fun ρ _ p hp=>by cases hp) (fun ρ _=>Sat.fin trivial)
theorem Tv (w:World):Calls Tryd.prog 49 #[] w fun e w'=>e=.returned (.agg #[.int .i64 0,.int .i64 0,.int .i64 24])∧Nw w w':=by
 refine Calls.mono (V8.run Tu (fun _=>⟨0,0,none⟩) w Ew ⟨fun g k _ h=>(by cases h),fun g g' k k' _ _ h=>(by cases h)⟩ trivial) ?_
 rintro e w' ⟨ρ,ν,hA,rfl,jf,hwr,how,-⟩
 exact ⟨rfl,hwr.os,hwr.tape,hwr.output,hwr.size,fun k hk _=>hwr.block k hk fun ⟨j,sb,hj,_⟩=>by
   have hj:([]:List SB)[j]?=some sb:=hj
   simp at hj⟩
section
variable {w w':World} {aP a:Addr} {aM:Nat→Addr} {n k:Nat} {p:PS} {M:Nat→Mn} {m:Mn} {F B:Nat→Prop}
theorem mq.nil (h:lU w aP p B):mq w aP aM 0 p M B :=
 ⟨B,fun _ _=>False,h,fun k hk=>absurd hk (Nat.not_lt_zero k),fun k hk=>absurd hk (Nat.not_lt_zero k),fun j k hj=>absurd hj (Nat.not_lt_zero j),fun _ h=>h,fun k hk=>absurd hk (Nat.not_lt_zero k)⟩
theorem mq.add (h:mq w aP aM n p M F) (hm:lV w a m B) (hd:∀b,B b→¬F b):mq w aP (bK aM n a) (n+1) p (bK M n m) (fun b=>F b∨B b):=by
 obtain ⟨BP,BM,h1,h2,h3,h4,h5,h6⟩:=h.ex
 refine ⟨BP,bK BM n B,h1,fun k hk=>?_,fun k hk b=>?_,fun j k hj hk hjk b=>?_,fun b hb=>.inl (h5 b hb),fun k hk b=>?_⟩
 ·by_cases hkn:k=n
  ·rw [hkn,aK,aK,aK];exact hm
  ·rw [bD _ _ hkn,bD _ _ hkn,bD _ _ hkn];exact h2 k (by omega)
 ·by_cases hkn:k=n
  ·rw [hkn,aK];exact fun x y=>hd b x (h5 b y)
  ·rw [bD _ _ hkn];exact h3 k (by omega) b
 ·by_cases q1:j=n
  ·have q2:k≠n:=fun e=>hjk (q1.trans e.symm)
   rw [q1,aK,bD _ _ q2]
   exact fun x y=>hd b x (h6 k (by omega) b y)
  ·rw [bD _ _ q1]
   by_cases q2:k=n
   ·rw [q2,aK]
    exact fun x y=>hd b y (h6 j (by omega) b x)
   ·rw [bD _ _ q2]
    exact h4 j k (by omega) (by omega) hjk b
 ·by_cases hkn:k=n
  ·rw [hkn,aK];exact .inr
  ·rw [bD _ _ hkn];exact fun x=>.inl (h6 k (by omega) b x)
end
theorem Nw.trans {a b c:World} (h1:Nw a b) (h2:Nw b c):Nw a c :=
 ⟨h2.os.trans h1.os,h2.tape.trans h1.tape,h2.output.trans h1.output,Nat.le_trans h1.size h2.size,fun k hk _=>(h2.block k (Nat.lt_of_lt_of_le hk h1.size) id).trans (h1.block k hk id)⟩
theorem Kl {a b c:World} {F:Nat→Prop} (h1:Nw a b) (h2:jh b F c) (hF:∀x,F x→a.heap.size≤x):Nw a c :=
 ⟨h2.os.trans h1.os,h2.tape.trans h1.tape,h2.output.trans h1.output,Nat.le_trans h1.size h2.size,fun k hk _=>(h2.block k (Nat.lt_of_lt_of_le hk h1.size) fun h=>absurd (hF k h) (Nat.not_le.2 hk)).trans (h1.block k hk id)⟩
def uY:Ac:=⟨2,0,0,24,⟨0,0,0,0,false⟩,⟨0,0,0,1,false⟩⟩
theorem GV {p:PS} {m:Int} (h:sj p 85 m):∃p',p.act uY=(p',some ⟨Wd.zero,true⟩)∧p'={p with steps:=p.steps+1,bd:=fun b=>if b=24 then ⟨0,0,0,1,false⟩ else p.bd b}:=by
 have hv:p.has 0 0 24:=by simp [PS.has,h.nb]
 refine ⟨_,zO hv (.inl rfl),?_⟩
 unfold PS.put
 rw [if_pos rfl]
 rfl
theorem V9:(Tryd.prog.info? 56).map (fun i=>(i.zero,i.size,i.bytes))=some (some (.pointer none),1,8):=by kernel_rfl
theorem qG.nw {w w':World} {iG:Nat→Addr} (h:qG w iG) (hz:∀k,k<8→(iG k).block<w.heap.size) (hn:Nw w w'):qG w' iG :=
 h.frame hn.size fun k hk=>hn.block _ (hz k hk) id
theorem Yh {w w':World} {base:Nat} {e:TypeId} {size:Nat} {v:Value} {n:Nat} {xs:List Value} (h:w.ownsRow base e size v n xs) (hn:Nw w w'):w'.ownsRow base e size v n xs:=by
 obtain ⟨h1,h2 | ⟨g,cap,cur,h2,h3,h4,h5⟩⟩:=h
 ·exact ⟨h1,.inl h2⟩
 ·refine ⟨h1,.inr ⟨g,cap,cur,h2,h3,?_,h5⟩⟩
  rw [hn.block g ?_ id]
  ·exact h4
  ·rcases Nat.lt_or_ge g w.heap.size with h | h
   ·exact h
   ·rw [Array.getElem?_eq_none h] at h4;cases h4
theorem We {w0 w w':World} {row:Option Nat} (h:Nw w0 w) (hg:w.grownBy w' row) (hr:∀g,row=some g→w0.heap.size≤g):Nw w0 w' :=
 h.step hg.os hg.tape hg.output hg.size fun k hk _=>hg.block k (Nat.lt_of_lt_of_le hk h.size) fun e=>by have:=hr k e.symm;omega
theorem Km (w:World) (o:Obj):(w.alloc o).heap[w.heap.size]?=some o:=by
 show (w.heap.push o)[w.heap.size]?=some o
 simp
structure CP (w0 w:World) (aP:Addr) (E N:Int) (n j:Nat) (p:PS) (s:Value):Prop where
 ex:∃aM F,mq w aP aM j p (fun i=>Mn.new E i n N) F∧w.ownsRow w0.heap.size 56 1 s j ((List.range j).map fun i=>.pointer (some (aM i)))∧∀b,F b→w0.heap.size≤b∧b<w.heap.size∧s.ownBlock≠some b
 nw:Nw w0 w
set_option maxHeartbeats 4000000 in
set_option maxRecDepth 100000 in
theorem GX (E N m:Int) (n:Nat) (h1:1≤E∧E≤5) (h3:1≤n∧n≤6) (h4:1≤N∧N≤64) (h:0≤m∧m≤1024) (w:World) (iG:Nat→Addr) (hs:qG w iG) (hz:∀k,k<8→(iG k).block<w.heap.size) :
  Calls Tryd.prog 21 #[.int .i64 E,.int .i64 n,.int .i64 N,.int .i64 m] w fun e w'=>∃aP g c p p0,e=.returned (.tuple #[.pointer (some aP),.slice (some ⟨g,0,none⟩) n c])∧CP w w' aP E N n n p (.slice (some ⟨g,0,none⟩) n c)∧sj p0 85 m∧p0.act uY=(p,some ⟨Wd.zero,true⟩):=by
 obtain ⟨i0,hi,hy0,hy1,hy2⟩:=info_parts V9
 have hc:=Oa w
 have hp:=N7 m h w
 have A0:Aside ((1≤E∧E≤5)∧(1≤n∧n≤6)∧(1≤N∧N≤64)∧(0≤m∧m≤1024)∧qG w iG∧∀k,k<8→(iG k).block<w.heap.size):=⟨h1,h3,h4,h,hs,hz⟩
 clear h1 h3 h4 h hs hz
 go_enter Tryd.func21,Tryd.ntmps21
 go_wp2_with (go_at_call 48;(with_reducible refine hc.mono ?_);rintro ev w1 ⟨rfl,rfl⟩)
 go_wp2_with (go_at_call 13;(with_reducible refine hp.mono ?_);intro ev w2 hp2;obtain ⟨aP,p0,B,rfl,GY,hF,hB,hw⟩:=hp2)
 have he:=Tv w2
 have A1:Aside (lU w2 aP p0 B∧sj p0 85 m∧(∀b,B b→w1.heap.size≤b)∧Nw w1 w2):=⟨GY,hF,hB,hw⟩
 clear hp hc GY hF hB hw
 go_wp2_with (go_at_call 49;(with_reducible refine he.mono ?_);rintro ev w3 ⟨rfl,hw3⟩)
 obtain ⟨GY,hF,hB,hw⟩:=A1.out
 obtain ⟨h1,h3,h4,h,hs,hz⟩:=A0.out
 obtain ⟨p,hact,hp⟩:=GV hF
 have Yi:=(GY.mono (B':=fun b=>B b∧b<w2.heap.size) fun b x y=>⟨x,y⟩).frame (w':=w3) fun b hb=>hw3.block b hb.2 id
 have hd:=YJ (a:=uY) (hs.nw hz (hw.trans hw3)) Yi (fun k hk hb=>absurd (hB _ hb.1) (Nat.not_le.2 (hz k hk))) (hF.ok h ⟨by decide,by decide⟩) (by rw [hF.steps];decide) hact
 rw [show N8 uY=.agg #[.int .i64 2,.int .i64 0,.int .i64 0,.int .i64 24,.int .i64 0,.int .i64 0,.int .i64 0,.int .i64 0,.bool false,.int .i64 0,.int .i64 0,.int .i64 0,.int .i64 1,.bool false] from rfl] at hd
 have A2:Aside ((sj p0 85 m∧p0.act uY=(p,some ⟨Wd.zero,true⟩))∧(∀b,B b→w1.heap.size≤b)∧Nw w1 w3):=⟨⟨hF,hact⟩,hB,hw.trans hw3⟩
 clear GY hF hB hw h1 h3 h4 h hs hz hact hp Yi hw3 A1 he
 go_wp2_with (go_at_call 14;(with_reducible refine hd.mono ?_);intro ev w4 Yj;obtain ⟨rfl,B',GY,hB',hw4⟩:=Yj)
 have A3:Aside (lU w4 aP p B'∧(∀b,B' b→w1.heap.size≤b)∧Nw w1 w4):=by
  obtain ⟨-,q2,q3⟩:=A2.out
  refine ⟨GY,fun b hb=>?_,Kl q3 hw4 fun x hx=>q2 x hx.1⟩
  rcases hB' b hb with h | h
  ·exact Nat.le_trans q3.size h
  ·exact q2 b h.1
 clear GY hB' hw4 hd
 go_loopg [12,13] n (fun k s i wr=>∃j:Nat,i=.int .i64 j∧j+k=n∧Aside (CP w1 wr aP E N n j p s))
 case atStart =>
  obtain ⟨q1,q2,q3⟩:=A3.out
  refine ⟨0,rfl,by omega,⟨fun _=>⟨0,0,none⟩,fun b=>B' b∧b<w4.heap.size,mq.mono ((mq.nil (q1.mono (B':=fun b=>B' b∧b<w4.heap.size) fun b x y=>⟨x,y⟩)).frame fun b hb _=>heap_alloc_old _ _ hb) fun b x _=>x,⟨rfl,.inr ⟨w4.heap.size,0,#[],rfl,q3.size,Km _ _,Nat.le_refl _,Nat.zero_le _,rfl,rfl⟩⟩,fun b hb=>⟨q2 b hb.1,?_,fun e=>?_⟩⟩,q3.alloc _⟩
  ·have:=hb.2
   simp
   omega
  ·have e:=Option.some.inj e
   have:=hb.2
   simp at e
   omega
 case round =>
  obtain ⟨j,rfl,hjk,hY⟩:=hrel
  rcases Nat.lt_or_ge j n with hlt | hge
  ·have hlt':(j:Int)<(n:Int):=by omega
   obtain ⟨⟨aM,F,lW,hown,hF⟩,hnw⟩:=hY.out
   have hr:=N9 E j n N A0.out.1 ⟨by omega,by omega⟩ (by have:=A0.out.2.1;omega) A0.out.2.2.1 wr
   generalize hxs:(List.range j).map (fun i=>Value.pointer (some (aM i)))=xs at hown
   have A4:Aside ((j+gk=n∧j<n∧(List.range j).map (fun i=>Value.pointer (some (aM i)))=xs)∧mq wr aP aM j p (fun i=>Mn.new E i n N) F∧(∀b,F b→w1.heap.size≤b∧b<wr.heap.size∧u12.ownBlock≠some b)∧Nw w1 wr):=⟨⟨hjk,hlt,hxs⟩,lW,hF,hnw⟩
   have hsz:=hnw.size
   have hj6:j<6:=by have:=A0.out.2.1;omega
   clear hjk hlt hxs lW hF hnw hY
   go_wp2_with (first
     | (go_at_call 30;(with_reducible refine hr.mono ?_);intro ev w5 hp5;obtain ⟨ρ,ν,rfl,hR,uZ⟩:=hp5)
     | (at_builtin;refine wpList_append_own_at _ rfl _ _ 53 rfl w1.heap.size 56 i0 (.pointer none) 1 8 Tryd.underlying53 hi hy0 hy1 hy2 rfl (by decide) _ _ _ rfl (((Yh hown uZ).alloc _).alloc _) _ 1 1 [.pointer (some ⟨w5.heap.size,0,none⟩)] rfl rfl ?c1 ?c2 ?c3 ?c4 ?c5 ?_)
     | fail)
   case c1 =>
    intro i u hi'
    match i,hi' with
    | 0,hi'=>simp at hi';subst hi';simp [Addr.add]
    | i+1,hi'=>simp at hi'
   case c2=>intro u hu;simp at hu;subst hu;rfl
   case c3=>unfold maxLen;omega
   case c4=>omega
   case c5 =>
    have:=uZ.size
    simp
    omega
   ·intro v' w6 hown' hgrow _ hat
    obtain ⟨⟨q1,q2,q3⟩,lW,hF,hnw⟩:=A4.out
    obtain ⟨QP,hR2,Zl,UU⟩:=hR
    have Yk:=uZ.size
    have Ob:∀b,b<w5.heap.size+1→u12.ownBlock≠some b→w6.heap[b]?=(w5.alloc (.cells #[.pointer (some (ν 0)),.int .i64 0,.int .i64 0,.int .i64 0,.int .i64 0,.int .i64 0,.bool false,.int .i64 0,.int .i64 0,.int .i64 0,.int .i64 0,.bool false,.bool false,.bool false] 60)).heap[b]?:=fun b hb hn=>by
     rw [hgrow.block b (by simp;omega) fun e=>hn e.symm]
     exact heap_alloc_old _ _ (by simp;omega)
    have hlt:=hown.lt
    have hold:∀b,wr.heap.size≤b→u12.ownBlock≠some b:=fun b hb e=>absurd (hlt b e).2 (Nat.not_lt.2 hb)
    have h6:w5.heap.size+2≤w6.heap.size:=by
     have:=hgrow.size
     simp at this
     omega
    have UW:mq w6 aP aM j p (fun i=>Mn.new E i n N) F:=lW.frame fun b hb Yl=>by
     rw [Ob b (by omega) (hF b Yl).2.2,heap_alloc_old _ _ (by omega)]
     exact uZ.block b hb id
    have Zm:aN ρ ν dC w6:=QP.Eu Ig fun b hb=>by
     have h1:=UU b hb
     have h2:=uq QP hb
     rw [Ob b (by omega) (hold b h1),heap_alloc_old _ _ h2]
    have Ma:=V5 Zm hR2 Zl (fun h=>absurd (uq QP h) (Nat.lt_irrefl _)) (by
      rw [Ob _ (by omega) (hold _ Yk)]
      exact Km _ _)
    have hadd:=UW.add Ma fun b hb Yl=>by
     have h1:=(hF b Yl).2.1
     rcases hb with rfl | hb
     ·omega
     ·have:=UU b hb
      omega
    have hY:CP w1 w6 aP E N n (j+1) p v':=by
     refine ⟨⟨bK aM j ⟨w5.heap.size,0,none⟩,_,cast (congrArg (fun M=>mq w6 aP (bK aM j ⟨w5.heap.size,0,none⟩) (j+1) p M _) ?_) hadd,?_,fun b hb=>?_⟩,We ((hnw.trans uZ).alloc _ |>.alloc _) hgrow fun g hg=>?_⟩
     ·exact rz (fun i:Nat=>Mn.new E i n N) j
     ·have e:(List.range (j+1)).map (fun i=>Value.pointer (some (bK aM j ⟨w5.heap.size,0,none⟩ i)))=xs ++ [.pointer (some ⟨w5.heap.size,0,none⟩)]:=by
       rw [List.range_succ,List.map_append,List.map_cons,List.map_nil,aK,←q3]
       congr 1
       refine List.map_congr_left fun i hi=>?_
       rw [bD _ _ (Nat.ne_of_lt (List.mem_range.1 hi))]
      rw [e]
      exact hown'
     ·have Lf:b<w5.heap.size+2→u12.ownBlock≠some b→v'.ownBlock≠some b:=fun h1 h2 h3=>by
       rcases hat with h | h
       ·exact h2 (h.symm.trans h3)
       ·rw [h,Option.some.injEq] at h3
        omega
      rcases hb with hb | rfl | hb
      ·obtain ⟨a1,a2,a3⟩:=hF b hb
       exact ⟨a1,by omega,Lf (by omega) a3⟩
      ·exact ⟨by omega,by omega,Lf (by omega) (hold _ Yk)⟩
      ·have a1:=UU b hb
       have a2:=uq QP hb
       exact ⟨by omega,by omega,Lf (by omega) (hold _ a1)⟩
     ·exact (hlt g hg).1
    have A5:Aside (CP w1 w6 aP E N n (j+1) p v'):=hY
    clear hY hadd Ma Zm UW h6 hold hlt Ob Yk QP hR2 Zl UU lW hF hnw hown' hgrow hat hown hr uZ
    go_wp2
    go_roundg (gk-1)
    case measure=>omega
    case rel=>exact ⟨j+1,by go_num,by omega,A5.out⟩
  ·have hlt':¬(j:Int)<(n:Int):=by omega
   have hjn:j=n:=by omega
   subst hjn
   have A4:Aside (CP w1 wr aP E N j j p u12):=hY.out
   obtain ⟨g,c,rfl⟩:∃g c,u12=.slice (some ⟨g,0,none⟩) j c:=by
    obtain ⟨⟨aM,F,-,hown,-⟩,-⟩:=hY.out
    obtain ⟨-,h2 | ⟨g,cap,cur,h2,-⟩⟩:=hown
    ·have:=A0.out.2.1
     omega
    ·exact ⟨g,cap,h2⟩
   clear hY
   go_wp2
   go_ret2
   obtain ⟨⟨q1,q2⟩,-⟩:=A2.out
   exact ⟨aP,g,c,rfl,p,A4.out,p0,q1,q2⟩
end Go.Proofs.YthomdlajobnmnaaDoor
namespace Go.Proofs.YthomdlajobnmnaaDoor
open Go.RowKit Go.Rex
def x8:List SB:=jy 27 mi 0
structure mh (w:World) (ν:Nat→Addr):Prop where
 hp:∃ρ,aN ρ ν x8 w
 gl:jq ν (gL mi 0)
def gS (k:Nat):Nat:=if k<2 then k else k+4
theorem nL:(List.range gz.length).map (fun j=>x8[gS j]?)=gz.map fun sb=>some (sb.aU id gS):=by kernel_rfl
theorem Ym:∀i j,i<gz.length→j<gz.length→gS i=gS j→i=j:=by
 intro i j _ _ h
 unfold gS at h
 split at h <;> split at h <;> omega
theorem glS (ν:Nat→Addr) (h:jq ν (gL mi 0)):jq (fun k=>ν (gS k)) (gL zz 0):=by
 have hm:∀g k,assoc g (gL zz 0)=some k→assoc g (gL mi 0)=some (gS k):=fun g k hk=>by
  have hmem:=ko hk
  have:∀x∈gL zz 0,assoc x.1 (gL mi 0)=some (gS x.2):=by decide
  exact this _ hmem
 exact ⟨fun g k hg hk=>h.at_ g _ hg (hm g k hk),fun g g' k k' h1 h2 h3 h4=>h.ne g g' _ _ h1 h2 (hm _ _ h3) (hm _ _ h4)⟩
theorem mh.sn {w:World} {ν:Nat→Addr} (h:mh w ν):qG w fun k=>ν (gS k):=by
 obtain ⟨⟨ρ,h1⟩,h2⟩:=h
 exact ⟨⟨ρ.pull id,h1.sub nL Ym⟩,glS ν h2⟩
theorem mh.lt {w:World} {ν:Nat→Addr} (h:mh w ν) {k:Nat} (hk:k<12):(ν k).block<w.heap.size:=by
 obtain ⟨⟨ρ,h1⟩,h2⟩:=h
 have hl:k<x8.length:=hk
 have hd:∀sb∈x8,sb.dead ρ=false:=by
  have hg:(x8.all fun b=>!b.gone && (match b.nl with | .lit false=>true | _=>false))=true:=by kernel_rfl
  intro sb hsb
  have:=List.all_eq_true.1 hg sb hsb
  simp only [Bool.and_eq_true,Bool.not_eq_true'] at this
  obtain ⟨a,b⟩:=this
  unfold SB.dead
  rw [a]
  split at b
  ·rename_i he
   rw [he]
   rfl
  ·cases b
 exact h1.lt (List.getElem?_eq_getElem hl) (hd _ (List.getElem_mem hl))
theorem mh.nw {w w':World} {ν:Nat→Addr} (h:mh w ν) (hn:Nw w w'):mh w' ν:=by
 have hl:=fun k hk=>h.lt (k:=k) hk
 obtain ⟨⟨ρ,h1⟩,h2⟩:=h
 exact ⟨⟨ρ,h1.EU hn.size fun k sb hk _=>hn.block _ (hl k (List.getElem?_eq_some_iff.1 hk).1) id⟩,h2⟩
theorem Ey {w:World} {ν:Nat→Addr} (h:mh w ν):Calls Tryd.prog 20 #[] w fun e w'=>e=.returned (.bool true)∧Nw w w':=by
 obtain ⟨⟨ρ,h1⟩,h2⟩:=h
 refine Calls.mono (NP.run ρ ν w h1 h2 trivial) ?_
 rintro e w' ⟨ρ',aQ,hA,rfl,jf,hwr,how,-⟩
 exact ⟨rfl,hwr.os,hwr.tape,hwr.output,hwr.size,fun k hk _=>hwr.block k hk fun h=>qF (by kernel_rfl) h⟩
theorem Nw.pR {w w':World} (h:Nw w w') {a:Addr} {x:Value} (hc:w.cell? a=some x):w'.cell? a=some x:=by
 rw [←hc]
 unfold World.cell?
 rw [h.block _ (World.block_lt_of_cell? _ _ hc) id]
def Rd (w:World) (v:Value) (l:List Int):Prop :=
 ∃A c,v=.slice A l.length c∧l.length≤c∧c≤9223372036854775807∧∀k,k<l.length→∃ad,A=some ad∧w.cell? (ad.add k)=some (.int .i64 (l.getD k 0))
theorem Rd.nw {w w':World} {v:Value} {l:List Int} (h:Rd w v l) (hn:Nw w w'):Rd w' v l:=by
 obtain ⟨A,c,h1,h2,h3,h4⟩:=h
 refine ⟨A,c,h1,h2,h3,fun k hk=>?_⟩
 obtain ⟨ad,h5,h6⟩:=h4 k hk
 exact ⟨ad,h5,hn.pR h6⟩
def u6 (m:Nat):List (Bool × List FK):=[(true,List.replicate m (.int .i64)),Xv]
theorem UX {ρ:Env} {ν:Nat→Addr} {w:World} {b k:Nat} {H:List SB} (hp:aN ρ ν H w) (hb:H[k]?=some {t:=3,bf:=[{r:=b+3,n1:=.var (b+1),s1:=1,ks:=[.int .i64]}],ro:=true,nl:=.var b})
  (h:(ρ.bv b=true→ρ.iv (b+1)=0∧ρ.iv (b+2)=0)∧0≤ρ.iv (b+1)∧ρ.iv (b+1)≤ρ.iv (b+2)∧ρ.iv (b+2)≤9223372036854775807) :
  Rd w (SC.den ρ ν (.fF (.var b) {aI:=k,i1:=.lit 0,s1:=1} (.var (b+1)) (.var (b+2)))) ((List.range (ρ.iv (b+1)).toNat).map fun i=>ρ.ic (b+3) i 0 0):=by
 obtain ⟨h1,h2,h3,h4⟩:=h
 have hlen:((List.range (ρ.iv (b+1)).toNat).map fun i=>ρ.ic (b+3) i 0 0).length=(ρ.iv (b+1)).toNat:=by simp
 have hden:SC.den ρ ν (.fF (.var b) {aI:=k,i1:=.lit 0,s1:=1} (.var (b+1)) (.var (b+2)))=if ρ.bv b=true then .slice none 0 0 else .slice (some (ν k)) (ρ.iv (b+1)).toNat (ρ.iv (b+2)).toNat:=by
  simp [SC.den,BE.den,IE.den,SA.den,SA.off,Addr.add_zero]
 cases hnil:ρ.bv b with
 | true =>
  obtain ⟨z1,z2⟩:=h1 hnil
  refine ⟨none,0,?_,?_,by omega,fun j hj=>?_⟩
  ·rw [hden,hlen,z1,if_pos hnil]
   rfl
  ·rw [hlen,z1]
   decide
  ·rw [hlen,z1] at hj
   exact absurd hj (Nat.not_lt_zero _)
 | false =>
  refine ⟨some (ν k),(ρ.iv (b+2)).toNat,?_,?_,by omega,fun j hj=>⟨ν k,rfl,?_⟩⟩
  ·rw [hden,hlen,hnil,if_neg (by decide)]
  ·rw [hlen]
   omega
  ·rw [hlen] at hj
   obtain ⟨-,cs,hcs,hcell⟩:=hp.rd k _ hb (by simp [SB.dead,BE.den,hnil]) rfl
   have:=hcs.sg 0 _ rfl j 0 0 (by show (j:Int)<ρ.iv (b+1);omega) (by show 0<1;decide) (by show 0<1;decide)
   have h0:=hcell _ _ this
   simp only [Nat.mul_one,Nat.zero_mul,Nat.add_zero] at h0
   rw [h0]
   simp [cO,aa.base,hj]
theorem KL (l:List SB):qp (l.map fun _=>dJ)=true:=by
 induction l with
 | nil=>rfl
 | cons x r ih=>simpa [qp,dJ] using ih
theorem QQ {f:FuncId} {sh:List (Bool × List FK)} (hf:∃fn,Tryd.prog.funcs[f]?=some fn∧fn.body.isSome=true∧(fn.name == "runtime.NumGoroutine")=false)
  (hrun:∀ρ ν w,aN ρ ν (iq 27 mi f sh).hp w→mh w ν→tN sh ρ.num→Calls Tryd.prog f ((iq 27 mi f sh).args.map (·.den ρ ν)).toArray w fun e w'=>e=.returned (.bool true)∧Nw w w') :
  bF Tryd.prog (iq 27 mi f sh) (tN sh) (qw mi sh):=by
 refine ⟨hf,fun ρ ν w jf hgl hpre=>?_⟩
 have hsr:mh w ν:=by
  refine ⟨⟨ρ,?_⟩,hgl⟩
  have e:∀(k:Nat) (sb:SB),x8[k]?=some sb→(iq 27 mi f sh).hp[k]?=some sb:=fun k sb hk=>by
   show (x8 ++ _)[k]?=some sb
   rw [List.getElem?_append_left (List.getElem?_eq_some_iff.1 hk).1]
   exact hk
  exact ⟨fun i j a b hi hj=>jf.inj i j a b (e i a hi) (e j b hj),fun k sb hk=>jf.aI k sb (e k sb hk),fun k sb hk=>jf.rd k sb (e k sb hk)⟩
 refine (hrun ρ ν w jf hsr hpre).mono ?_
 rintro e w' ⟨rfl,hw⟩
 obtain ⟨N,hN⟩:∃N,N=(iq 27 mi f sh).nv:=⟨_,rfl⟩
 have hd:∀(j:Nat) (sb:SB),(iq 27 mi f sh).hp'[j]?=some sb→∀q:Env,sb.dead q=true:=fun j sb hj q=>by
  unfold SB.dead
  rw [xE (KL _) hj]
  rfl
 refine ⟨{ρ with bv:=fun i=>if i=N then true else ρ.bv i},ν,⟨fun _ _=>rfl,fun i hi=>if_neg (by omega),fun _ _=>rfl,fun _ _=>rfl,fun _ _=>rfl,fun _ _=>rfl,fun _ _=>rfl⟩,?_,⟨fun i j a b hi hj da=>?_,fun j sb hj dj=>?_,fun j sb hj dj=>?_⟩,⟨hw.os,hw.tape,hw.output,hw.size,fun k hk _=>hw.block k hk id⟩,fun j sb hj _ dj=>?_,?_⟩
 ·show Ending.returned (.bool true)=.returned (.bool (if (iq 27 mi f sh).nv=N then true else _))
  rw [if_pos hN.symm]
 ·rw [hd i a hi] at da;cases da
 ·rw [hd j sb hj] at dj;cases dj
 ·rw [hd j sb hj] at dj;cases dj
 ·rw [hd j sb hj] at dj;cases dj
 ·show (if (iq 27 mi f sh).nv=N then true else _)=true
  rw [if_pos hN.symm]
theorem ZX {f:FuncId} (hf:∃fn,Tryd.prog.funcs[f]?=some fn∧fn.body.isSome=true∧(fn.name == "runtime.NumGoroutine")=false)
  (h:∀w ν a0 a1 a2 a3 v l,mh w ν→Rd w v l→Calls Tryd.prog f #[.agg #[.int .i64 a0,.int .i64 a1,.int .i64 a2,.int .i64 a3],v] w fun e w'=>e=.returned (.bool true)∧Nw w w') :
  bF Tryd.prog (iq 27 mi f (u6 4)) (tN (u6 4)) (qw mi (u6 4)) :=
 QQ hf fun ρ ν w jf hs hpre=>h w ν (ρ.iv 0) (ρ.iv 1) (ρ.iv 2) (ρ.iv 3) _ _ hs (UX (b:=4) (k:=12) jf rfl (by
   replace hpre:_∧_∧_∧_∧((ρ.bv 4=true→ρ.iv 5=0∧ρ.iv 6=0)∧0≤ρ.iv 5∧ρ.iv 5≤ρ.iv 6∧ρ.iv 6≤9223372036854775807∧_)∧_:=hpre
   obtain ⟨-,-,-,-,⟨h1,h2,h3,h4,-⟩,-⟩:=hpre
   exact ⟨h1,h2,h3,h4⟩))
theorem ZY {f:FuncId} (hf:∃fn,Tryd.prog.funcs[f]?=some fn∧fn.body.isSome=true∧(fn.name == "runtime.NumGoroutine")=false)
  (h:∀w ν a0 a1 a2 v l,mh w ν→Rd w v l→Calls Tryd.prog f #[.agg #[.int .i64 a0,.int .i64 a1,.int .i64 a2],v] w fun e w'=>e=.returned (.bool true)∧Nw w w') :
  bF Tryd.prog (iq 27 mi f (u6 3)) (tN (u6 3)) (qw mi (u6 3)) :=
 QQ hf fun ρ ν w jf hs hpre=>h w ν (ρ.iv 0) (ρ.iv 1) (ρ.iv 2) _ _ hs (UX (b:=3) (k:=12) jf rfl (by
   replace hpre:_∧_∧_∧((ρ.bv 3=true→ρ.iv 4=0∧ρ.iv 5=0)∧0≤ρ.iv 4∧ρ.iv 4≤ρ.iv 5∧ρ.iv 5≤9223372036854775807∧_)∧_:=hpre
   obtain ⟨-,-,-,⟨h1,h2,h3,h4,-⟩,-⟩:=hpre
   exact ⟨h1,h2,h3,h4⟩))
end Go.Proofs.YthomdlajobnmnaaDoor
namespace Go.Proofs.YthomdlajobnmnaaDoor
open Go.RowKit Go.Rex
theorem lV.cells {w:World} {a:Addr} {m:Mn} {B:Nat→Prop} (h:lV w a m B):∃b r,a=⟨b,0,none⟩∧w.cell? ⟨b,0,none⟩=some (.pointer (some r))∧w.cell? ⟨b,1,none⟩=some (.int .i64 m.pc)∧w.cell? ⟨b,12,none⟩=some (.bool m.bad)∧w.cell? ⟨b,13,none⟩=some (.bool m.stop)∧B b:=by
 obtain ⟨ρ,ν,rfl,h1,rfl,h3,h4⟩:=h.ex
 obtain ⟨g1,cs,g2,g3⟩:=h1.aI 0 _ rfl rfl rfl
 have g2:=g2.cells rfl
 have hc:∀(p:Nat) (c:SC),(tV 71 1).cs[p]?=some c→c.isHole=false→w.cell? ⟨(ν 0).block,p,none⟩=some (c.den ρ ν):=fun p c hp hh=>by
  have:=g3.ex p c hp hh
  unfold World.cell?
  rw [g2]
  exact this
 exact ⟨(ν 0).block,_,g1,hc 0 _ rfl rfl,hc 1 _ rfl rfl,hc 12 _ rfl rfl,hc 13 _ rfl rfl,h4 _ ⟨0,_,rfl,rfl,rfl⟩⟩
theorem lU.fault {w:World} {a:Addr} {p:PS} {B:Nat→Prop} (h:lU w a p B) (hg:p.iA=true):∃b,a=⟨b,0,none⟩∧w.cell? ⟨b,5,none⟩=some .nilIface:=by
 obtain ⟨ρ,ν,rfl,h1,rfl,h3,h4⟩:=h.ex
 obtain ⟨g1,cs,g2,g3⟩:=h1.aI 0 _ rfl rfl rfl
 have g2:=g2.cells rfl
 refine ⟨(ν 0).block,g1,?_⟩
 have:=g3.ex 5 _ rfl rfl
 unfold World.cell?
 rw [g2]
 refine this.trans (congrArg some ?_)
 show (if ρ.bv 7=true then Value.nilIface else _)=_
 exact if_pos hg
structure dE (w1:World) (aP:Addr) (aM:Nat→Addr) (g n:Nat) (e k:Int) (w:World) (p:PS) (T:Nat→Th) (own:Int→gQ) (A:Nat→Int) (M:Nat→Mn):Prop where
 sys:Sys k n e p T own A M
 Mf:∃F,mq w aP aM n p M F∧∀b,F b→w1.heap.size≤b∧b≠g
 row:∀i,i<n→w.cell? ⟨g,i,none⟩=some (.pointer (some (aM i)))
 nw:Nw w1 w
theorem QR {p0 p:PS} {m E N:Int} {n:Nat} (h:sj p0 85 m) (ha:p0.act uY=(p,some ⟨Wd.zero,true⟩)) (hm:0≤m∧m≤1024) (h1:1≤E∧E≤5) (h3:1≤n∧n≤6) (h4:1≤N) :
  Sys 1 n E p (fun i=>Th.new E i n N) (fun _=>.free) (fun _=>1) (fun i=>Mn.new E i n N)∧p.ns=m:=by
 obtain ⟨p',hp,he⟩:=GV h
 rw [ha] at hp
 simp only [Prod.mk.injEq] at hp
 have hpe:p={p0 with steps:=p0.steps+1,bd:=fun b=>if b=24 then ⟨0,0,0,1,false⟩ else p0.bd b}:=hp.1.trans he
 have hok:p.OK:=by
  have:=(h.ok hm ⟨by decide,by decide⟩).act uY
  rw [ha] at this
  exact this
 refine ⟨Sys.init hok (by rw [hpe];exact h.nb) (by rw [hpe];exact h.iA) h3 h1 h4 (fun k hk=>?_) ?_ (fun k=>by rw [hpe];exact h.used k) (fun i j=>by rw [hpe];exact h.cell i j) ?_,by rw [hpe];exact h.ns⟩
 ·rw [hpe]
  exact (if_neg hk).trans (h.bd k)
 ·rw [hpe]
  rfl
 ·rw [hpe]
  show p0.steps+1≤1
  rw [h.steps]
  decide
theorem CP.run {w w':World} {aP:Addr} {E N m:Int} {n g c:Nat} {p p0:PS} (h:CP w w' aP E N n n p (.slice (some ⟨g,0,none⟩) n c)) (hf:sj p0 85 m) (ha:p0.act uY=(p,some ⟨Wd.zero,true⟩)) (hm:0≤m∧m≤1024) (h1:1≤E∧E≤5) (h3:1≤n∧n≤6) (h4:1≤N) :
  ∃aM,dE w aP aM g n E 1 w' p (fun i=>Th.new E i n N) (fun _=>.free) (fun _=>1) (fun i=>Mn.new E i n N):=by
 obtain ⟨⟨aM,F,lW,hown,hF⟩,hnw⟩:=h
 refine ⟨aM,(QR hf ha hm h1 h3 h4).1,⟨F,lW,fun b hb=>⟨(hF b hb).1,fun e=>(hF b hb).2.2 (by rw [e];rfl)⟩⟩,fun i hi=>?_,hnw⟩
 have hc:=hown.cells (g:=g) rfl i (.pointer (some (aM i))) (by simp [hi])
 rw [←hc]
 congr 1
 unfold Addr.add
 split
 ·rename_i h;subst h;rfl
 ·simp
section
variable {w1 w:World} {aP:Addr} {aM:Nat→Addr} {g n i:Nat} {e k:Int} {p:PS} {T:Nat→Th} {own:Int→gQ} {A:Nat→Int} {M:Nat→Mn} {ν:Nat→Addr}
theorem dE.step (R:dE w1 aP aM g n e k w p T own A M) (hi:i<n) (hk:k≤900000) (hs:mh w1 ν) :
  Calls Tryd.prog 22 #[.pointer (some (aM i)),.pointer (some aP)] w fun ev w'=>ev=.returned (.bool true)∧∃own' A',dE w1 aP aM g n e (k+1) w' ((T i).step p).2.1 (bK T i ((T i).step p).1) own' A' (bK M i ((M i).step p).1):=by
 obtain ⟨F,lW,hF⟩:=R.Mf
 have hz:∀j,j<8→(ν (gS j)).block<w1.heap.size:=fun j hj=>hs.lt (by unfold gS;split <;> omega)
 have hsn:=hs.sn.nw hz R.nw
 obtain ⟨s1,s2,own',A',hS⟩:=R.sys.step hi
 refine (lW.step hi hsn (fun j hj hb=>absurd (hF _ hb).1 (Nat.not_le.2 (hz j hj))) ⟨k,n,e,T,own,A,i,hk,R.sys.iA hi⟩).mono ?_
 rintro ev w' ⟨rfl,YK,hwr⟩
 have hg:g<w.heap.size:=World.block_lt_of_cell? _ _ (R.row i hi)
 refine ⟨by rw [s1],own',A',⟨by rw [←s2];exact hS,⟨_,by rw [←s2];exact YK,fun b hb=>?_⟩,fun j hj=>?_,Kl R.nw hwr fun x hx=>(hF x hx).1⟩⟩
 ·rcases hb with hb | hb
  ·exact hF b hb
  ·exact ⟨Nat.le_trans R.nw.size hb,by omega⟩
 ·rw [←R.row j hj]
  unfold World.cell?
  rw [hwr.block g hg fun h=>(hF g h).2 rfl]
theorem dE.mn (R:dE w1 aP aM g n e k w p T own A M) (hi:i<n):∃b r,aM i=⟨b,0,none⟩∧w.cell? ⟨b,0,none⟩=some (.pointer (some r))∧w.cell? ⟨b,1,none⟩=some (.int .i64 (M i).pc)∧w.cell? ⟨b,12,none⟩=some (.bool (M i).bad)∧w.cell? ⟨b,13,none⟩=some (.bool (M i).stop):=by
 obtain ⟨F,lW,hF⟩:=R.Mf
 obtain ⟨BP,BM,h1,h2,-⟩:=lW.ex
 obtain ⟨b,r,q1,q2,q3,q4,q5,-⟩:=(h2 i hi).cells
 exact ⟨b,r,q1,q2,q3,q4,q5⟩
theorem dE.fault (R:dE w1 aP aM g n e k w p T own A M):∃b,aP=⟨b,0,none⟩∧w.cell? ⟨b,5,none⟩=some .nilIface:=by
 obtain ⟨F,lW,hF⟩:=R.Mf
 obtain ⟨BP,BM,h1,h2,-⟩:=lW.ex
 exact h1.fault R.sys.inv.iA
theorem dE.bad (R:dE w1 aP aM g n e k w p T own A M) (hi:i<n):(M i).bad=false:=(R.sys.mt i hi).bad.trans (R.sys.bad i hi)
end
theorem w64 {n:Int} (h0:0≤n) (h1:n<9223372036854775808):wrap64 n=n:=by unfold wrap64;omega
theorem x9 (a k:Int) (h0:0<k) (h1:k≤1000):∃n:Nat,wrap64 (1+wrap64 ((IntKind.u64.wrap a).tmod k))=(n:Int)∧1≤n∧(n:Int)≤k:=by
 have h:=Zi (IntKind.u64.wrap a) k h0 (Zj a)
 have e1:wrap64 ((IntKind.u64.wrap a).tmod k)=(IntKind.u64.wrap a).tmod k:=w64 (by omega) (by omega)
 rw [e1,w64 (by omega) (by omega)]
 exact ⟨(1+(IntKind.u64.wrap a).tmod k).toNat,by omega,by omega,by omega⟩
theorem UY (x:Int) (n:Nat) (h1:1≤n∧n≤6):∃q:Nat,wrap64 ((IntKind.u64.wrap x).tmod (IntKind.u64.wrap (n:Int)))=(q:Int)∧q<n:=by
 rw [X6 (x:=(n:Int)) (by omega) (by omega)]
 have h:=Zi (IntKind.u64.wrap x) n (by omega) (Zj x)
 rw [w64 (by omega) (by omega)]
 exact ⟨((IntKind.u64.wrap x).tmod n).toNat,by omega,by omega⟩
end Go.Proofs.YthomdlajobnmnaaDoor
namespace Go.Proofs.YthomdlajobnmnaaDoor
open Go.RowKit Go.Rex
def Ih (m:Mn) (r:Addr):Array Value:=#[.pointer (some r),.int .i64 m.pc,.int .i64 m.old.slot,.int .i64 m.old.gen,.int .i64 m.old.tag,.int .i64 m.old.num,.bool m.old.mark,.int .i64 m.node.slot,.int .i64 m.node.gen,.int .i64 m.node.tag,.int .i64 m.node.num,.bool m.node.mark,.bool m.bad,.bool m.stop]
def UZ (m:Mn):Env where
 iv:=fun i=>([m.pc,m.old.slot,m.old.gen,m.old.tag,m.old.num,0,m.node.slot,m.node.gen,m.node.tag,m.node.num]:List Int).getD i 0
 bv:=fun i=>if i=5 then m.old.mark else if i=10 then m.node.mark else if i=11 then m.bad else m.stop
 vv:=fun _=>undef
 ic:=fun _ _ _ _=>0
 bc:=fun _ _ _ _=>false
 vc:=fun _ _ _ _=>undef
theorem Mg {w:World} {ρ:Env} {ν:Nat→Addr} {b:Nat} {m:Mn} (h:aN ρ ν dC w) (hr:ae ρ 0 4=m.r) (ho:bJ ρ 4) (hn:¬ed ρ ν dC b) (hb:w.heap[b]?=some (.cells (Ih m (ν 0)) 60 (0,0))) :
  lV w ⟨b,0,none⟩ m fun x=>x=b∨ed ρ ν dC x:=by
 have hA:dM 71 4 ρ (ρ.cat 71 (UZ m)) ν ν:=⟨fun _ h=>if_pos h,fun _ h=>if_pos h,fun _ h=>if_pos h,fun _ h=>if_pos h,fun _ h=>if_pos h,fun _ h=>if_pos h,fun _ _=>rfl⟩
 have hsc:nM 71 4 dC=true:=by kernel_rfl
 obtain ⟨q,hq⟩:∃q,q=ρ.cat 71 (UZ m):=⟨_,rfl⟩
 rw [←hq] at hA
 have hh:aN q ν dC w:=h.ext hA hsc (by decide)
 have e1:(fun k=>iJ 1 (fun _=>(⟨b,0,none⟩:Addr)) ν (1+k))=ν:=funext fun k=>j6 ..
 have hone:aN q (iJ 1 (fun _=>(⟨b,0,none⟩:Addr)) ν) [tV 71 1] w:=by
  refine ⟨fun i j x y hi hj _ _ _ _=>?_,fun k sb hk _ _=>?_,fun k sb hk _ hr=>?_⟩
  ·have:=(List.getElem?_eq_some_iff.1 hi).1
   have:=(List.getElem?_eq_some_iff.1 hj).1
   simp at *
   omega
  ·match k,hk with
   | 0,hk =>
    simp at hk
    subst hk
    refine ⟨rfl,_,?_,oJ rfl rfl rfl⟩
    rw [show ((iJ 1 (fun _=>(⟨b,0,none⟩:Addr)) ν) 0).block=b from rfl,hb,hq]
    exact fe.kH rfl
   | k+1,hk=>simp at hk
  ·match k,hk with
   | 0,hk=>simp at hk;subst hk;cases hr
   | k+1,hk=>simp at hk
 have hall:=hone.app (f:=id) (hq:=dC) (by rw [show q.pull id=q from rfl,show (fun k=>iJ 1 (fun _=>(⟨b,0,none⟩:Addr)) ν (([tV 71 1]:List SB).length+k))=ν from e1];exact hh) fun i j x y hi hj _ dy _ he=>by
  match i,hi with
  | 0,hi =>
   have e2:iJ 1 (fun _=>(⟨b,0,none⟩:Addr)) ν (1+j)=ν j:=j6 ..
   have he:b=(iJ 1 (fun _=>(⟨b,0,none⟩:Addr)) ν (1+j)).block:=he
   rw [e2] at he
   exact hn ((uX hA hsc (by decide)).1 ⟨j,y,hj,dy,he⟩)
  | i+1,hi=>simp at hi
 have eL:jA=[tV 71 1] ++ dC.map (SB.aU id (([tV 71 1]:List SB).length+·)):=by kernel_rfl
 rw [←eL] at hall
 refine ⟨q,_,rfl,hall,?_,?_,fun x hx=>?_⟩
 ·have e3:ae q 0 4=ae ρ 0 4:=by rw [hq];rfl
  rw [e3,hr,hq]
  rfl
 ·rw [hq]
  exact ho
 ·obtain ⟨k,sb,h1,h2,rfl⟩:=hx
  match k,h1 with
  | 0,_=>exact .inl rfl
  | k+1,h1 =>
   have e2:iJ 1 (fun _=>(⟨b,0,none⟩:Addr)) ν (k+1)=ν k:=by rw [Nat.add_comm];exact j6 ..
   rw [eL] at h1
   rw [List.getElem?_append_right (by simp)] at h1
   simp only [List.length_singleton,Nat.add_sub_cancel,List.getElem?_map,Option.map_eq_some_iff] at h1
   obtain ⟨sc,rJ,rfl⟩:=h1
   rw [SB.fK] at h2
   rw [e2]
   exact .inr ((uX hA hsc (by decide)).1 ⟨k,sc,rJ,h2,rfl⟩)
theorem Tw:(List.range dC.length).map (fun j=>jA[1+j]?)=dC.map fun sb=>some (sb.aU id (1+·)):=by kernel_rfl
theorem CQ {w:World} {a:Addr} {m:Mn} {B:Nat→Prop} (h:lV w a m B):∃ρ ν b,a=⟨b,0,none⟩∧(aN ρ ν dC w∧ae ρ 0 4=m.r∧bJ ρ 4)∧(∀x,ed ρ ν dC x→B x)∧¬ed ρ ν dC b∧B b∧w.heap[b]?=some (.cells (Ih m (ν 0)) 60 (0,0)):=by
 obtain ⟨ρ,ν,rfl,h1,rfl,h3,h4⟩:=h.ex
 obtain ⟨g1,cs,g2,g3⟩:=h1.aI 0 _ rfl rfl rfl
 have g2:=g2.cells rfl
 have hsz:cs.size=14:=g3.size rfl rfl
 have hc:∀(p:Nat) (c:SC),(tV 71 1).cs[p]?=some c→c.isHole=false→cs[p]?=some (c.den ρ ν):=fun p c hp hh=>g3.ex p c hp hh
 have hcs:cs=Ih (eU ρ (ae ρ 0 4) 71) (ν 1):=by
  apply Array.ext_getElem?
  intro i
  rcases Nat.lt_or_ge i 14 with hi | hi
  ·match i,hi with
   | 0,_=>exact hc 0 _ rfl rfl
   | 1,_=>exact hc 1 _ rfl rfl
   | 2,_=>exact hc 2 _ rfl rfl
   | 3,_=>exact hc 3 _ rfl rfl
   | 4,_=>exact hc 4 _ rfl rfl
   | 5,_=>exact hc 5 _ rfl rfl
   | 6,_=>exact hc 6 _ rfl rfl
   | 7,_=>exact hc 7 _ rfl rfl
   | 8,_=>exact hc 8 _ rfl rfl
   | 9,_=>exact hc 9 _ rfl rfl
   | 10,_=>exact hc 10 _ rfl rfl
   | 11,_=>exact hc 11 _ rfl rfl
   | 12,_=>exact hc 12 _ rfl rfl
   | 13,_=>exact hc 13 _ rfl rfl
  ·rw [Array.getElem?_eq_none (by omega),Array.getElem?_eq_none (by simp [Ih];omega)]
 rw [hcs] at g2
 refine ⟨ρ,fun k=>ν (1+k),(ν 0).block,g1,⟨h1.sub (f:=id) Tw (fun i j _ _ h=>by omega),rfl,h3⟩,fun x hx=>h4 x (QL (f:=id) Tw hx),fun hx=>?_,h4 _ ⟨0,_,rfl,rfl,rfl⟩,g2⟩
 obtain ⟨k,sb,q1,q2,q3⟩:=hx
 have:=h1.inj 0 (1+k) _ _ rfl (Et (f:=id) Tw q1) rfl (by rw [SB.fK];exact q2) rfl q3
 omega
section
variable {w w' w1:World} {aP:Addr} {aM:Nat→Addr} {g n k:Nat} {p:PS} {M:Nat→Mn} {F F':Nat→Prop} {T:Nat→Th} {own:Int→gQ} {A:Nat→Int} {e c:Int}
theorem mq.QS (h:mq w aP aM n p M F) (hk:k<n):∃BM:Nat→Prop,lV w (aM k) (M k) BM∧(∀b,BM b→F b∧b<w.heap.size)∧∀w' m' B',lV w' (aM k) m' B'→(∀b,B' b→w.heap.size≤b∨BM b)→jh w BM w'→mq w' aP aM n p (bK M k m') fun b=>F b∨w.heap.size≤b:=by
 obtain ⟨BP,BM,h1,h2,h3,h4,h5,h6⟩:=(h.mono (F':=fun b=>F b∧b<w.heap.size) fun b x y=>⟨x,y⟩).ex
 refine ⟨BM k,h2 k hk,h6 k hk,fun w' m' B' g1 g2 g3=>⟨BP,bK BM k B',h1.frame fun b hb=>g3.block b (h5 b hb).2 fun x=>h3 k hk b x hb,fun j hj=>?_,fun j hj b=>?_,fun i j hi hj hij b=>?_,fun b hb=>.inl (h5 b hb).1,fun j hj b=>?_⟩⟩
 ·by_cases hjk:j=k
  ·rw [hjk,aK,aK]
   exact g1
  ·rw [bD _ _ hjk,bD _ _ hjk]
   exact (h2 j hj).frame fun b hb=>g3.block b (h6 j hj b hb).2 fun x=>h4 j k hj hk hjk b hb x
 ·by_cases hjk:j=k
  ·rw [hjk,aK]
   intro x y
   rcases g2 b x with z | z
   ·exact absurd (h5 b y).2 (Nat.not_lt.2 z)
   ·exact h3 k hk b z y
  ·rw [bD _ _ hjk]
   exact h3 j hj b
 ·have hnew:∀j,j<n→j≠k→B' b→BM j b→False:=fun j hj hjk x y=>by
   rcases g2 b x with z | z
   ·exact absurd (h6 j hj b y).2 (Nat.not_lt.2 z)
   ·exact h4 j k hj hk hjk b y z
  by_cases q1:i=k
  ·have q2:j≠k:=fun e=>hij (q1.trans e.symm)
   rw [q1,aK,bD _ _ q2]
   exact hnew j hj q2
  ·rw [bD _ _ q1]
   by_cases q2:j=k
   ·rw [q2,aK]
    exact fun x y=>hnew i hi q1 y x
   ·rw [bD _ _ q2]
    exact h4 i j hi hj hij b
 ·by_cases hjk:j=k
  ·rw [hjk,aK]
   exact fun x=>(g2 b x).elim .inr fun z=>.inl (h6 k hk b z).1
  ·rw [bD _ _ hjk]
   exact fun x=>.inl (h6 j hj b x).1
theorem dE.QS (R:dE w1 aP aM g n e c w p T own A M) (hk:k<n):∃BM:Nat→Prop,lV w (aM k) (M k) BM∧∀w' m' B' c' T' own' A',lV w' (aM k) m' B'→(∀b,B' b→w.heap.size≤b∨BM b)→jh w BM w'→Sys c' n e p T' own' A' (bK M k m')→dE w1 aP aM g n e c' w' p T' own' A' (bK M k m'):=by
 obtain ⟨F,lW,hF⟩:=R.Mf
 obtain ⟨BM,h1,h2,h3⟩:=lW.QS hk
 have hg:g<w.heap.size:=World.block_lt_of_cell? _ _ (R.row k hk)
 refine ⟨BM,h1,fun w' m' B' c' T' own' A' g1 g2 g3 g4=>⟨g4,⟨_,h3 w' m' B' g1 g2 g3,fun b hb=>?_⟩,fun j hj=>?_,Kl R.nw g3 fun x hx=>(hF x (h2 x hx).1).1⟩⟩
 ·rcases hb with hb | hb
  ·exact hF b hb
  ·exact ⟨Nat.le_trans R.nw.size hb,by omega⟩
 ·rw [←R.row j hj]
  unfold World.cell?
  rw [g3.block g hg fun h=>(hF g (h2 g h).1).2 rfl]
end
def fR (i:Nat):Nat:=if i<4 then i else i+67
def gR:Nat→Nat
 | 0=>0
 | k=>k+3
theorem U0:(List.range dC.length).map (fun j=>kQ.hp'[gR j]?)=dC.map fun sb=>some (sb.aU fR gR):=by kernel_rfl
theorem Yn:∀i j,i<dC.length→j<dC.length→gR i=gR j→i=j:=by
 have:∀i,i<4→∀j,j<4→gR i=gR j→i=j:=by decide
 intro i j hi hj
 exact this i hi j hj
theorem Tx {w:World} {ρ:Env} {ν:Nat→Addr} (h:aN ρ ν dC w) (ho:bJ ρ 4) (hf:(ae ρ 0 4).notes.length≤1000000) :
  Calls Tryd.prog 26 #[.pointer (some (ν 0))] w fun ev w'=>∃ρ' aQ a c,ev=.returned (.slice a (ae ρ 0 4).notes.length c)∧aQ 0=ν 0∧(aN ρ' aQ dC w'∧ae ρ' 0 4=ae ρ 0 4∧bJ ρ' 4)∧(∀x,ed ρ' aQ dC x→w.heap.size≤x∨ed ρ ν dC x)∧jh w (ed ρ ν dC) w':=by
 have hn:ρ.iv 59≤1000000:=by
  have h1:(aV ρ 70 (ρ.iv 59)).length≤1000000:=hf
  rw [ji] at h1
  omega
 have hrun:=Qk.run ρ ν w h ⟨fun g k _ h=>(by cases h),fun g g' k k' _ _ h=>(by cases h)⟩ ⟨ho,hn⟩
 rw [show (kQ.args.map (·.den ρ ν)).toArray=#[.pointer (some (ν 0))] from rfl] at hrun
 refine Calls.mono hrun ?_
 rintro ev w' ⟨ρ',aQ,hA,rfl,jf,hwr,how,q1,⟨q2,q3⟩,q4⟩
 have e0:ae ρ' 0 4=ae ρ 0 4:=by
  unfold ae jX ay aL av dZ aV ig bO
  simp (disch:=decide) only [hA.iv,hA.bv,hA.ic,hA.bc]
 replace q3:aV ρ' 141 (ρ'.iv 139)=(ae ρ' 0 4).notes:=q3
 replace q4:ae ρ' 0 71=ae ρ' 0 4:=q4
 rw [e0] at q3 q4
 have hlen:(ae ρ 0 4).notes.length=(ρ'.iv 139).toNat:=by rw [←q3,ji]
 have uw:∀x,kM ρ ν dC x→ed ρ ν dC x:=fun x h=>rC h
 obtain ⟨z1,z2,z3,z4⟩:=q2
 have hret:∃a c,(kQ.ret.den ρ' aQ)=.slice a (ae ρ 0 4).notes.length c:=by
  rw [hlen]
  show ∃a c,(if ρ'.bv 138=true then Value.slice none 0 0 else .slice (some _) (ρ'.iv 139).toNat (ρ'.iv 140).toNat)=_
  by_cases hb:ρ'.bv 138=true
  ·rw [if_pos hb]
   have:ρ'.iv 139=0:=z1 hb
   rw [this]
   exact ⟨none,0,rfl⟩
  ·rw [if_neg hb]
   exact ⟨_,_,rfl⟩
 obtain ⟨a,c,hret⟩:=hret
 refine ⟨ρ'.pull fR,fun k=>aQ (gR k),a,c,by rw [hret],?_,⟨jf.sub U0 Yn,q4,q1⟩,fun x hx=>?_,hwr.os,hwr.tape,hwr.output,hwr.size,fun b hb hn=>hwr.block b hb fun h=>hn (uw b h)⟩
 ·show aQ 0=ν 0
  exact hA.bl 0 (by decide)
 ·exact ((how.sub U0).aI Ig hx).imp id fun h=>uw x h
end Go.Proofs.YthomdlajobnmnaaDoor
