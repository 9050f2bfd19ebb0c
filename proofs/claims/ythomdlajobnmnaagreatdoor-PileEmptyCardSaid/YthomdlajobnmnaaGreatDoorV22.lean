/- part 22 of the proof -/
import Derived.Maps.AppendAt
import Derived.Test.YthomdlajobnmnaaGreatDoorV11
import Derived.Test.YthomdlajobnmnaaGreatDoorV25
set_option linter.unusedSimpArgs false
set_option linter.unusedVariables false
namespace Go.Proofs.YthomdlajobnmnaaGreatDoor
open Go.RowKit Go.Rex
theorem Yb {α:Type} (f:Nat→α) (i:Nat):lS f i (f i)=f:=by
 funext k
 by_cases h:k=i
 ·rw [h,dC]
 ·rw [gq _ _ h]
theorem Oe (w:World):Calls Tryz.prog 17 #[] w fun e w'=>e=.returned (.int .i64 85)∧w'=w:=by
 go_enter Tryz.func17,Tryz.ntmps17
 go_wp2
 go_ret
 exact ⟨rfl,rfl⟩
def r9:dJ:={f:=33,nv:=0,args:=[],hp:=[],iD:=0,ret:=.w (.agg [.int .i64 (.lit 0),.int .i64 (.lit 0),.int .i64 (.lit 24)]),hp':=[]}
noncomputable def Yc:Ex:={sched:=sched,loops:=[],cons:=[],fin:=r9}
theorem VY:exec tab Yc 1000 [] (eG r9.f r9.nv [] r9.gl r9.hp r9.args)=.fin {lo:=0,az:=0}:=by kernel_rfl
theorem VZ:aY Tryz.prog r9 (fun _=>True) (fun _=>True) :=
 cZ dD (E:=Yc) (cs:=[]) rfl (fun k pre post h=>by cases h) bS rfl VY (by kernel_rfl) (fun ρ _ p hp=>by cases hp) (fun ρ _=>Sat.fin trivial)
theorem TA (w:World):Calls Tryz.prog 33 #[] w fun e w'=>e=.returned (.agg #[.int .i64 0,.int .i64 0,.int .i64 24])∧Nw w w':=by
 refine Calls.mono (VZ.run (Qv fun _=>0) (fun _=>⟨0,0,none⟩) w DW ⟨fun g k _ h=>(by cases h),fun g g' k k' _ _ h=>(by cases h)⟩ trivial) ?_
 rintro e w' ⟨ρ,ν,hA,rfl,gB,hwr,how,-⟩
 exact ⟨rfl,hwr.os,hwr.tape,hwr.output,hwr.size,fun k hk _=>hwr.block k hk fun ⟨j,sb,hj,_⟩=>by
   have hj:([]:List SB)[j]?=some sb:=hj
   simp at hj⟩
def xh:Ac:=⟨2,0,0,24,⟨0,0,0,0,false⟩,⟨0,0,0,1,false⟩⟩
theorem Gv {p:PS} {m:Int} (h:tN p 85 m):∃p',p.act xh=(p',some ⟨Wd.zero,true⟩)∧p'={p with steps:=p.steps+1,bd:=fun b=>if b=24 then ⟨0,0,0,1,false⟩ else p.bd b}:=by
 have hv:p.has 0 0 24:=by simp [PS.has,h.nb]
 refine ⟨_,Gs hv (.inl rfl),?_⟩
 unfold PS.put
 rw [if_pos rfl]
 rfl
theorem V3:(Tryz.prog.info? 45).map (fun i=>(i.zero,i.size,i.bytes))=some (some (.pointer none),1,8):=by kernel_rfl
theorem kU.nw {w w':World} {dV:Nat→Addr} (h:kU w dV) (hz:∀k,k<8→(dV k).block<w.heap.size) (hn:Nw w w'):kU w' dV :=
 h.frame hn.size fun k hk=>hn.block _ (hz k hk) id
theorem Yd {w w':World} {base:Nat} {e:TypeId} {size:Nat} {v:Value} {n:Nat} {xs:List Value} (h:w.ownsRow base e size v n xs) (hn:Nw w w'):w'.ownsRow base e size v n xs:=by
 obtain ⟨h1,h2 | ⟨g,cap,cur,h2,h3,h4,h5⟩⟩:=h
 ·exact ⟨h1,.inl h2⟩
 ·refine ⟨h1,.inr ⟨g,cap,cur,h2,h3,?_,h5⟩⟩
  rw [hn.block g ?_ id]
  ·exact h4
  ·rcases Nat.lt_or_ge g w.heap.size with h | h
   ·exact h
   ·rw [Array.getElem?_eq_none h] at h4;cases h4
theorem LW {w0 w w':World} {row:Option Nat} (h:Nw w0 w) (hg:w.grownBy w' row) (hr:∀g,row=some g→w0.heap.size≤g):Nw w0 w' :=
 h.step hg.os hg.tape hg.output hg.size fun k hk _=>hg.block k (Nat.lt_of_lt_of_le hk h.size) fun e=>by have:=hr k e.symm;omega
structure Af (w:World) (gO n:Nat) (A:Nat→Nat) (L:Nat→List Op):Prop where
 ex:∀i,i<n→(∃c,w.cell? ⟨gO,i,none⟩=some (.slice (some ⟨A i,0,none⟩) (L i).length c))∧mV w (A i) (L i)∧A i<w.heap.size
theorem Af.nw {w w':World} {gO n:Nat} {A:Nat→Nat} {L:Nat→List Op} (h:Af w gO n A L) (hn:Nw w w'):Af w' gO n A L :=
 ⟨fun i hi=>by
   obtain ⟨⟨c,h1⟩,h2,h3⟩:=h.ex i hi
   exact ⟨⟨c,hn.gY h1⟩,h2.frame (hn.block _ h3 id),Nat.lt_of_lt_of_le h3 hn.size⟩⟩
structure Cf (w0 w:World) (aP:Addr) (A:Nat→Nat) (L:Nat→List Op) (E N:Int) (n j:Nat) (p:PS) (s:Value):Prop where
 ex:∃aW F,jW w aP aW A w0.heap.size j p (fun i=>Wk.new E i n N (L i)) F∧w.ownsRow w0.heap.size 45 1 s j ((List.range j).map fun i=>.pointer (some ⟨aW i,0,none⟩))∧∀b,F b→w0.heap.size≤b∧b<w.heap.size∧s.ownBlock≠some b
 nw:Nw w0 w
section
variable {A:Nat→Nat} {L:Nat→List Op}
set_option maxHeartbeats 4000000 in
set_option maxRecDepth 100000 in
theorem QV (E N m:Int) (n gO cO:Nat) (h1:1≤E∧E≤5) (h3:1≤n∧n≤6) (h4:1≤N∧N≤64) (h:0≤m∧m≤1024) (w:World) (hO:Af w gO n A L) (dV:Nat→Addr) (hs:kU w dV) (hz:∀k,k<8→(dV k).block<w.heap.size) :
  Calls Tryz.prog 9 #[.int .i64 E,.int .i64 N,.int .i64 m,.slice (some ⟨gO,0,none⟩) n cO] w fun e w'=>∃aP g c p p0,e=.returned (.tuple #[.pointer (some aP),.slice (some ⟨g,0,none⟩) n c])∧Cf w w' aP A L E N n n p (.slice (some ⟨g,0,none⟩) n c)∧tN p0 85 m∧p0.act xh=(p,some ⟨Wd.zero,true⟩):=by
 obtain ⟨i0,hi,hy0,hy1,hy2⟩:=info_parts V3
 have hc:=Oe w
 have hp:=NI m h w
 have A0:Aside ((1≤E∧E≤5)∧(1≤n∧n≤6)∧(1≤N∧N≤64)∧(0≤m∧m≤1024)∧kU w dV∧∀k,k<8→(dV k).block<w.heap.size):=⟨h1,h3,h4,h,hs,hz⟩
 have AO:Aside (Af w gO n A L):=hO
 clear h1 h3 h4 h hs hz hO
 go_enter Tryz.func9,Tryz.ntmps9
 go_wp2_with (go_at_call 17;(with_reducible refine hc.mono ?_);rintro ev w1 ⟨rfl,rfl⟩)
 go_wp2_with (go_at_call 16;(with_reducible refine hp.mono ?_);intro ev w2 hp2;obtain ⟨aP,p0,B,rfl,vk,hF,hB,hw⟩:=hp2)
 have he:=TA w2
 have A1:Aside (iK w2 aP p0 B∧tN p0 85 m∧(∀b,B b→w1.heap.size≤b)∧Nw w1 w2):=⟨vk,hF,hB,hw⟩
 clear hp hc vk hF hB hw
 go_wp2_with (go_at_call 33;(with_reducible refine he.mono ?_);rintro ev w3 ⟨rfl,hw3⟩)
 obtain ⟨vk,hF,hB,hw⟩:=A1.out
 obtain ⟨h1,h3,h4,h,hs,hz⟩:=A0.out
 obtain ⟨p,hact,hp⟩:=Gv hF
 have Kc:=(vk.mono (B':=fun b=>B b∧b<w2.heap.size) fun b x y=>⟨x,y⟩).frame (w':=w3) fun b hb=>hw3.block b hb.2 id
 have hd:=UD (a:=xh) (hs.nw hz (hw.trans hw3)) Kc (fun k hk hb=>absurd (hB _ hb.1) (Nat.not_le.2 (hz k hk))) (hF.ok h ⟨by decide,by decide⟩) (by rw [hF.steps];decide) hact
 rw [show oz xh=.agg #[.int .i64 2,.int .i64 0,.int .i64 0,.int .i64 24,.int .i64 0,.int .i64 0,.int .i64 0,.int .i64 0,.bool false,.int .i64 0,.int .i64 0,.int .i64 0,.int .i64 1,.bool false] from rfl] at hd
 have A2:Aside ((tN p0 85 m∧p0.act xh=(p,some ⟨Wd.zero,true⟩))∧(∀b,B b→w1.heap.size≤b)∧Nw w1 w3):=⟨⟨hF,hact⟩,hB,hw.trans hw3⟩
 clear vk hF hB hw h1 h3 h4 h hs hz hact hp Kc hw3 A1 he
 go_wp2_with (go_at_call 32;(with_reducible refine hd.mono ?_);intro ev w4 QR;obtain ⟨rfl,B',vk,hB',hw4⟩:=QR)
 have A3:Aside (iK w4 aP p B'∧(∀b,B' b→w1.heap.size≤b)∧Nw w1 w4):=by
  obtain ⟨-,q2,q3⟩:=A2.out
  refine ⟨vk,fun b hb=>?_,Qz q3 hw4 fun x hx=>q2 x hx.1⟩
  rcases hB' b hb with h | h
  ·exact Nat.le_trans q3.size h
  ·exact q2 b h.1
 clear vk hB' hw4 hd
 go_loopg [12,13] n (fun k s i wr=>∃j:Nat,i=.int .i64 j∧j+k=n∧Aside (Cf w1 wr aP A L E N n j p s))
 case atStart =>
  obtain ⟨q1,q2,q3⟩:=A3.out
  have hn:Nw w4 (w4.alloc (.cells #[] 45)):=(bX.refl _ _).alloc _
  refine ⟨0,rfl,by omega,⟨fun _=>0,fun b=>B' b∧b<w4.heap.size,jW.nil ((q1.mono (B':=fun b=>B' b∧b<w4.heap.size) fun b x y=>⟨x,y⟩).frame fun b hb=>heap_alloc_old _ _ hb.2),⟨rfl,.inr ⟨w4.heap.size,0,#[],rfl,q3.size,rZ _ _,Nat.le_refl _,Nat.zero_le _,rfl,rfl⟩⟩,fun b hb=>⟨q2 b hb.1,?_,fun e=>?_⟩⟩,q3.alloc _⟩
  ·have:=hb.2
   simp
   omega
  ·have e:=Option.some.inj e
   have:=hb.2
   simp at e
   omega
 case round =>
  obtain ⟨j,rfl,hjk,hY⟩:=hrel
  rcases Nat.lt_or_ge j n with hlt | hge
  ·have hlt':(j:Int)<(n:Int):=by omega
   obtain ⟨⟨aW,F,Cg,hown,hF⟩,hnw⟩:=hY.out
   obtain ⟨⟨cL,Zo⟩,YE,Z8⟩:=(AO.out.nw hnw).ex j hlt
   have hr:=NK E j n N A0.out.1 ⟨by omega,by omega⟩ (by have:=A0.out.2.1;omega) A0.out.2.2.1 wr
   generalize hxs:(List.range j).map (fun i=>Value.pointer (some (⟨aW i,0,none⟩:Addr)))=xs at hown
   have A4:Aside ((j+gk=n∧j<n∧(List.range j).map (fun i=>Value.pointer (some (⟨aW i,0,none⟩:Addr)))=xs)∧jW wr aP aW A w1.heap.size j p (fun i=>Wk.new E i n N (L i)) F∧(∀b,F b→w1.heap.size≤b∧b<wr.heap.size∧u12.ownBlock≠some b)∧Nw w1 wr):=⟨⟨hjk,hlt,hxs⟩,Cg,hF,hnw⟩
   have hsz:=hnw.size
   have hj6:j<6:=by have:=A0.out.2.1;omega
   clear hjk hlt hxs Cg hF hnw hY YE Z8
   go_wp2_with (first
     | (go_at_call 34;(with_reducible refine hr.mono ?_);intro ev w5 hp5;obtain ⟨ρ,ν,rfl,hR,oF⟩:=hp5;have Z9:=oF.gY Zo)
     | (at_builtin;refine wpList_append_own_at _ rfl _ _ 30 rfl w1.heap.size 45 i0 (.pointer none) 1 8 Tryz.underlying30 hi hy0 hy1 hy2 rfl (by decide) _ _ _ rfl (((Yd hown oF).alloc _).alloc _) _ 1 1 [.pointer (some ⟨w5.heap.size,0,none⟩)] rfl rfl ?c1 ?c2 ?c3 ?c4 ?c5 ?_)
     | fail)
   case c1 =>
    intro i u hi'
    match i,hi' with
    | 0,hi'=>simp at hi';subst hi';simp [Addr.add]
    | i+1,hi'=>simp at hi'
   case c2=>intro u hu;simp at hu;subst hu;rfl
   case c3=>unfold maxLen;omega
   case c4=>omega
   case c5 =>
    have:=oF.size
    simp
    omega
   ·intro v' w6 hown' hgrow _ hat
    obtain ⟨⟨q1,q2,q3⟩,Cg,hF,hnw⟩:=A4.out
    obtain ⟨xH,hR2,Gw,vo⟩:=hR
    have Ye:=oF.size
    have xk:∀b,b<w5.heap.size+1→u12.ownBlock≠some b→w6.heap[b]?=(w5.alloc (.cells #[.pointer (some (ν 0)),.slice (some ⟨A j,0,none⟩) (L j).length cL,.pointer none,.bool false,.slice none 0 0] 44)).heap[b]?:=fun b hb hn=>by
     rw [hgrow.block b (by simp;omega) fun e=>hn e.symm]
     exact heap_alloc_old _ _ (by simp;omega)
    have hlt:=hown.lt
    have hold:∀b,wr.heap.size≤b→u12.ownBlock≠some b:=fun b hb e=>absurd (hlt b e).2 (Nat.not_lt.2 hb)
    have h6:w5.heap.size+2≤w6.heap.size:=by
     have:=hgrow.size
     simp at this
     omega
    have Zp:=AO.out.ex
    have Eb:∀i,i<n→A i<w1.heap.size:=fun i hi=>(Zp i hi).2.2
    have FW:∀i,i<n→u12.ownBlock≠some (A i):=fun i hi e=>by
     have:=(hlt _ e).1
     have:=Eb i hi
     omega
    have TB:∀i,i<n→w6.heap[A i]?=wr.heap[A i]?:=fun i hi=>by
     have:=Eb i hi
     have hs:=hnw.size
     rw [xk _ (by omega) (FW i hi),heap_alloc_old _ _ (by omega)]
     exact oF.block _ (by omega) id
    have UX:jW w6 aP aW A w1.heap.size j p (fun i=>Wk.new E i n N (L i)) F:=Cg.frame (fun b hb QW=>by
      rcases QW with QW | ⟨i,hi,rfl⟩
      · rw [xk b (by omega) (hF b QW).2.2,heap_alloc_old _ _ (by omega)]
        exact oF.block b hb id
      · exact TB i (by omega)) (by omega)
    have Zq:aI ρ ν dB w6:=xH.DV wZ fun b hb=>by
     have h1:=vo b hb
     have h2:=o6 xH hb
     rw [xk b (by omega) (hold b h1),heap_alloc_old _ _ h2]
    have UY:mV w6 (A j) (L j):=((AO.out.nw hnw).ex j q2).2.1.frame (TB j q2)
    have hs1:=hnw.size
    have Zr:=VQ (base:=w1.heap.size) (A:=A j) (c:=cL) (l:=L j) Zq hR2 Gw (fun h=>absurd (o6 xH h) (Nat.lt_irrefl _)) (by have:=Eb j q2;omega) (by have:=Eb j q2;omega) (fun h=>by have:=vo _ h;have:=Eb j q2;omega) UY (by
      rw [xk _ (by omega) (hold _ Ye)]
      exact rZ _ _)
    have hadd:=UX.add Zr (fun b hb QW=>by
      have h1:=(hF b QW).2.1
      rcases hb with rfl | hb
      · omega
      · have:=vo b hb
        omega) (fun i hi hb=>by
      have:=Eb i (by omega)
      rcases hb with e | hb
      · omega
      · have:=vo _ hb
        omega) (fun hb=>by have:=(hF _ hb).1;have:=Eb j q2;omega) (fun hb=>by
      have:=Eb j q2
      rcases hb with e | hb
      · omega
      · have:=vo _ hb
        omega)
    have hY:Cf w1 w6 aP A L E N n (j+1) p v':=by
     refine ⟨⟨lS aW j w5.heap.size,_,cast (congrArg (fun M=>jW w6 aP (lS aW j w5.heap.size) A w1.heap.size (j+1) p M _) ?_) hadd,?_,fun b hb=>?_⟩,LW ((hnw.trans oF).alloc _ |>.alloc _) hgrow fun g hg=>?_⟩
     ·exact Yb (fun i:Nat=>Wk.new E i n N (L i)) j
     ·have e:(List.range (j+1)).map (fun i=>Value.pointer (some (⟨lS aW j w5.heap.size i,0,none⟩:Addr)))=xs ++ [.pointer (some ⟨w5.heap.size,0,none⟩)]:=by
       rw [List.range_succ,List.map_append,List.map_cons,List.map_nil,dC,←q3]
       congr 1
       refine List.map_congr_left fun i hi=>?_
       rw [gq _ _ (Nat.ne_of_lt (List.mem_range.1 hi))]
      rw [e]
      exact hown'
     ·have Dk:b<w5.heap.size+2→u12.ownBlock≠some b→v'.ownBlock≠some b:=fun h1 h2 h3=>by
       rcases hat with h | h
       ·exact h2 (h.symm.trans h3)
       ·rw [h,Option.some.injEq] at h3
        omega
      rcases hb with hb | rfl | hb
      ·obtain ⟨a1,a2,a3⟩:=hF b hb
       exact ⟨a1,by omega,Dk (by omega) a3⟩
      ·exact ⟨by omega,by omega,Dk (by omega) (hold _ Ye)⟩
      ·have a1:=vo b hb
       have a2:=o6 xH hb
       exact ⟨by omega,by omega,Dk (by omega) (hold _ a1)⟩
     ·exact (hlt g hg).1
    have A5:Aside (Cf w1 w6 aP A L E N n (j+1) p v'):=hY
    clear hY hadd Zr Zq UX h6 hold hlt xk Ye xH hR2 Gw vo Cg hF hnw hown' hgrow hat hown hr oF Zp Eb FW TB UY Z9 Zo
    go_wp2
    go_roundg (gk-1)
    case measure=>omega
    case rel=>exact ⟨j+1,by go_num,by omega,A5.out⟩
  ·have hlt':¬(j:Int)<(n:Int):=by omega
   have hjn:j=n:=by omega
   subst hjn
   have A4:Aside (Cf w1 wr aP A L E N j j p u12):=hY.out
   obtain ⟨g,c,rfl⟩:∃g c,u12=.slice (some ⟨g,0,none⟩) j c:=by
    obtain ⟨⟨aM,F,-,hown,-⟩,-⟩:=hY.out
    obtain ⟨-,h2 | ⟨g,cap,cur,h2,-⟩⟩:=hown
    ·have:=A0.out.2.1
     omega
    ·exact ⟨g,cap,h2⟩
   clear hY
   go_wp2
   go_ret2
   obtain ⟨⟨q1,q2⟩,-⟩:=A2.out
   exact ⟨aP,g,c,rfl,p,A4.out,p0,q1,q2⟩
theorem Cf.run {w w':World} {aP:Addr} {E N:Int} {n g c:Nat} {p:PS} (h:Cf w w' aP A L E N n n p (.slice (some ⟨g,0,none⟩) n c)) :
  ∃aW,iT w w' aP aW A w.heap.size g n p (fun i=>Wk.new E i n N (L i)):=by
 obtain ⟨⟨aW,F,Cg,hown,hF⟩,hnw⟩:=h
 refine ⟨aW,⟨F,Cg,fun b hb=>⟨(hF b hb).1,fun e=>(hF b hb).2.2 (by rw [e];rfl)⟩⟩,fun i hi=>?_,hnw,hnw.size⟩
 have hc:=hown.cells (g:=g) rfl i (.pointer (some ⟨aW i,0,none⟩)) (by simp [hi])
 rw [←hc]
 congr 1
 unfold Addr.add
 split
 ·rename_i h;subst h;rfl
 ·simp
end
end Go.Proofs.YthomdlajobnmnaaGreatDoor
namespace Go.Proofs.YthomdlajobnmnaaGreatDoor
open Go.RowKit Go.Rex
def ma:List (Nat × TypeId × TypeId):=[(0,224,249),(1,224,249),(4,224,249),(5,224,249),(7,224,249),(6,224,249),(2,224,249)]
def QX:List (Nat × TypeId × TypeId):=[(0,224,249),(1,224,249),(4,224,249),(5,224,249),(7,224,249),(6,224,249)]
def si:dJ:={f:=8,nv:=1,gl:=dS ma 0,args:=[],hp:=iC 36 ma 0,iD:=1,ret:=.w (.one (.bool (.lit true))),hp':=List.replicate 14 dK}
def Yf:dJ:={f:=31,nv:=1,hp:=[{t:=163,cs:=[.int .i64 (.var 0),.iface 224 (.ptr {aD:=1})],ro:=true},{t:=500000+249,cs:=[.hole],ro:=true}],args:=[.one (.iface 161 (.ptr {aD:=0})),.one (.iface 224 (.ptr {aD:=1}))],iD:=1,ret:=.w (.one (.bool (.lit true))),hp':=[dK,dK]}
def sj:dJ:={f:=14,nv:=1,gl:=dS ma 0,args:=[.one .aQ],hp:=iC 36 ma 0,iD:=1,ret:=.gK [.one .bg,.one .bg,.one (.iface 224 (.ptr {aD:=3}))],hp':=List.replicate 14 dK}
end Go.Proofs.YthomdlajobnmnaaGreatDoor
