/- part 21 of the proof -/
import Derived.Tactics
import Derived.Tactics2
import Derived.Deep.LoopGhost
import Derived.Maps.AppendAt
import Derived.Test.YthomdlajobnmnaaDoorV10
import Derived.Test.YthomdlajobnmnaaDoorV17
import Derived.Test.YthomdlajobnmnaaDoorV19
import Derived.Test.YthomdlajobnmnaaDoorV20
set_option linter.unusedSimpArgs false
set_option linter.unusedVariables false
namespace Go.Proofs.YthomdlajobnmnaaDoor
open Go.RowKit Go.Rex
theorem N8 (w:World):Calls Tryd.prog 48 #[] w fun e w'=>e=.returned (.int .i64 85)∧w'=w:=by
 go_enter Tryd.func48,Tryd.ntmps48
 go_wp2
 go_ret
 exact ⟨rfl,rfl⟩
def uz:dZ:={f:=49,nv:=0,args:=[],hp:=[],jy:=0,ret:=.w (.agg [.int .i64 (.lit 0),.int .i64 (.lit 0),.int .i64 (.lit 24)]),hp':=[]}
noncomputable def X6:Ex:={sched:=sched,loops:=[],cons:=[],fin:=uz}
theorem VR:exec tab X6 1000 [] (fT uz.f uz.nv [] uz.gl uz.hp uz.args)=.fin {lo:=0,az:=0}:=by kernel_rfl
theorem VS:bF Tryd.prog uz (fun _=>True) (fun _=>True) :=
 dH eQ (E:=X6) (cs:=[]) rfl (fun k pre post h=>by cases h) cK rfl VR (by kernel_rfl) (fun ρ _ p hp=>by cases hp) (fun ρ _=>Sat.fin trivial)
theorem Ty (w:World):Calls Tryd.prog 49 #[] w fun e w'=>e=.returned (.agg #[.int .i64 0,.int .i64 0,.int .i64 24])∧Nw w w':=by
 refine Calls.mono (VS.run Tx (fun _=>⟨0,0,none⟩) w Ic ⟨fun g k _ h=>(by cases h),fun g g' k k' _ _ h=>(by cases h)⟩ trivial) ?_
 rintro e w' ⟨ρ,ν,hA,rfl,jg,hwr,how,-⟩
 exact ⟨rfl,hwr.os,hwr.tape,hwr.output,hwr.size,fun k hk _=>hwr.block k hk fun ⟨j,sb,hj,_⟩=>by
   have hj:([]:List SB)[j]?=some sb:=hj
   simp at hj⟩
section
variable {w w':World} {aP a:Addr} {aM:Nat→Addr} {n k:Nat} {p:PS} {M:Nat→Mn} {m:Mn} {F B:Nat→Prop}
theorem ma.nil (h:lG w aP p B):ma w aP aM 0 p M B :=
 ⟨B,fun _ _=>False,h,fun k hk=>absurd hk (Nat.not_lt_zero k),fun k hk=>absurd hk (Nat.not_lt_zero k),fun j k hj=>absurd hj (Nat.not_lt_zero j),fun _ h=>h,fun k hk=>absurd hk (Nat.not_lt_zero k)⟩
theorem ma.add (h:ma w aP aM n p M F) (hm:lT w a m B) (hd:∀b,B b→¬F b):ma w aP (bA aM n a) (n+1) p (bA M n m) (fun b=>F b∨B b):=by
 obtain ⟨BP,BM,h1,h2,h3,h4,h5,h6⟩:=h.ex
 refine ⟨BP,bA BM n B,h1,fun k hk=>?_,fun k hk b=>?_,fun j k hj hk hjk b=>?_,fun b hb=>.inl (h5 b hb),fun k hk b=>?_⟩
 ·by_cases hkn:k=n
  ·rw [hkn,aF,aF,aF];exact hm
  ·rw [aY _ _ hkn,aY _ _ hkn,aY _ _ hkn];exact h2 k (by omega)
 ·by_cases hkn:k=n
  ·rw [hkn,aF];exact fun x y=>hd b x (h5 b y)
  ·rw [aY _ _ hkn];exact h3 k (by omega) b
 ·by_cases q1:j=n
  ·have q2:k≠n:=fun e=>hjk (q1.trans e.symm)
   rw [q1,aF,aY _ _ q2]
   exact fun x y=>hd b x (h6 k (by omega) b y)
  ·rw [aY _ _ q1]
   by_cases q2:k=n
   ·rw [q2,aF]
    exact fun x y=>hd b y (h6 j (by omega) b x)
   ·rw [aY _ _ q2]
    exact h4 j k (by omega) (by omega) hjk b
 ·by_cases hkn:k=n
  ·rw [hkn,aF];exact .inr
  ·rw [aY _ _ hkn];exact fun x=>.inl (h6 k (by omega) b x)
end
theorem Nw.trans {a b c:World} (h1:Nw a b) (h2:Nw b c):Nw a c :=
 ⟨h2.os.trans h1.os,h2.tape.trans h1.tape,h2.output.trans h1.output,Nat.le_trans h1.size h2.size,fun k hk _=>(h2.block k (Nat.lt_of_lt_of_le hk h1.size) id).trans (h1.block k hk id)⟩
theorem Kq {a b c:World} {F:Nat→Prop} (h1:Nw a b) (h2:jL b F c) (hF:∀x,F x→a.heap.size≤x):Nw a c :=
 ⟨h2.os.trans h1.os,h2.tape.trans h1.tape,h2.output.trans h1.output,Nat.le_trans h1.size h2.size,fun k hk _=>(h2.block k (Nat.lt_of_lt_of_le hk h1.size) fun h=>absurd (hF k h) (Nat.not_le.2 hk)).trans (h1.block k hk id)⟩
def uY:Ac:=⟨2,0,0,24,⟨0,0,0,0,false⟩,⟨0,0,0,1,false⟩⟩
theorem GY {p:PS} {m:Int} (h:sD p 85 m):∃p',p.act uY=(p',some ⟨Wd.zero,true⟩)∧p'={p with steps:=p.steps+1,bd:=fun b=>if b=24 then ⟨0,0,0,1,false⟩ else p.bd b}:=by
 have hv:p.has 0 0 24:=by simp [PS.has,h.nb]
 refine ⟨_,zT hv (.inl rfl),?_⟩
 unfold PS.put
 rw [if_pos rfl]
 rfl
theorem VT:(Tryd.prog.info? 56).map (fun i=>(i.zero,i.size,i.bytes))=some (some (.pointer none),1,8):=by kernel_rfl
theorem qH.nw {w w':World} {iF:Nat→Addr} (h:qH w iF) (hz:∀k,k<8→(iF k).block<w.heap.size) (hn:Nw w w'):qH w' iF :=
 h.frame hn.size fun k hk=>hn.block _ (hz k hk) id
theorem X7 {w w':World} {base:Nat} {e:TypeId} {size:Nat} {v:Value} {n:Nat} {xs:List Value} (h:w.ownsRow base e size v n xs) (hn:Nw w w'):w'.ownsRow base e size v n xs:=by
 obtain ⟨h1,h2 | ⟨g,cap,cur,h2,h3,h4,h5⟩⟩:=h
 ·exact ⟨h1,.inl h2⟩
 ·refine ⟨h1,.inr ⟨g,cap,cur,h2,h3,?_,h5⟩⟩
  rw [hn.block g ?_ id]
  ·exact h4
  ·rcases Nat.lt_or_ge g w.heap.size with h | h
   ·exact h
   ·rw [Array.getElem?_eq_none h] at h4;cases h4
theorem VU {w0 w w':World} {row:Option Nat} (h:Nw w0 w) (hg:w.grownBy w' row) (hr:∀g,row=some g→w0.heap.size≤g):Nw w0 w' :=
 h.step hg.os hg.tape hg.output hg.size fun k hk _=>hg.block k (Nat.lt_of_lt_of_le hk h.size) fun e=>by have:=hr k e.symm;omega
theorem Kr (w:World) (o:Obj):(w.alloc o).heap[w.heap.size]?=some o:=by
 show (w.heap.push o)[w.heap.size]?=some o
 simp
structure CR (w0 w:World) (aP:Addr) (E N:Int) (n j:Nat) (p:PS) (s:Value):Prop where
 ex:∃aM F,ma w aP aM j p (fun i=>Mn.new E i n N) F∧w.ownsRow w0.heap.size 56 1 s j ((List.range j).map fun i=>.pointer (some (aM i)))∧∀b,F b→w0.heap.size≤b∧b<w.heap.size∧s.ownBlock≠some b
 nw:Nw w0 w
set_option maxHeartbeats 4000000 in
set_option maxRecDepth 100000 in
theorem QK (E N m:Int) (n:Nat) (h1:1≤E∧E≤5) (h3:1≤n∧n≤6) (h4:1≤N∧N≤64) (h:0≤m∧m≤1024) (w:World) (iF:Nat→Addr) (hs:qH w iF) (hz:∀k,k<8→(iF k).block<w.heap.size) :
  Calls Tryd.prog 21 #[.int .i64 E,.int .i64 n,.int .i64 N,.int .i64 m] w fun e w'=>∃aP g c p p0,e=.returned (.tuple #[.pointer (some aP),.slice (some ⟨g,0,none⟩) n c])∧CR w w' aP E N n n p (.slice (some ⟨g,0,none⟩) n c)∧sD p0 85 m∧p0.act uY=(p,some ⟨Wd.zero,true⟩):=by
 obtain ⟨i0,hi,hy0,hy1,hy2⟩:=info_parts VT
 have hc:=N8 w
 have hp:=NY m h w
 have A0:Aside ((1≤E∧E≤5)∧(1≤n∧n≤6)∧(1≤N∧N≤64)∧(0≤m∧m≤1024)∧qH w iF∧∀k,k<8→(iF k).block<w.heap.size):=⟨h1,h3,h4,h,hs,hz⟩
 clear h1 h3 h4 h hs hz
 go_enter Tryd.func21,Tryd.ntmps21
 go_wp2_with (go_at_call 48;(with_reducible refine hc.mono ?_);rintro ev w1 ⟨rfl,rfl⟩)
 go_wp2_with (go_at_call 13;(with_reducible refine hp.mono ?_);intro ev w2 hp2;obtain ⟨aP,p0,B,rfl,GZ,hF,hB,hw⟩:=hp2)
 have he:=Ty w2
 have A1:Aside (lG w2 aP p0 B∧sD p0 85 m∧(∀b,B b→w1.heap.size≤b)∧Nw w1 w2):=⟨GZ,hF,hB,hw⟩
 clear hp hc GZ hF hB hw
 go_wp2_with (go_at_call 49;(with_reducible refine he.mono ?_);rintro ev w3 ⟨rfl,hw3⟩)
 obtain ⟨GZ,hF,hB,hw⟩:=A1.out
 obtain ⟨h1,h3,h4,h,hs,hz⟩:=A0.out
 obtain ⟨p,hact,hp⟩:=GY hF
 have X8:=(GZ.mono (B':=fun b=>B b∧b<w2.heap.size) fun b x y=>⟨x,y⟩).frame (w':=w3) fun b hb=>hw3.block b hb.2 id
 have hd:=YA (a:=uY) (hs.nw hz (hw.trans hw3)) X8 (fun k hk hb=>absurd (hB _ hb.1) (Nat.not_le.2 (hz k hk))) (hF.ok h ⟨by decide,by decide⟩) (by rw [hF.steps];decide) hact
 rw [show NZ uY=.agg #[.int .i64 2,.int .i64 0,.int .i64 0,.int .i64 24,.int .i64 0,.int .i64 0,.int .i64 0,.int .i64 0,.bool false,.int .i64 0,.int .i64 0,.int .i64 0,.int .i64 1,.bool false] from rfl] at hd
 have A2:Aside ((sD p0 85 m∧p0.act uY=(p,some ⟨Wd.zero,true⟩))∧(∀b,B b→w1.heap.size≤b)∧Nw w1 w3):=⟨⟨hF,hact⟩,hB,hw.trans hw3⟩
 clear GZ hF hB hw h1 h3 h4 h hs hz hact hp X8 hw3 A1 he
 go_wp2_with (go_at_call 14;(with_reducible refine hd.mono ?_);intro ev w4 hp4;obtain ⟨rfl,B',GZ,hB',hw4⟩:=hp4)
 have A3:Aside (lG w4 aP p B'∧(∀b,B' b→w1.heap.size≤b)∧Nw w1 w4):=by
  obtain ⟨-,q2,q3⟩:=A2.out
  refine ⟨GZ,fun b hb=>?_,Kq q3 hw4 fun x hx=>q2 x hx.1⟩
  rcases hB' b hb with h | h
  ·exact Nat.le_trans q3.size h
  ·exact q2 b h.1
 clear GZ hB' hw4 hd
 go_loopg [12,13] n (fun k s i wr=>∃j:Nat,i=.int .i64 j∧j+k=n∧Aside (CR w1 wr aP E N n j p s))
 case atStart =>
  obtain ⟨q1,q2,q3⟩:=A3.out
  refine ⟨0,rfl,by omega,⟨fun _=>⟨0,0,none⟩,fun b=>B' b∧b<w4.heap.size,ma.mono ((ma.nil (q1.mono (B':=fun b=>B' b∧b<w4.heap.size) fun b x y=>⟨x,y⟩)).frame fun b hb _=>heap_alloc_old _ _ hb) fun b x _=>x,⟨rfl,.inr ⟨w4.heap.size,0,#[],rfl,q3.size,Kr _ _,Nat.le_refl _,Nat.zero_le _,rfl,rfl⟩⟩,fun b hb=>⟨q2 b hb.1,?_,fun e=>?_⟩⟩,q3.alloc _⟩
  ·have:=hb.2
   simp
   omega
  ·have e:=Option.some.inj e
   have:=hb.2
   simp at e
   omega
 case round =>
  obtain ⟨j,rfl,hjk,hY⟩:=hrel
  rcases Nat.lt_or_ge j n with hlt | hge
  ·have hlt':(j:Int)<(n:Int):=by omega
   obtain ⟨⟨aM,F,lU,hown,hF⟩,hnw⟩:=hY.out
   have hr:=N7 E j n N A0.out.1 ⟨by omega,by omega⟩ (by have:=A0.out.2.1;omega) A0.out.2.2.1 wr
   generalize hxs:(List.range j).map (fun i=>Value.pointer (some (aM i)))=xs at hown
   have A4:Aside ((j+gk=n∧j<n∧(List.range j).map (fun i=>Value.pointer (some (aM i)))=xs)∧ma wr aP aM j p (fun i=>Mn.new E i n N) F∧(∀b,F b→w1.heap.size≤b∧b<wr.heap.size∧u12.ownBlock≠some b)∧Nw w1 wr):=⟨⟨hjk,hlt,hxs⟩,lU,hF,hnw⟩
   have hsz:=hnw.size
   have hj6:j<6:=by have:=A0.out.2.1;omega
   clear hjk hlt hxs lU hF hnw hY
   go_wp2_with (first
     | (go_at_call 30;(with_reducible refine hr.mono ?_);intro ev w5 hp5;obtain ⟨ρ,ν,rfl,hR,Bp⟩:=hp5)
     | (at_builtin;refine wpList_append_own_at _ rfl _ _ 53 rfl w1.heap.size 56 i0 (.pointer none) 1 8 Tryd.underlying53 hi hy0 hy1 hy2 rfl (by decide) _ _ _ rfl (((X7 hown Bp).alloc _).alloc _) _ 1 1 [.pointer (some ⟨w5.heap.size,0,none⟩)] rfl rfl ?c1 ?c2 ?c3 ?c4 ?c5 ?_)
     | fail)
   case c1 =>
    intro i u hi'
    match i,hi' with
    | 0,hi'=>simp at hi';subst hi';simp [Addr.add]
    | i+1,hi'=>simp at hi'
   case c2=>intro u hu;simp at hu;subst hu;rfl
   case c3=>unfold maxLen;omega
   case c4=>omega
   case c5 =>
    have:=Bp.size
    simp
    omega
   ·intro v' w6 hown' hgrow _ hat
    obtain ⟨⟨q1,q2,q3⟩,lU,hF,hnw⟩:=A4.out
    obtain ⟨QL,hR2,Zf,UJ⟩:=hR
    have X9:=Bp.size
    have N9:∀b,b<w5.heap.size+1→u12.ownBlock≠some b→w6.heap[b]?=(w5.alloc (.cells #[.pointer (some (ν 0)),.int .i64 0,.int .i64 0,.int .i64 0,.int .i64 0,.int .i64 0,.bool false,.int .i64 0,.int .i64 0,.int .i64 0,.int .i64 0,.bool false,.bool false,.bool false] 60)).heap[b]?:=fun b hb hn=>by
     rw [hgrow.block b (by simp;omega) fun e=>hn e.symm]
     exact heap_alloc_old _ _ (by simp;omega)
    have hlt:=hown.lt
    have hold:∀b,wr.heap.size≤b→u12.ownBlock≠some b:=fun b hb e=>absurd (hlt b e).2 (Nat.not_lt.2 hb)
    have h6:w5.heap.size+2≤w6.heap.size:=by
     have:=hgrow.size
     simp at this
     omega
    have UK:ma w6 aP aM j p (fun i=>Mn.new E i n N) F:=lU.frame fun b hb Ya=>by
     rw [N9 b (by omega) (hF b Ya).2.2,heap_alloc_old _ _ (by omega)]
     exact Bp.block b hb id
    have Zg:aN ρ ν bP w6:=QL.Ew EA fun b hb=>by
     have h1:=UJ b hb
     have h2:=uw QL hb
     rw [N9 b (by omega) (hold b h1),heap_alloc_old _ _ h2]
    have G5:=VP Zg hR2 Zf (fun h=>absurd (uw QL h) (Nat.lt_irrefl _)) (by
      rw [N9 _ (by omega) (hold _ X9)]
      exact Kr _ _)
    have hadd:=UK.add G5 fun b hb Ya=>by
     have h1:=(hF b Ya).2.1
     rcases hb with rfl | hb
     ·omega
     ·have:=UJ b hb
      omega
    have hY:CR w1 w6 aP E N n (j+1) p v':=by
     refine ⟨⟨bA aM j ⟨w5.heap.size,0,none⟩,_,cast (congrArg (fun M=>ma w6 aP (bA aM j ⟨w5.heap.size,0,none⟩) (j+1) p M _) ?_) hadd,?_,fun b hb=>?_⟩,VU ((hnw.trans Bp).alloc _ |>.alloc _) hgrow fun g hg=>?_⟩
     ·exact zV (fun i:Nat=>Mn.new E i n N) j
     ·have e:(List.range (j+1)).map (fun i=>Value.pointer (some (bA aM j ⟨w5.heap.size,0,none⟩ i)))=xs ++ [.pointer (some ⟨w5.heap.size,0,none⟩)]:=by
       rw [List.range_succ,List.map_append,List.map_cons,List.map_nil,aF,←q3]
       congr 1
       refine List.map_congr_left fun i hi=>?_
       rw [aY _ _ (Nat.ne_of_lt (List.mem_range.1 hi))]
      rw [e]
      exact hown'
     ·have Ld:b<w5.heap.size+2→u12.ownBlock≠some b→v'.ownBlock≠some b:=fun h1 h2 h3=>by
       rcases hat with h | h
       ·exact h2 (h.symm.trans h3)
       ·rw [h,Option.some.injEq] at h3
        omega
      rcases hb with hb | rfl | hb
      ·obtain ⟨a1,a2,a3⟩:=hF b hb
       exact ⟨a1,by omega,Ld (by omega) a3⟩
      ·exact ⟨by omega,by omega,Ld (by omega) (hold _ X9)⟩
      ·have a1:=UJ b hb
       have a2:=uw QL hb
       exact ⟨by omega,by omega,Ld (by omega) (hold _ a1)⟩
     ·exact (hlt g hg).1
    have A5:Aside (CR w1 w6 aP E N n (j+1) p v'):=hY
    clear hY hadd G5 Zg UK h6 hold hlt N9 X9 QL hR2 Zf UJ lU hF hnw hown' hgrow hat hown hr Bp
    go_wp2
    go_roundg (gk-1)
    case measure=>omega
    case rel=>exact ⟨j+1,by go_num,by omega,A5.out⟩
  ·have hlt':¬(j:Int)<(n:Int):=by omega
   have hjn:j=n:=by omega
   subst hjn
   have A4:Aside (CR w1 wr aP E N j j p u12):=hY.out
   obtain ⟨g,c,rfl⟩:∃g c,u12=.slice (some ⟨g,0,none⟩) j c:=by
    obtain ⟨⟨aM,F,-,hown,-⟩,-⟩:=hY.out
    obtain ⟨-,h2 | ⟨g,cap,cur,h2,-⟩⟩:=hown
    ·have:=A0.out.2.1
     omega
    ·exact ⟨g,cap,h2⟩
   clear hY
   go_wp2
   go_ret2
   obtain ⟨⟨q1,q2⟩,-⟩:=A2.out
   exact ⟨aP,g,c,rfl,p,A4.out,p0,q1,q2⟩
def yg:List SB:=jA 27 oK 0
structure ow (w:World) (ν:Nat→Addr):Prop where
 hp:∃ρ,aN ρ ν yg w
 gl:jo ν (gL oK 0)
def gS (k:Nat):Nat:=if k<2 then k else k+4
theorem nG:(List.range gF.length).map (fun j=>yg[gS j]?)=gF.map fun sb=>some (sb.aV id gS):=by kernel_rfl
theorem Yb:∀i j,i<gF.length→j<gF.length→gS i=gS j→i=j:=by
 intro i j _ _ h
 unfold gS at h
 split at h <;> split at h <;> omega
theorem glS (ν:Nat→Addr) (h:jo ν (gL oK 0)):jo (fun k=>ν (gS k)) (gL zF 0):=by
 have hm:∀g k,assoc g (gL zF 0)=some k→assoc g (gL oK 0)=some (gS k):=fun g k hk=>by
  have hmem:=ku hk
  have:∀x∈gL zF 0,assoc x.1 (gL oK 0)=some (gS x.2):=by decide
  exact this _ hmem
 exact ⟨fun g k hg hk=>h.at_ g _ hg (hm g k hk),fun g g' k k' h1 h2 h3 h4=>h.ne g g' _ _ h1 h2 (hm _ _ h3) (hm _ _ h4)⟩
theorem ow.sn {w:World} {ν:Nat→Addr} (h:ow w ν):qH w fun k=>ν (gS k):=by
 obtain ⟨⟨ρ,h1⟩,h2⟩:=h
 exact ⟨⟨ρ.pull id,h1.sub nG Yb⟩,glS ν h2⟩
theorem ow.lt {w:World} {ν:Nat→Addr} (h:ow w ν) {k:Nat} (hk:k<12):(ν k).block<w.heap.size:=by
 obtain ⟨⟨ρ,h1⟩,h2⟩:=h
 have hl:k<yg.length:=hk
 have hd:∀sb∈yg,sb.dead ρ=false:=by
  have hg:(yg.all fun b=>!b.gone && (match b.nl with | .lit false=>true | _=>false))=true:=by kernel_rfl
  intro sb hsb
  have:=List.all_eq_true.1 hg sb hsb
  simp only [Bool.and_eq_true,Bool.not_eq_true'] at this
  obtain ⟨a,b⟩:=this
  unfold SB.dead
  rw [a]
  split at b
  ·rename_i he
   rw [he]
   rfl
  ·cases b
 exact h1.lt (List.getElem?_eq_getElem hl) (hd _ (List.getElem_mem hl))
theorem ow.nw {w w':World} {ν:Nat→Addr} (h:ow w ν) (hn:Nw w w'):ow w' ν:=by
 have hl:=fun k hk=>h.lt (k:=k) hk
 obtain ⟨⟨ρ,h1⟩,h2⟩:=h
 exact ⟨⟨ρ,h1.EY hn.size fun k sb hk _=>hn.block _ (hl k (List.getElem?_eq_some_iff.1 hk).1) id⟩,h2⟩
theorem Oa {w:World} {ν:Nat→Addr} (h:ow w ν):Calls Tryd.prog 20 #[] w fun e w'=>e=.returned (.bool true)∧Nw w w':=by
 obtain ⟨⟨ρ,h1⟩,h2⟩:=h
 refine Calls.mono (NN.run ρ ν w h1 h2 trivial) ?_
 rintro e w' ⟨ρ',aO,hA,rfl,jg,hwr,how,-⟩
 exact ⟨rfl,hwr.os,hwr.tape,hwr.output,hwr.size,fun k hk _=>hwr.block k hk fun h=>qG (by kernel_rfl) h⟩
theorem Nw.yh {w w':World} (h:Nw w w') {a:Addr} {x:Value} (hc:w.cell? a=some x):w'.cell? a=some x:=by
 rw [←hc]
 unfold World.cell?
 rw [h.block _ (World.block_lt_of_cell? _ _ hc) id]
def Rd (w:World) (v:Value) (l:List Int):Prop :=
 ∃A c,v=.slice A l.length c∧l.length≤c∧c≤9223372036854775807∧∀k,k<l.length→∃ad,A=some ad∧w.cell? (ad.add k)=some (.int .i64 (l.getD k 0))
theorem Rd.nw {w w':World} {v:Value} {l:List Int} (h:Rd w v l) (hn:Nw w w'):Rd w' v l:=by
 obtain ⟨A,c,h1,h2,h3,h4⟩:=h
 refine ⟨A,c,h1,h2,h3,fun k hk=>?_⟩
 obtain ⟨ad,h5,h6⟩:=h4 k hk
 exact ⟨ad,h5,hn.yh h6⟩
def Kt (m:Nat):List (Bool × List FK):=[(true,List.replicate m (.int .i64)),Xm]
theorem YB {ρ:Env} {ν:Nat→Addr} {w:World} {b k:Nat} {H:List SB} (hp:aN ρ ν H w) (hb:H[k]?=some {t:=3,aZ:=[{r:=b+3,n1:=.var (b+1),s1:=1,ks:=[.int .i64]}],ro:=true,nl:=.var b})
  (h:(ρ.bv b=true→ρ.iv (b+1)=0∧ρ.iv (b+2)=0)∧0≤ρ.iv (b+1)∧ρ.iv (b+1)≤ρ.iv (b+2)∧ρ.iv (b+2)≤9223372036854775807) :
  Rd w (SC.den ρ ν (.fG (.var b) {aI:=k,i1:=.lit 0,s1:=1} (.var (b+1)) (.var (b+2)))) ((List.range (ρ.iv (b+1)).toNat).map fun i=>ρ.ic (b+3) i 0 0):=by
 obtain ⟨h1,h2,h3,h4⟩:=h
 have hlen:((List.range (ρ.iv (b+1)).toNat).map fun i=>ρ.ic (b+3) i 0 0).length=(ρ.iv (b+1)).toNat:=by simp
 have hden:SC.den ρ ν (.fG (.var b) {aI:=k,i1:=.lit 0,s1:=1} (.var (b+1)) (.var (b+2)))=if ρ.bv b=true then .slice none 0 0 else .slice (some (ν k)) (ρ.iv (b+1)).toNat (ρ.iv (b+2)).toNat:=by
  simp [SC.den,BE.den,IE.den,SA.den,SA.off,Addr.add_zero]
 cases hnil:ρ.bv b with
 | true =>
  obtain ⟨z1,z2⟩:=h1 hnil
  refine ⟨none,0,?_,?_,by omega,fun j hj=>?_⟩
  ·rw [hden,hlen,z1,if_pos hnil]
   rfl
  ·rw [hlen,z1]
   decide
  ·rw [hlen,z1] at hj
   exact absurd hj (Nat.not_lt_zero _)
 | false =>
  refine ⟨some (ν k),(ρ.iv (b+2)).toNat,?_,?_,by omega,fun j hj=>⟨ν k,rfl,?_⟩⟩
  ·rw [hden,hlen,hnil,if_neg (by decide)]
  ·rw [hlen]
   omega
  ·rw [hlen] at hj
   obtain ⟨-,cs,hcs,hcell⟩:=hp.rd k _ hb (by simp [SB.dead,BE.den,hnil]) rfl
   have:=hcs.sg 0 _ rfl j 0 0 (by show (j:Int)<ρ.iv (b+1);omega) (by show 0<1;decide) (by show 0<1;decide)
   have h0:=hcell _ _ this
   simp only [Nat.mul_one,Nat.zero_mul,Nat.add_zero] at h0
   rw [h0]
   simp [df,aa.base,hj]
theorem KM (l:List SB):qw (l.map fun _=>dD)=true:=by
 induction l with
 | nil=>rfl
 | cons x r ih=>simpa [qw,dD] using ih
theorem Yc {f:FuncId} {sh:List (Bool × List FK)} (hf:∃fn,Tryd.prog.funcs[f]?=some fn∧fn.body.isSome=true∧(fn.name == "runtime.NumGoroutine")=false)
  (hrun:∀ρ ν w,aN ρ ν (iO 27 oK f sh).hp w→ow w ν→zC sh ρ.num→Calls Tryd.prog f ((iO 27 oK f sh).args.map (·.den ρ ν)).toArray w fun e w'=>e=.returned (.bool true)∧Nw w w') :
  bF Tryd.prog (iO 27 oK f sh) (zC sh) (xH oK sh):=by
 refine ⟨hf,fun ρ ν w jg hgl hpre=>?_⟩
 have hsr:ow w ν:=by
  refine ⟨⟨ρ,?_⟩,hgl⟩
  have e:∀(k:Nat) (sb:SB),yg[k]?=some sb→(iO 27 oK f sh).hp[k]?=some sb:=fun k sb hk=>by
   show (yg ++ _)[k]?=some sb
   rw [List.getElem?_append_left (List.getElem?_eq_some_iff.1 hk).1]
   exact hk
  exact ⟨fun i j a b hi hj=>jg.inj i j a b (e i a hi) (e j b hj),fun k sb hk=>jg.aI k sb (e k sb hk),fun k sb hk=>jg.rd k sb (e k sb hk)⟩
 refine (hrun ρ ν w jg hsr hpre).mono ?_
 rintro e w' ⟨rfl,hw⟩
 obtain ⟨N,hN⟩:∃N,N=(iO 27 oK f sh).nv:=⟨_,rfl⟩
 have hd:∀(j:Nat) (sb:SB),(iO 27 oK f sh).hp'[j]?=some sb→∀q:Env,sb.dead q=true:=fun j sb hj q=>by
  unfold SB.dead
  rw [xG (KM _) hj]
  rfl
 refine ⟨{ρ with bv:=fun i=>if i=N then true else ρ.bv i},ν,⟨fun _ _=>rfl,fun i hi=>if_neg (by omega),fun _ _=>rfl,fun _ _=>rfl,fun _ _=>rfl,fun _ _=>rfl,fun _ _=>rfl⟩,?_,⟨fun i j a b hi hj da=>?_,fun j sb hj dj=>?_,fun j sb hj dj=>?_⟩,⟨hw.os,hw.tape,hw.output,hw.size,fun k hk _=>hw.block k hk id⟩,fun j sb hj _ dj=>?_,?_⟩
 ·show Ending.returned (.bool true)=.returned (.bool (if (iO 27 oK f sh).nv=N then true else _))
  rw [if_pos hN.symm]
 ·rw [hd i a hi] at da;cases da
 ·rw [hd j sb hj] at dj;cases dj
 ·rw [hd j sb hj] at dj;cases dj
 ·rw [hd j sb hj] at dj;cases dj
 ·show (if (iO 27 oK f sh).nv=N then true else _)=true
  rw [if_pos hN.symm]
theorem ZU {f:FuncId} (hf:∃fn,Tryd.prog.funcs[f]?=some fn∧fn.body.isSome=true∧(fn.name == "runtime.NumGoroutine")=false)
  (h:∀w ν a0 a1 a2 a3 v l,ow w ν→Rd w v l→Calls Tryd.prog f #[.agg #[.int .i64 a0,.int .i64 a1,.int .i64 a2,.int .i64 a3],v] w fun e w'=>e=.returned (.bool true)∧Nw w w') :
  bF Tryd.prog (iO 27 oK f (Kt 4)) (zC (Kt 4)) (xH oK (Kt 4)) :=
 Yc hf fun ρ ν w jg hs hpre=>h w ν (ρ.iv 0) (ρ.iv 1) (ρ.iv 2) (ρ.iv 3) _ _ hs (YB (b:=4) (k:=12) jg rfl (by
   replace hpre:_∧_∧_∧_∧((ρ.bv 4=true→ρ.iv 5=0∧ρ.iv 6=0)∧0≤ρ.iv 5∧ρ.iv 5≤ρ.iv 6∧ρ.iv 6≤9223372036854775807∧_)∧_:=hpre
   obtain ⟨-,-,-,-,⟨h1,h2,h3,h4,-⟩,-⟩:=hpre
   exact ⟨h1,h2,h3,h4⟩))
theorem lT.cells {w:World} {a:Addr} {m:Mn} {B:Nat→Prop} (h:lT w a m B):∃b r,a=⟨b,0,none⟩∧w.cell? ⟨b,0,none⟩=some (.pointer (some r))∧w.cell? ⟨b,1,none⟩=some (.int .i64 m.pc)∧w.cell? ⟨b,12,none⟩=some (.bool m.bad)∧w.cell? ⟨b,13,none⟩=some (.bool m.stop)∧B b:=by
 obtain ⟨ρ,ν,rfl,h1,rfl,h3,h4⟩:=h.ex
 obtain ⟨g1,cs,g2,g3⟩:=h1.aI 0 _ rfl rfl rfl
 have g2:=g2.cells rfl
 have hc:∀(p:Nat) (c:SC),(tY 71 1).cs[p]?=some c→c.isHole=false→w.cell? ⟨(ν 0).block,p,none⟩=some (c.den ρ ν):=fun p c hp hh=>by
  have:=g3.ex p c hp hh
  unfold World.cell?
  rw [g2]
  exact this
 exact ⟨(ν 0).block,_,g1,hc 0 _ rfl rfl,hc 1 _ rfl rfl,hc 12 _ rfl rfl,hc 13 _ rfl rfl,h4 _ ⟨0,_,rfl,rfl,rfl⟩⟩
theorem lG.fault {w:World} {a:Addr} {p:PS} {B:Nat→Prop} (h:lG w a p B) (hg:p.gV=true):∃b,a=⟨b,0,none⟩∧w.cell? ⟨b,5,none⟩=some .nilIface:=by
 obtain ⟨ρ,ν,rfl,h1,rfl,h3,h4⟩:=h.ex
 obtain ⟨g1,cs,g2,g3⟩:=h1.aI 0 _ rfl rfl rfl
 have g2:=g2.cells rfl
 refine ⟨(ν 0).block,g1,?_⟩
 have:=g3.ex 5 _ rfl rfl
 unfold World.cell?
 rw [g2]
 refine this.trans (congrArg some ?_)
 show (if ρ.bv 7=true then Value.nilIface else _)=_
 exact if_pos hg
theorem Ob {w:World} {b:Nat} (h:w.cell? ⟨b,5,none⟩=some .nilIface):Calls Tryd.prog 17 #[.pointer (some ⟨b,0,none⟩)] w fun e w'=>e=.returned .nilIface∧w'=w:=by
 go_enter Tryd.func17,Tryd.ntmps17
 go_wp2
 go_ret
 exact ⟨rfl,rfl⟩
structure bN (w1:World) (aP:Addr) (aM:Nat→Addr) (g n:Nat) (e k:Int) (w:World) (p:PS) (T:Nat→Th) (own:Int→iy) (A:Nat→Int) (M:Nat→Mn):Prop where
 sys:Sys k n e p T own A M
 LZ:∃F,ma w aP aM n p M F∧∀b,F b→w1.heap.size≤b∧b≠g
 row:∀i,i<n→w.cell? ⟨g,i,none⟩=some (.pointer (some (aM i)))
 nw:Nw w1 w
theorem QM {p0 p:PS} {m E N:Int} {n:Nat} (h:sD p0 85 m) (ha:p0.act uY=(p,some ⟨Wd.zero,true⟩)) (hm:0≤m∧m≤1024) (h1:1≤E∧E≤5) (h3:1≤n∧n≤6) (h4:1≤N) :
  Sys 1 n E p (fun i=>Th.new E i n N) (fun _=>.free) (fun _=>1) (fun i=>Mn.new E i n N)∧p.ns=m:=by
 obtain ⟨p',hp,he⟩:=GY h
 rw [ha] at hp
 simp only [Prod.mk.injEq] at hp
 have hpe:p={p0 with steps:=p0.steps+1,bd:=fun b=>if b=24 then ⟨0,0,0,1,false⟩ else p0.bd b}:=hp.1.trans he
 have hok:p.OK:=by
  have:=(h.ok hm ⟨by decide,by decide⟩).act uY
  rw [ha] at this
  exact this
 refine ⟨Sys.init hok (by rw [hpe];exact h.nb) (by rw [hpe];exact h.gV) h3 h1 h4 (fun k hk=>?_) ?_ (fun k=>by rw [hpe];exact h.used k) (fun i j=>by rw [hpe];exact h.cell i j) ?_,by rw [hpe];exact h.ns⟩
 ·rw [hpe]
  exact (if_neg hk).trans (h.bd k)
 ·rw [hpe]
  rfl
 ·rw [hpe]
  show p0.steps+1≤1
  rw [h.steps]
  decide
theorem CR.run {w w':World} {aP:Addr} {E N m:Int} {n g c:Nat} {p p0:PS} (h:CR w w' aP E N n n p (.slice (some ⟨g,0,none⟩) n c)) (hf:sD p0 85 m) (ha:p0.act uY=(p,some ⟨Wd.zero,true⟩)) (hm:0≤m∧m≤1024) (h1:1≤E∧E≤5) (h3:1≤n∧n≤6) (h4:1≤N) :
  ∃aM,bN w aP aM g n E 1 w' p (fun i=>Th.new E i n N) (fun _=>.free) (fun _=>1) (fun i=>Mn.new E i n N):=by
 obtain ⟨⟨aM,F,lU,hown,hF⟩,hnw⟩:=h
 refine ⟨aM,(QM hf ha hm h1 h3 h4).1,⟨F,lU,fun b hb=>⟨(hF b hb).1,fun e=>(hF b hb).2.2 (by rw [e];rfl)⟩⟩,fun i hi=>?_,hnw⟩
 have hc:=hown.cells (g:=g) rfl i (.pointer (some (aM i))) (by simp [hi])
 rw [←hc]
 congr 1
 unfold Addr.add
 split
 ·rename_i h;subst h;rfl
 ·simp
section
variable {w1 w:World} {aP:Addr} {aM:Nat→Addr} {g n i:Nat} {e k:Int} {p:PS} {T:Nat→Th} {own:Int→iy} {A:Nat→Int} {M:Nat→Mn} {ν:Nat→Addr}
theorem bN.step (R:bN w1 aP aM g n e k w p T own A M) (hi:i<n) (hk:k≤900000) (hs:ow w1 ν) :
  Calls Tryd.prog 22 #[.pointer (some (aM i)),.pointer (some aP)] w fun ev w'=>ev=.returned (.bool true)∧∃own' A',bN w1 aP aM g n e (k+1) w' ((T i).step p).2.1 (bA T i ((T i).step p).1) own' A' (bA M i ((M i).step p).1):=by
 obtain ⟨F,lU,hF⟩:=R.LZ
 have hz:∀j,j<8→(ν (gS j)).block<w1.heap.size:=fun j hj=>hs.lt (by unfold gS;split <;> omega)
 have hsn:=hs.sn.nw hz R.nw
 obtain ⟨s1,s2,own',A',hS⟩:=R.sys.step hi
 refine (lU.step hi hsn (fun j hj hb=>absurd (hF _ hb).1 (Nat.not_le.2 (hz j hj))) ⟨k,n,e,T,own,A,i,hk,R.sys.gV hi⟩).mono ?_
 rintro ev w' ⟨rfl,YC,hwr⟩
 have hg:g<w.heap.size:=World.block_lt_of_cell? _ _ (R.row i hi)
 refine ⟨by rw [s1],own',A',⟨by rw [←s2];exact hS,⟨_,by rw [←s2];exact YC,fun b hb=>?_⟩,fun j hj=>?_,Kq R.nw hwr fun x hx=>(hF x hx).1⟩⟩
 ·rcases hb with hb | hb
  ·exact hF b hb
  ·exact ⟨Nat.le_trans R.nw.size hb,by omega⟩
 ·rw [←R.row j hj]
  unfold World.cell?
  rw [hwr.block g hg fun h=>(hF g h).2 rfl]
theorem bN.mn (R:bN w1 aP aM g n e k w p T own A M) (hi:i<n):∃b r,aM i=⟨b,0,none⟩∧w.cell? ⟨b,0,none⟩=some (.pointer (some r))∧w.cell? ⟨b,1,none⟩=some (.int .i64 (M i).pc)∧w.cell? ⟨b,12,none⟩=some (.bool (M i).bad)∧w.cell? ⟨b,13,none⟩=some (.bool (M i).stop):=by
 obtain ⟨F,lU,hF⟩:=R.LZ
 obtain ⟨BP,BM,h1,h2,-⟩:=lU.ex
 obtain ⟨b,r,q1,q2,q3,q4,q5,-⟩:=(h2 i hi).cells
 exact ⟨b,r,q1,q2,q3,q4,q5⟩
theorem bN.fault (R:bN w1 aP aM g n e k w p T own A M):∃b,aP=⟨b,0,none⟩∧w.cell? ⟨b,5,none⟩=some .nilIface:=by
 obtain ⟨F,lU,hF⟩:=R.LZ
 obtain ⟨BP,BM,h1,h2,-⟩:=lU.ex
 exact h1.fault R.sys.inv.gV
theorem bN.Yd {b:Nat} (R:bN w1 ⟨b,0,none⟩ aM g n e k w p T own A M):w.cell? ⟨b,5,none⟩=some .nilIface:=by
 obtain ⟨b',h1,h2⟩:=R.fault
 rw [Addr.mk.injEq] at h1
 rw [h1.1,h2]
theorem bN.bad (R:bN w1 aP aM g n e k w p T own A M) (hi:i<n):(M i).bad=false:=(R.sys.mt i hi).bad.trans (R.sys.bad i hi)
end
theorem w64 {n:Int} (h0:0≤n) (h1:n<9223372036854775808):wrap64 n=n:=by unfold wrap64;omega
theorem Ig (a k:Int) (h0:0<k) (h1:k≤1000):∃n:Nat,wrap64 (1+wrap64 ((IntKind.u64.wrap a).tmod k))=(n:Int)∧1≤n∧(n:Int)≤k:=by
 have h:=Zb (IntKind.u64.wrap a) k h0 (Zc a)
 have e1:wrap64 ((IntKind.u64.wrap a).tmod k)=(IntKind.u64.wrap a).tmod k:=w64 (by omega) (by omega)
 rw [e1,w64 (by omega) (by omega)]
 exact ⟨(1+(IntKind.u64.wrap a).tmod k).toNat,by omega,by omega,by omega⟩
theorem YD (x:Int) (n:Nat) (h1:1≤n∧n≤6):∃q:Nat,wrap64 ((IntKind.u64.wrap x).tmod (IntKind.u64.wrap (n:Int)))=(q:Int)∧q<n:=by
 rw [Zd (x:=(n:Int)) (by omega) (by omega)]
 have h:=Zb (IntKind.u64.wrap x) n (by omega) (Zc x)
 rw [w64 (by omega) (by omega)]
 exact ⟨((IntKind.u64.wrap x).tmod n).toNat,by omega,by omega⟩
def Ih (m:Mn) (r:Addr):Array Value:=#[.pointer (some r),.int .i64 m.pc,.int .i64 m.old.slot,.int .i64 m.old.gen,.int .i64 m.old.tag,.int .i64 m.old.num,.bool m.old.mark,.int .i64 m.node.slot,.int .i64 m.node.gen,.int .i64 m.node.tag,.int .i64 m.node.num,.bool m.node.mark,.bool m.bad,.bool m.stop]
def UL (m:Mn):Env where
 iv:=fun i=>([m.pc,m.old.slot,m.old.gen,m.old.tag,m.old.num,0,m.node.slot,m.node.gen,m.node.tag,m.node.num]:List Int).getD i 0
 bv:=fun i=>if i=5 then m.old.mark else if i=10 then m.node.mark else if i=11 then m.bad else m.stop
 vv:=fun _=>undef
 ic:=fun _ _ _ _=>0
 bc:=fun _ _ _ _=>false
 vc:=fun _ _ _ _=>undef
theorem FM {w:World} {ρ:Env} {ν:Nat→Addr} {b:Nat} {m:Mn} (h:aN ρ ν bP w) (hr:ae ρ 0 4=m.r) (ho:bJ ρ 4) (hn:¬dJ ρ ν bP b) (hb:w.heap[b]?=some (.cells (Ih m (ν 0)) 60 (0,0))) :
  lT w ⟨b,0,none⟩ m fun x=>x=b∨dJ ρ ν bP x:=by
 have hA:dL 71 4 ρ (ρ.cat 71 (UL m)) ν ν:=⟨fun _ h=>if_pos h,fun _ h=>if_pos h,fun _ h=>if_pos h,fun _ h=>if_pos h,fun _ h=>if_pos h,fun _ h=>if_pos h,fun _ _=>rfl⟩
 have hsc:nH 71 4 bP=true:=by kernel_rfl
 obtain ⟨q,hq⟩:∃q,q=ρ.cat 71 (UL m):=⟨_,rfl⟩
 rw [←hq] at hA
 have hh:aN q ν bP w:=h.ext hA hsc (by decide)
 have e1:(fun k=>iI 1 (fun _=>(⟨b,0,none⟩:Addr)) ν (1+k))=ν:=funext fun k=>ko ..
 have hone:aN q (iI 1 (fun _=>(⟨b,0,none⟩:Addr)) ν) [tY 71 1] w:=by
  refine ⟨fun i j x y hi hj _ _ _ _=>?_,fun k sb hk _ _=>?_,fun k sb hk _ hr=>?_⟩
  ·have:=(List.getElem?_eq_some_iff.1 hi).1
   have:=(List.getElem?_eq_some_iff.1 hj).1
   simp at *
   omega
  ·match k,hk with
   | 0,hk =>
    simp at hk
    subst hk
    refine ⟨rfl,_,?_,oH rfl rfl rfl⟩
    rw [show ((iI 1 (fun _=>(⟨b,0,none⟩:Addr)) ν) 0).block=b from rfl,hb,hq]
    exact eZ.kH rfl
   | k+1,hk=>simp at hk
  ·match k,hk with
   | 0,hk=>simp at hk;subst hk;cases hr
   | k+1,hk=>simp at hk
 have hall:=hone.app (f:=id) (hq:=bP) (by rw [show q.pull id=q from rfl,show (fun k=>iI 1 (fun _=>(⟨b,0,none⟩:Addr)) ν (([tY 71 1]:List SB).length+k))=ν from e1];exact hh) fun i j x y hi hj _ dy _ he=>by
  match i,hi with
  | 0,hi =>
   have e2:iI 1 (fun _=>(⟨b,0,none⟩:Addr)) ν (1+j)=ν j:=ko ..
   have he:b=(iI 1 (fun _=>(⟨b,0,none⟩:Addr)) ν (1+j)).block:=he
   rw [e2] at he
   exact hn ((rE hA hsc (by decide)).1 ⟨j,y,hj,dy,he⟩)
  | i+1,hi=>simp at hi
 have eL:jB=[tY 71 1] ++ bP.map (SB.aV id (([tY 71 1]:List SB).length+·)):=by kernel_rfl
 rw [←eL] at hall
 refine ⟨q,_,rfl,hall,?_,?_,fun x hx=>?_⟩
 ·have e3:ae q 0 4=ae ρ 0 4:=by rw [hq];rfl
  rw [e3,hr,hq]
  rfl
 ·rw [hq]
  exact ho
 ·obtain ⟨k,sb,h1,h2,rfl⟩:=hx
  match k,h1 with
  | 0,_=>exact .inl rfl
  | k+1,h1 =>
   have e2:iI 1 (fun _=>(⟨b,0,none⟩:Addr)) ν (k+1)=ν k:=by rw [Nat.add_comm];exact ko ..
   rw [eL] at h1
   rw [List.getElem?_append_right (by simp)] at h1
   simp only [List.length_singleton,Nat.add_sub_cancel,List.getElem?_map,Option.map_eq_some_iff] at h1
   obtain ⟨sc,rO,rfl⟩:=h1
   rw [SB.fK] at h2
   rw [e2]
   exact .inr ((rE hA hsc (by decide)).1 ⟨k,sc,rO,h2,rfl⟩)
theorem Tz:(List.range bP.length).map (fun j=>jB[1+j]?)=bP.map fun sb=>some (sb.aV id (1+·)):=by kernel_rfl
theorem yj {w:World} {a:Addr} {m:Mn} {B:Nat→Prop} (h:lT w a m B):∃ρ ν b,a=⟨b,0,none⟩∧(aN ρ ν bP w∧ae ρ 0 4=m.r∧bJ ρ 4)∧(∀x,dJ ρ ν bP x→B x)∧¬dJ ρ ν bP b∧B b∧w.heap[b]?=some (.cells (Ih m (ν 0)) 60 (0,0)):=by
 obtain ⟨ρ,ν,rfl,h1,rfl,h3,h4⟩:=h.ex
 obtain ⟨g1,cs,g2,g3⟩:=h1.aI 0 _ rfl rfl rfl
 have g2:=g2.cells rfl
 have hsz:cs.size=14:=g3.size rfl rfl
 have hc:∀(p:Nat) (c:SC),(tY 71 1).cs[p]?=some c→c.isHole=false→cs[p]?=some (c.den ρ ν):=fun p c hp hh=>g3.ex p c hp hh
 have hcs:cs=Ih (eU ρ (ae ρ 0 4) 71) (ν 1):=by
  apply Array.ext_getElem?
  intro i
  rcases Nat.lt_or_ge i 14 with hi | hi
  ·match i,hi with
   | 0,_=>exact hc 0 _ rfl rfl
   | 1,_=>exact hc 1 _ rfl rfl
   | 2,_=>exact hc 2 _ rfl rfl
   | 3,_=>exact hc 3 _ rfl rfl
   | 4,_=>exact hc 4 _ rfl rfl
   | 5,_=>exact hc 5 _ rfl rfl
   | 6,_=>exact hc 6 _ rfl rfl
   | 7,_=>exact hc 7 _ rfl rfl
   | 8,_=>exact hc 8 _ rfl rfl
   | 9,_=>exact hc 9 _ rfl rfl
   | 10,_=>exact hc 10 _ rfl rfl
   | 11,_=>exact hc 11 _ rfl rfl
   | 12,_=>exact hc 12 _ rfl rfl
   | 13,_=>exact hc 13 _ rfl rfl
  ·rw [Array.getElem?_eq_none (by omega),Array.getElem?_eq_none (by simp [Ih];omega)]
 rw [hcs] at g2
 refine ⟨ρ,fun k=>ν (1+k),(ν 0).block,g1,⟨h1.sub (f:=id) Tz (fun i j _ _ h=>by omega),rfl,h3⟩,fun x hx=>h4 x (QG (f:=id) Tz hx),fun hx=>?_,h4 _ ⟨0,_,rfl,rfl,rfl⟩,g2⟩
 obtain ⟨k,sb,q1,q2,q3⟩:=hx
 have:=h1.inj 0 (1+k) _ _ rfl (Ev (f:=id) Tz q1) rfl (by rw [SB.fK];exact q2) rfl q3
 omega
section
variable {w w' w1:World} {aP:Addr} {aM:Nat→Addr} {g n k:Nat} {p:PS} {M:Nat→Mn} {F F':Nat→Prop} {T:Nat→Th} {own:Int→iy} {A:Nat→Int} {e c:Int}
theorem ma.L6 (h:ma w aP aM n p M F) (hk:k<n):∃BM:Nat→Prop,lT w (aM k) (M k) BM∧(∀b,BM b→F b∧b<w.heap.size)∧∀w' m' B',lT w' (aM k) m' B'→(∀b,B' b→w.heap.size≤b∨BM b)→jL w BM w'→ma w' aP aM n p (bA M k m') fun b=>F b∨w.heap.size≤b:=by
 obtain ⟨BP,BM,h1,h2,h3,h4,h5,h6⟩:=(h.mono (F':=fun b=>F b∧b<w.heap.size) fun b x y=>⟨x,y⟩).ex
 refine ⟨BM k,h2 k hk,h6 k hk,fun w' m' B' g1 g2 g3=>⟨BP,bA BM k B',h1.frame fun b hb=>g3.block b (h5 b hb).2 fun x=>h3 k hk b x hb,fun j hj=>?_,fun j hj b=>?_,fun i j hi hj hij b=>?_,fun b hb=>.inl (h5 b hb).1,fun j hj b=>?_⟩⟩
 ·by_cases hjk:j=k
  ·rw [hjk,aF,aF]
   exact g1
  ·rw [aY _ _ hjk,aY _ _ hjk]
   exact (h2 j hj).frame fun b hb=>g3.block b (h6 j hj b hb).2 fun x=>h4 j k hj hk hjk b hb x
 ·by_cases hjk:j=k
  ·rw [hjk,aF]
   intro x y
   rcases g2 b x with z | z
   ·exact absurd (h5 b y).2 (Nat.not_lt.2 z)
   ·exact h3 k hk b z y
  ·rw [aY _ _ hjk]
   exact h3 j hj b
 ·have hnew:∀j,j<n→j≠k→B' b→BM j b→False:=fun j hj hjk x y=>by
   rcases g2 b x with z | z
   ·exact absurd (h6 j hj b y).2 (Nat.not_lt.2 z)
   ·exact h4 j k hj hk hjk b y z
  by_cases q1:i=k
  ·have q2:j≠k:=fun e=>hij (q1.trans e.symm)
   rw [q1,aF,aY _ _ q2]
   exact hnew j hj q2
  ·rw [aY _ _ q1]
   by_cases q2:j=k
   ·rw [q2,aF]
    exact fun x y=>hnew i hi q1 y x
   ·rw [aY _ _ q2]
    exact h4 i j hi hj hij b
 ·by_cases hjk:j=k
  ·rw [hjk,aF]
   exact fun x=>(g2 b x).elim .inr fun z=>.inl (h6 k hk b z).1
  ·rw [aY _ _ hjk]
   exact fun x=>.inl (h6 j hj b x).1
theorem bN.L6 (R:bN w1 aP aM g n e c w p T own A M) (hk:k<n):∃BM:Nat→Prop,lT w (aM k) (M k) BM∧∀w' m' B' c' T' own' A',lT w' (aM k) m' B'→(∀b,B' b→w.heap.size≤b∨BM b)→jL w BM w'→Sys c' n e p T' own' A' (bA M k m')→bN w1 aP aM g n e c' w' p T' own' A' (bA M k m'):=by
 obtain ⟨F,lU,hF⟩:=R.LZ
 obtain ⟨BM,h1,h2,h3⟩:=lU.L6 hk
 have hg:g<w.heap.size:=World.block_lt_of_cell? _ _ (R.row k hk)
 refine ⟨BM,h1,fun w' m' B' c' T' own' A' g1 g2 g3 g4=>⟨g4,⟨_,h3 w' m' B' g1 g2 g3,fun b hb=>?_⟩,fun j hj=>?_,Kq R.nw g3 fun x hx=>(hF x (h2 x hx).1).1⟩⟩
 ·rcases hb with hb | hb
  ·exact hF b hb
  ·exact ⟨Nat.le_trans R.nw.size hb,by omega⟩
 ·rw [←R.row j hj]
  unfold World.cell?
  rw [g3.block g hg fun h=>(hF g (h2 g h).1).2 rfl]
end
def fR (i:Nat):Nat:=if i<4 then i else i+67
def gR:Nat→Nat
 | 0=>0
 | k=>k+3
theorem UM:(List.range bP.length).map (fun j=>kP.hp'[gR j]?)=bP.map fun sb=>some (sb.aV fR gR):=by kernel_rfl
theorem QN:∀i j,i<bP.length→j<bP.length→gR i=gR j→i=j:=by
 have:∀i,i<4→∀j,j<4→gR i=gR j→i=j:=by decide
 intro i j hi hj
 exact this i hi j hj
theorem TA {w:World} {ρ:Env} {ν:Nat→Addr} (h:aN ρ ν bP w) (ho:bJ ρ 4) (hf:(ae ρ 0 4).notes.length≤1000000) :
  Calls Tryd.prog 26 #[.pointer (some (ν 0))] w fun ev w'=>∃ρ' aO a c,ev=.returned (.slice a (ae ρ 0 4).notes.length c)∧aO 0=ν 0∧(aN ρ' aO bP w'∧ae ρ' 0 4=ae ρ 0 4∧bJ ρ' 4)∧(∀x,dJ ρ' aO bP x→w.heap.size≤x∨dJ ρ ν bP x)∧jL w (dJ ρ ν bP) w':=by
 have hn:ρ.iv 59≤1000000:=by
  have h1:(aU ρ 70 (ρ.iv 59)).length≤1000000:=hf
  rw [iT] at h1
  omega
 have hrun:=Qg.run ρ ν w h ⟨fun g k _ h=>(by cases h),fun g g' k k' _ _ h=>(by cases h)⟩ ⟨ho,hn⟩
 rw [show (kP.args.map (·.den ρ ν)).toArray=#[.pointer (some (ν 0))] from rfl] at hrun
 refine Calls.mono hrun ?_
 rintro ev w' ⟨ρ',aO,hA,rfl,jg,hwr,how,q1,⟨q2,q3⟩,q4⟩
 have e0:ae ρ' 0 4=ae ρ 0 4:=by
  unfold ae iK ay aL av dX aU gX bO
  simp (disch:=decide) only [hA.iv,hA.bv,hA.ic,hA.bc]
 replace q3:aU ρ' 141 (ρ'.iv 139)=(ae ρ' 0 4).notes:=q3
 replace q4:ae ρ' 0 71=ae ρ' 0 4:=q4
 rw [e0] at q3 q4
 have hlen:(ae ρ 0 4).notes.length=(ρ'.iv 139).toNat:=by rw [←q3,iT]
 have pR:∀x,jX ρ ν bP x→dJ ρ ν bP x:=fun x h=>oP h
 obtain ⟨z1,z2,z3,z4⟩:=q2
 have hret:∃a c,(kP.ret.den ρ' aO)=.slice a (ae ρ 0 4).notes.length c:=by
  rw [hlen]
  show ∃a c,(if ρ'.bv 138=true then Value.slice none 0 0 else .slice (some _) (ρ'.iv 139).toNat (ρ'.iv 140).toNat)=_
  by_cases hb:ρ'.bv 138=true
  ·rw [if_pos hb]
   have:ρ'.iv 139=0:=z1 hb
   rw [this]
   exact ⟨none,0,rfl⟩
  ·rw [if_neg hb]
   exact ⟨_,_,rfl⟩
 obtain ⟨a,c,hret⟩:=hret
 refine ⟨ρ'.pull fR,fun k=>aO (gR k),a,c,by rw [hret],?_,⟨jg.sub UM QN,q4,q1⟩,fun x hx=>?_,hwr.os,hwr.tape,hwr.output,hwr.size,fun b hb hn=>hwr.block b hb fun h=>hn (pR b h)⟩
 ·show aO 0=ν 0
  exact hA.bl 0 (by decide)
 ·exact ((how.sub UM).aI EA hx).imp id fun h=>pR x h
end Go.Proofs.YthomdlajobnmnaaDoor
namespace Go.Proofs.YthomdlajobnmnaaDoor
open Go.Rex
def Ku (b:SB):SB:={b with own:=false,ro:=true}
def FN:List SB:=iq.map Ku
def l6:dZ:={f:=16,nv:=13,gl:=gL zF 0,args:=[.one (.ptr {aI:=8}),.agg [.int .i64 (.lit 0),.int .i64 (.lit 0),iv 12]],hp:=gF ++ (Ei 0 2 8).map Ku,jy:=18,ret:=.iW [.agg (mF 13),.one (.bool (.lit true))],hp':=List.replicate 13 dD}
def oQ:dZ:={f:=15,nv:=12,args:=[.one (.ptr {aI:=0})],hp:=FN,jy:=13,ret:=.w (.one (iv 12)),hp':=List.replicate 5 dD}
end Go.Proofs.YthomdlajobnmnaaDoor
namespace Go.Proofs.YthomdlajobnmnaaDoor
open Go.RowKit Go.Rex
theorem YE {ρ:Env} {ν:Nat→Addr} {hp:List SB} {w:World} (ho:nQ hp=true) (hm:(hp.all fun b=>!b.iU)=true) (h:aN ρ ν hp w):aN ρ ν (hp.map Ku) w:=by
 have at_:∀(k:Nat) (sb:SB),(hp.map Ku)[k]?=some sb→∃b,hp[k]?=some b∧sb=Ku b:=fun k sb hk=>by
  rw [List.getElem?_map,Option.map_eq_some_iff] at hk
  obtain ⟨b,hb,rfl⟩:=hk
  exact ⟨b,hb,rfl⟩
 refine ⟨fun i j a b hi hj _ _ ra _=>?_,fun k sb hk _ hr=>?_,fun k sb hk hd _=>?_⟩
 ·obtain ⟨a',_,rfl⟩:=at_ i a hi
  cases ra
 ·obtain ⟨b',_,rfl⟩:=at_ k sb hk
  cases hr
 ·obtain ⟨b,hb,rfl⟩:=at_ k sb hk
  have hd':b.dead ρ=false:=hd
  obtain ⟨g1,cs,g2,g3⟩:=h.aI k b hb hd' (q9 ho hb (SB.dN hd')).2
  have hmb:b.iU=false:=by
   have:=List.all_eq_true.1 hm b (List.mem_of_getElem? hb)
   simpa using this
  have hc:=g2.cells hmb
  refine ⟨⟨(Array.getElem?_eq_some_iff.1 hc).1,fun _ _=>⟨cs,b.t,hc⟩⟩,cs,⟨g3.un,g3.size,g3.cap,g3.ex,g3.sg⟩,fun p v hp'=>?_⟩
  rw [g1]
  have e:(⟨(ν k).block,0,none⟩:Addr).add p=⟨(ν k).block,p,none⟩:=by
   unfold Addr.add
   split
   ·rename_i h;subst h;rfl
   ·simp
  rw [e]
  unfold World.cell?
  rw [hc]
  exact hp'
noncomputable def UN:Ex:={sched:=sched,loops:=[],cons:=[],fin:=l6}
def L8:Out :=
 .ob (.aA (.lit 0) (.var 0)) <|
 .fin {lo:=13,az:=13,iv:=[(16,.cell 8 (.var 12) (.lit 0) 3),(15,.cell 8 (.var 12) (.lit 0) 2),(14,.cell 8 (.var 12) (.lit 0) 1),(13,.cell 8 (.var 12) (.lit 0) 0)],bv:=[(17,.cell 8 (.var 12) (.lit 0) 4)]}
def Zh:Kn:=[(.aA (.lit 0) (.var 12),true),(.bT (.var 12) (.var 0),true)]
theorem TB:exec tab UN 8000 [] (fT l6.f l6.nv Zh l6.gl l6.hp l6.args)=L8:=by kernel_rfl
def VV (ρ:Env):Prop:=0≤ρ.iv 12∧ρ.iv 12<ρ.iv 0
def TC (ρ:Env):Prop:=av ρ 13=aG (ρ.ic 8 (ρ.iv 12).toNat 0) (ρ.bc 8 (ρ.iv 12).toNat 0)
theorem TE:bF Tryd.prog l6 VV TC :=
 dH eQ (E:=UN) (cs:=[]) rfl (fun k pre post h=>by cases h) cK rfl TB (by kernel_rfl) (fun ρ h p hp=>by
   replace h:0≤ρ.iv 12∧ρ.iv 12<ρ.iv 0:=h
   simp only [Zh,List.mem_cons,List.not_mem_nil,or_false] at hp
   rcases hp with rfl | rfl
   · exact decide_eq_true h.1
   · exact decide_eq_true h.2) fun ρ h=>by
  replace h:0≤ρ.iv 12∧ρ.iv 12<ρ.iv 0:=h
  unfold L8
  refine Sat.ob (decide_eq_true (show 0≤ρ.iv 0 by omega)) (Sat.fin ?_)
  rfl
noncomputable def UO:Ex:={sched:=sched,loops:=[],cons:=[],fin:=oQ}
def L9:Out :=
 .ob (.aA (.lit 0) (.var 1)) <|
 .ob (.or (.not (.var 2)) (.aC (.var 3) (.lit 0))) <|
 .ob (.aA (.lit 0) (.var 3)) <|
 .ob (.inr .i64 (.sub (.var 1) (.var 3))) <|
 .fin {lo:=12,az:=5,iv:=[(12,.sub (.var 1) (.var 3))]}
theorem TF:exec tab UO 8000 [] (fT oQ.f oQ.nv [] oQ.gl oQ.hp oQ.args)=L9:=by kernel_rfl
def VW (ρ:Env):Prop:=bg ρ 2∧0≤ρ.iv 1∧ρ.iv 1≤1024∧ρ.iv 3≤ρ.iv 1
def TG (ρ:Env):Prop:=ρ.iv 12=ρ.iv 1-ρ.iv 3
theorem TH:bF Tryd.prog oQ VW TG :=
 dH eQ (E:=UO) (cs:=[]) rfl (fun k pre post h=>by cases h) cK rfl TF (by kernel_rfl) (fun ρ h p hp=>by cases hp) fun ρ h=>by
  replace h:bg ρ 2∧0≤ρ.iv 1∧ρ.iv 1≤1024∧ρ.iv 3≤ρ.iv 1:=h
  obtain ⟨⟨z1,z2,z3,z4⟩,h1,h2,h3⟩:=h
  replace z1:ρ.bv 2=true→ρ.iv 3=0:=z1
  replace z2:0≤ρ.iv 3:=z2
  unfold L9
  refine Sat.ob (decide_eq_true h1) (Sat.ob ?_ (Sat.ob (decide_eq_true z2) (Sat.ob ?_ (Sat.fin rfl))))
  ·show (!ρ.bv 2 || (ρ.iv 3 == 0))=true
   cases hb:ρ.bv 2 with
   | false=>rfl
   | true=>rw [z1 hb];rfl
  ·simp only [Da]
   omega
theorem QO {w:World} {ρ:Env} {ν:Nat→Addr} (h:aN ρ ν iq w):aN ρ ν FN w:=YE Ey (by kernel_rfl) h
theorem VX {w:World} {aP:Addr} {p:PS} {B:Nat→Prop} {iF:Nat→Addr} {f:Int} (hs:qH w iF) (hp:lG w aP p B) (h0:0≤f) (h1:f<p.nb) :
  Calls Tryd.prog 16 #[.pointer (some aP),.agg #[.int .i64 0,.int .i64 0,.int .i64 f]] w fun ev w'=>ev=.returned (.tuple #[Ez (p.bd f.toNat),.bool true])∧Nw w w':=by
 obtain ⟨dC,fH,rfl,Ko,rfl,hpo,hpb⟩:=hp.ex
 obtain ⟨⟨GX,hsh⟩,hgl⟩:=hs
 obtain ⟨q,hq⟩:∃q:Env,q={dC with iv:=fun i=>if i=12 then f else dC.iv i}:=⟨_,rfl⟩
 obtain ⟨ν,kU⟩:∃ν,ν=iI gF.length iF fH:=⟨_,rfl⟩
 have hro:aN q fH FN w:=aN.ext (nv:=12) (n:=5) ⟨fun i hi=>by rw [hq];exact if_neg (by omega),fun _ _=>by rw [hq],fun _ _=>by rw [hq],fun _ _=>by rw [hq],fun _ _=>by rw [hq],fun _ _=>by rw [hq],fun _ _=>rfl⟩ (by kernel_rfl) (by decide) (QO Ko)
 have hsh':aN q ν gF w:=aN.ext (nv:=0) (n:=8) ⟨fun i h=>absurd h (Nat.not_lt_zero _),fun i h=>absurd h (Nat.not_lt_zero _),fun i h=>absurd h (Nat.not_lt_zero _),fun i h=>absurd h (Nat.not_lt_zero _),fun i h=>absurd h (Nat.not_lt_zero _),fun i h=>absurd h (Nat.not_lt_zero _),fun i h=>by rw [kU,nu _ _ _ (Nat.lt_of_lt_of_le h (by decide))]⟩ (by kernel_rfl) (by decide) hsh
 have e1:(fun k=>ν (gF.length+k))=fH:=by rw [kU];exact funext fun k=>ko ..
 have hall:=hsh'.app (f:=id) (hq:=FN) (by rw [e1];exact hro) fun i j a b hi hj _ _ hr _=>by
  have ha:a.ro=true:=by
   have:(gF.all fun b=>b.ro)=true:=by kernel_rfl
   exact List.all_eq_true.1 this a (List.mem_of_getElem? hi)
  have hb:b.ro=true:=by
   have:(FN.all fun b=>b.ro)=true:=by kernel_rfl
   exact List.all_eq_true.1 this b (List.mem_of_getElem? hj)
  rw [ha,hb] at hr
  rcases hr with h | h <;> cases h
 have eL:l6.hp=gF ++ FN.map (SB.aV id (gF.length+·)):=by kernel_rfl
 rw [←eL] at hall
 have hG:jo ν l6.gl:=by
  refine jo.ext (nv:=0) (n:=8) (ρ:=GX) (ρ':=q) (ν:=iF) ⟨fun i h=>absurd h (Nat.not_lt_zero _),fun i h=>absurd h (Nat.not_lt_zero _),fun i h=>absurd h (Nat.not_lt_zero _),fun i h=>absurd h (Nat.not_lt_zero _),fun i h=>absurd h (Nat.not_lt_zero _),fun i h=>absurd h (Nat.not_lt_zero _),fun i h=>?_⟩ (by kernel_rfl) hgl
  rw [kU,nu _ _ _ (Nat.lt_of_lt_of_le h (by decide))]
 have e12:q.iv 12=f:=by rw [hq];rfl
 have e0:q.iv 0=dC.iv 0:=by rw [hq];rfl
 have hrun:=TE.run q ν w hall hG ⟨by show 0≤q.iv 12;rw [e12];exact h0,by show q.iv 12<q.iv 0;rw [e12,e0];exact h1⟩
 have hargs:(l6.args.map (·.den q ν)).toArray=#[.pointer (some (fH 0)),.agg #[.int .i64 0,.int .i64 0,.int .i64 f]]:=by
  rw [←e12,show fH 0=ν 8 by rw [←e1];rfl]
  rfl
 rw [hargs] at hrun
 refine Calls.mono hrun ?_
 rintro ev w' ⟨ρ',aO,hA,rfl,jg,hwr,how,q1⟩
 replace q1:av ρ' 13=aG (ρ'.ic 8 (ρ'.iv 12).toNat 0) (ρ'.bc 8 (ρ'.iv 12).toNat 0):=q1
 refine ⟨?_,hwr.os,hwr.tape,hwr.output,hwr.size,fun k hk _=>hwr.block k hk fun h=>qG (by kernel_rfl) h⟩
 have e2:(ag dC (dC.iv 0) (dC.iv 1) 2).bd f.toNat=av ρ' 13:=by
  rw [q1,hA.iv 12 (by decide),hA.ic 8 (by decide),hA.bc 8 (by decide),e12,hq]
  rfl
 rw [e2]
 rfl
theorem VY {w:World} {aP:Addr} {p:PS} {B:Nat→Prop} (hp:lG w aP p B) (hok:p.OK) (hn:p.nf≤p.ns) :
  Calls Tryd.prog 15 #[.pointer (some aP)] w fun ev w'=>ev=.returned (.int .i64 (p.ns-p.nf))∧Nw w w':=by
 obtain ⟨ρ,ν,rfl,Ko,rfl,hpo,hpb⟩:=hp.ex
 have hns:=hok.ns
 have hrun:=TH.run ρ ν w (QO Ko) ⟨fun g k _ h=>(by cases h),fun g g' k k' _ _ h=>(by cases h)⟩ ⟨hpo,hns.1,hns.2,hn⟩
 rw [show (oQ.args.map (·.den ρ ν)).toArray=#[.pointer (some (ν 0))] from rfl] at hrun
 refine Calls.mono hrun ?_
 rintro ev w' ⟨ρ',aO,hA,rfl,jg,hwr,how,q1⟩
 replace q1:ρ'.iv 12=ρ'.iv 1-ρ'.iv 3:=q1
 refine ⟨?_,hwr.os,hwr.tape,hwr.output,hwr.size,fun k hk _=>hwr.block k hk fun h=>qG (by kernel_rfl) h⟩
 show Ending.returned (.int .i64 (ρ'.iv 12))=.returned (.int .i64 (ρ.iv 1-ρ.iv 3))
 rw [q1,hA.iv 1 (by decide),hA.iv 3 (by decide)]
theorem uZ {w:World} {b:Nat} {s:Int} (h:w.cell? ⟨b,18,none⟩=some (.int .i64 s)):Calls Tryd.prog 23 #[.pointer (some ⟨b,0,none⟩)] w fun e w'=>e=.returned (.bool (decide (s≠0)))∧w'=w:=by
 go_enter Tryd.func23,Tryd.ntmps23
 go_wp2
 go_ret
 by_cases hs:s=0 <;> simp [hs]
end Go.Proofs.YthomdlajobnmnaaDoor
namespace Go.Proofs.YthomdlajobnmnaaDoor
open Go.Rex
section
variable {n:Nat} {e:Int} {p p':PS} {T:Nat→Th} {own:Int→iy} {A:Nat→Int} {i k:Nat} {h h':Th}
def Th.nW (h:Th):Prop:=h.pc=0∧h.t.aW=0
def Quiet (n:Nat) (T:Nat→Th) (k:Nat):Prop:=(∀j,j<n→j≠k→(T j).nW)∧(T k).pc=0
theorem zY (h0:h.t.aW=0):¬h.dw∧¬h.dI:=by
 obtain ⟨x,hx⟩:=RT.iP h0
 unfold Th.dw Th.dI
 rw [hx]
 exact ⟨id,id⟩
theorem Inv.YF (H:Inv n e p T own A) (hq:Quiet n T k) (hk:¬(T k).dw) {j m:Nat} (hj:j<n) (hm:m<9):p.bd (25+9 * j+m)=Wd.zero:=by
 have L:=H.loc j hj
 have hp:¬(T j).dw∧(T j).pc=0:=by
  by_cases hjk:j=k
  ·rw [hjk];exact ⟨hk,hq.2⟩
  ·exact ⟨(zY (hq.1 j hj hjk).2).1,(hq.1 j hj hjk).1⟩
 by_cases h0:m=0
 ·rw [h0,Nat.add_zero,L.kc hp.1]
  exact (L.off hp.2).1
 ·exact L.kz m h0 hm
theorem Inv.YG (H:Inv n e p T own A) (hq:Quiet n T k) (hk:¬(T k).dI) {j:Nat} (hj:j<n):p.bd (79+j)=Wd.zero:=by
 have L:=H.loc j hj
 have hp:¬(T j).dI∧(T j).pc=0:=by
  by_cases hjk:j=k
  ·rw [hjk];exact ⟨hk,hq.2⟩
  ·exact ⟨(zY (hq.1 j hj hjk).2).2,(hq.1 j hj hjk).1⟩
 rw [L.sc hp.1,(L.off hp.2).2]
 rfl
def Rest (e c:Int) (m:Nt):Prop:=e=4∧c≤m.cO
def qQ (e c:Int) (p:PS) (h:Th):Prop :=
 match h.t with
 | .idle _=>(e=4→p.aB=c+1)∧∀m∈h.l.notes,Rest e c m
 | .je=>e=4∧p.aB=c
 | .bV ck seen=>(∀w∈seen,w=Wd.zero)∧(e=4→ck=dW c∧p.aB=c)
 | .iE ck=>ck=dW c∧p.aB=c
 | .dO=>p.aB=c+1
 | .fe d r=>(e=4→p.aB=c+1)∧∀m∈h.l.notes,m∈d :: r∨Rest e c m
 | _=>False
theorem QP {l:Lo} {ck:Wd} {seen:List Wd} {m:Nt} (hl:l.aj=e) (he:e=2∨e=3∨e=5) (hz:∀w∈seen,w=Wd.zero) (hm:1≤m.ref.slot):RT.kept l ck seen m=false:=by
 unfold RT.kept
 rcases he with h | h | h
 ·rw [if_pos (hl.trans h),List.any_eq_false]
  intro w hw
  rw [hz w hw]
  unfold RS.qz
  simp only [Wd.zero,beq_iff_eq]
  omega
 ·rw [if_neg (by omega),if_pos (hl.trans h),List.any_eq_false]
  intro w hw
  rw [hz w hw]
  unfold RS.qA
  simp [Wd.zero]
 ·rw [if_neg (by omega),if_neg (by omega),if_pos (hl.trans h),List.any_eq_false]
  intro w hw
  rw [hz w hw]
  unfold RS.oo RS.gN
  simp [Wd.zero,Sp.zero]
theorem TJ {c:Int} {seen:List Wd} (hz:∀w∈seen,w=Wd.zero):RS.may c (seen.map RS.gN)=true:=by
 unfold RS.may
 rw [List.all_eq_true]
 intro s hs
 obtain ⟨w,hw,rfl⟩:=List.mem_map.1 hs
 rw [hz w hw]
 rfl
theorem EB {x:Rp} {ck:Wd} {seen:List Wd} {c:Int} (hx:h'=h.with (RT.dS h.l ck seen)) (hc:e=4→p.aB=c+1) (hk:∀m∈h.l.notes,RT.kept h.l ck seen m=true→Rest e c m):qQ e c p h':=by
 rcases nD (l:=h.l) (ck:=ck) (seen:=seen) with ⟨g1,g2⟩ | ⟨d,r,g1,g2⟩
 ·rw [hx,g1]
  exact ⟨hc,fun m hm=>hk m hm (g2 m hm)⟩
 ·rw [hx,g1]
  refine ⟨hc,fun m hm=>?_⟩
  cases wK:RT.kept h.l ck seen m with
  | true=>exact .inr (hk m hm wK)
  | false=>exact .inl (by rw [g2];exact List.mem_filter.2 ⟨hm,by rw [wK];rfl⟩)
theorem qQ.step (H:Inv n e p T own A) (hk:k<n) (hq:Quiet n T k) {c:Int} (hs:qQ e c p (T k)) (hb:(T k).t.aW≠0) {x:Rp} (ha:p.act ((T k).t.acc (T k).l)=(p',some x)):qQ e c p' ((T k).aK x)∧(∀m∈((T k).aK x).l.notes,m∈(T k).l.notes)∧((T k).aK x).pc=0∧(e≠4→p'.aB=p.aB):=by
 have L:=H.loc k hk
 have h6:=H.n6
 have hsh:=L.jN
 unfold Th.sh at hsh
 unfold qQ at hs
 refine ⟨?_,?_,hq.2,?_⟩
 ·cases ht:(T k).t with
  | idle y=>rw [ht] at hb;exact absurd rfl hb
  | je =>
   rw [ht] at hs ha
   have h1:=(lS H).symm.trans ha
   simp only [Prod.mk.injEq,Option.some.injEq] at h1
   have htk:(T k).aK x={T k with l:=(T k).l,t:=.bV x.word []}:=Th.bG ht rfl
   rw [htk,←h1.1,←h1.2]
   exact ⟨fun w hw=>(by cases hw),fun _=>⟨by rw [hs.2],hs.2⟩⟩
  | bV ck seen =>
   rw [ht] at hs ha hsh
   obtain ⟨q,he,hlen,hck⟩:=hsh
   have UQ:¬(T k).dw∧¬(T k).dI:=by unfold Th.dw Th.dI;rw [ht];exact ⟨id,id⟩
   have ZM:=L.nS
   have hz:∃b:Nat,(T k).l.base+seen.length=(b:Int)∧b<85∧p.bd b=Wd.zero:=by
    unfold Lo.base
    unfold Lo.all at hlen
    by_cases g:(T k).l.bf
    ·rw [if_pos g] at hlen ⊢
     refine ⟨25+seen.length,by omega,by omega,?_⟩
     have:=H.YF hq UQ.1 (j:=seen.length / 9) (m:=seen.length % 9) (by omega) (by omega)
     rwa [show 25+9 * (seen.length / 9)+seen.length % 9=25+seen.length by omega] at this
    ·rw [if_neg g] at hlen ⊢
     exact ⟨79+seen.length,by omega,by omega,H.YG hq UQ.2 (by omega)⟩
   obtain ⟨b,hb1,hb2,hb3⟩:=hz
   have hal:p.act (Ac.load 0 0 ((T k).l.base+seen.length))=({p with steps:=p.steps+1},some ⟨p.bd b,true⟩):=by
    rw [hb1]
    have:=qE (p:=p) (s:=0) (g:=0) (f:=(b:Int)) (o:=Wd.zero) (w:=Wd.zero) (H.CF (by omega) (by omega)) Inv.xZ
    rw [qF,Int.toNat_natCast] at this
    exact this
   have h1:=hal.symm.trans ha
   simp only [Prod.mk.injEq,Option.some.injEq] at h1
   have hx:x.word=Wd.zero:=by rw [←h1.2];exact hb3
   have hzs:∀w∈seen ++ [x.word],w=Wd.zero:=fun w hw=>by
    rcases List.mem_append.1 hw with hw | hw
    ·exact hs.1 w hw
    ·rw [List.mem_singleton.1 hw,hx]
   rw [←h1.1]
   by_cases g:(seen.length:Int)+1<(T k).l.all
   ·have htk:(T k).aK x={T k with l:=(T k).l,t:=.bV ck (seen ++ [x.word])}:=Th.bG ht (if_pos g)
    rw [htk]
    exact ⟨hzs,hs.2⟩
   ·by_cases g4:(T k).l.aj≠4
    ·have htk:(T k).aK x=(T k).with (RT.dS (T k).l ck (seen ++ [x.word])):=by
      unfold Th.aK
      rw [ht]
      show (T k).with (if (seen.length:Int)+1<(T k).l.all then _ else if (T k).l.aj≠4 then _ else _:LR)=_
      rw [if_neg g,if_pos g4]
     have jT:=L.iA
     have h5:=H.e5
     have he':e=2∨e=3∨e=5:=by clear hck;omega
     refine EB (x:=x) htk (fun h=>absurd (jT.trans h) g4) fun m hm wK=>?_
     obtain ⟨r1,_⟩:=H.oi.jS (o:=.note k) (w:=m.ref) ⟨m,hm,rfl⟩
     rw [QP jT he' hzs r1] at wK
     cases wK
    ·have g4':(T k).l.aj=4:=by
      by_cases h:(T k).l.aj=4
      ·exact h
      ·exact absurd h g4
     have htk:(T k).aK x={T k with l:=(T k).l,t:=.iE ck}:=Th.bG ht (by
       show (if (seen.length:Int)+1<(T k).l.all then _ else if (T k).l.aj≠4 then _ else if RS.may ck.num ((seen ++ [x.word]).map RS.gN)=true then _ else _:LR)=_
       rw [if_neg g,if_neg g4,if_pos (TJ hzs)])
     rw [htk]
     exact hs.2 (L.iA.symm.trans g4')
  | iE ck =>
   rw [ht] at hs ha
   obtain ⟨rfl,hc⟩:=hs
   have h1:=(LQ H (c:=c)).symm.trans ha
   rw [if_pos hc] at h1
   simp only [Prod.mk.injEq,Option.some.injEq] at h1
   have htk:(T k).aK x={T k with l:=(T k).l,t:=.dO}:=Th.bG ht rfl
   rw [htk,←h1.1]
   show (p.dh (p.steps+1) 24 (dW (p.aB+1))).aB=c+1
   rw [PS.aB,wH,hc]
   rfl
  | dO =>
   rw [ht] at hs ha
   have h1:=(lS H).symm.trans ha
   simp only [Prod.mk.injEq,Option.some.injEq] at h1
   have htk:(T k).aK x=(T k).with (RT.dS (T k).l x.word []):=by unfold Th.aK;rw [ht];rfl
   have he:e=4:=by rw [ht] at hsh;exact hsh.2
   refine EB (x:=x) htk (fun _=>by rw [←h1.1];exact hs) fun m hm wK=>⟨he,?_⟩
   have jT:=L.iA
   unfold RT.kept at wK
   rw [if_neg (by omega),if_neg (by omega),if_neg (by omega),←h1.2] at wK
   unfold RS.mH at wK
   have wK:=of_decide_eq_true wK
   have hC:=H.clock.2
   replace hs:p.aB=c+1:=hs
   have wK:p.aB < -9223372036854775808+2∨m.cO > p.aB-2:=wK
   omega
  | fe d r =>
   rw [ht] at hs ha hsh
   obtain ⟨q,he,hsub,hnd⟩:=hsh
   have hd:d∈(T k).l.notes:=hsub d (List.mem_cons_self ..)
   have hnn:=lF (H.oi.pU k)
   obtain ⟨m1,m2,m3,m4,m5⟩:=H.CG (o:=.note k) (w:=d.ref) ⟨d,hd,rfl⟩
   have hal:p.act ⟨5,0,0,0,d.ref,Wd.zero⟩=(PS.free {p with steps:=p.steps+1} d.ref.slot,some ⟨Wd.zero,true⟩):=xY m3 m4
   have h1:=hal.symm.trans ha
   simp only [Prod.mk.injEq,Option.some.injEq] at h1
   rw [←h1.1]
   have hrest:∀m∈(T k).l.notes.erase d,m∈r∨Rest e c m:=fun m hm=>by
    rw [hnn.mem_erase_iff] at hm
    rcases hs.2 m hm.2 with h | h
    ·rcases List.mem_cons.1 h with h | h
     ·exact absurd h hm.1
     ·exact .inl h
    ·exact .inr h
   cases r with
   | nil =>
    have htk:(T k).aK x={T k with l:={(T k).l with notes:=(T k).l.notes.erase d,freed:=(T k).l.freed+1},t:=.idle Rp.yes}:=Th.bG ht rfl
    rw [htk]
    refine ⟨hs.1,fun m hm=>?_⟩
    rcases hrest m hm with h | h
    ·cases h
    ·exact h
   | cons d' r' =>
    have htk:(T k).aK x={T k with l:={(T k).l with notes:=(T k).l.notes.erase d,freed:=(T k).l.freed+1},t:=.fe d' r'}:=Th.bG ht rfl
    rw [htk]
    exact ⟨hs.1,hrest⟩
  | _=>rw [ht] at hs;exact hs.elim
 ·intro m hm
  cases ht:(T k).t with
  | idle y=>rw [ht] at hb;exact absurd rfl hb
  | je =>
   have htk:(T k).aK x={T k with l:=(T k).l,t:=.bV x.word []}:=Th.bG ht rfl
   rw [htk] at hm;exact hm
  | bV ck seen =>
   have hl:((T k).aK x).l=(T k).l:=by
    unfold Th.aK
    rw [ht]
    show (if (seen.length:Int)+1<(T k).l.all then _ else if (T k).l.aj≠4 then _ else if RS.may ck.num ((seen ++ [x.word]).map RS.gN)=true then _ else _:LR).1=_
    by_cases g:(seen.length:Int)+1<(T k).l.all
    ·rw [if_pos g]
    ·rw [if_neg g]
     by_cases g4:(T k).l.aj≠4
     ·rw [if_pos g4]
      rcases nD (l:=(T k).l) (ck:=ck) (seen:=seen ++ [x.word]) with ⟨g1,g2⟩ | ⟨d,r,g1,g2⟩ <;> rw [g1]
     ·rw [if_neg g4]
      by_cases gm:RS.may ck.num ((seen ++ [x.word]).map RS.gN)=true
      ·rw [if_pos gm]
      ·rw [if_neg gm]
   rw [hl] at hm;exact hm
  | iE ck =>
   have htk:(T k).aK x={T k with l:=(T k).l,t:=.dO}:=Th.bG ht rfl
   rw [htk] at hm;exact hm
  | dO =>
   have hl:((T k).aK x).l=(T k).l:=by
    unfold Th.aK
    rw [ht]
    show (RT.dS (T k).l x.word []).1=_
    rcases nD (l:=(T k).l) (ck:=x.word) (seen:=[]) with ⟨g1,g2⟩ | ⟨d,r,g1,g2⟩ <;> rw [g1]
   rw [hl] at hm;exact hm
  | fe d r =>
   have hl:((T k).aK x).l.notes=(T k).l.notes.erase d:=by
    unfold Th.aK
    rw [ht]
    cases r <;> rfl
   rw [hl] at hm
   exact List.mem_of_mem_erase hm
  | _=>rw [ht] at hs;exact hs.elim
 ·intro Ye
  cases ht:(T k).t with
  | idle y=>rw [ht] at hb;exact absurd rfl hb
  | je=>rw [ht] at hs;exact absurd hs.1 Ye
  | iE ck=>rw [ht] at hsh;exact absurd hsh.2.1 Ye
  | dO=>rw [ht] at hsh;exact absurd hsh.2 Ye
  | bV ck seen =>
   rw [ht] at ha
   have:p'.bd=p.bd:=by
    have h2:(p.act (Ac.load 0 0 ((T k).l.base+seen.length))).1.bd=p.bd:=by
     unfold PS.act
     split
     ·split <;> rfl
     ·rfl
    have ha':p.act (Ac.load 0 0 ((T k).l.base+seen.length))=(p',some x):=ha
    rw [ha'] at h2
    exact h2
   unfold PS.aB
   rw [this]
  | fe d r =>
   rw [ht] at ha hsh
   have hd:d∈(T k).l.notes:=hsh.2.2.1 d (List.mem_cons_self ..)
   obtain ⟨m1,m2,m3,m4,m5⟩:=H.CG (o:=.note k) (w:=d.ref) ⟨d,hd,rfl⟩
   have hal:p.act ⟨5,0,0,0,d.ref,Wd.zero⟩=(PS.free {p with steps:=p.steps+1} d.ref.slot,some ⟨Wd.zero,true⟩):=xY m3 m4
   have h1:=hal.symm.trans ha
   simp only [Prod.mk.injEq,Option.some.injEq] at h1
   rw [←h1.1]
   rfl
  | _=>rw [ht] at hs;exact hs.elim
theorem Inv.scan (H:Inv n e p T own A) (hk:k<n) (h0:(T k).nW) (h1:e=1→(T k).l.notes=[]):Inv n e p (bA T k ((T k).with (RT.scan (T k).l))) own A∧qQ e p.aB p ((T k).with (RT.scan (T k).l))∨e=1∧RT.scan (T k).l=((T k).l,.idle Rp.yes)∧Inv n e p (bA T k ((T k).with (RT.scan (T k).l))) own A:=by
 have L:=H.loc k hk
 obtain ⟨x,hx⟩:=RT.iP h0.2
 obtain ⟨g1,g2⟩:=zY h0.2
 have P:Plain (T k):=jJ hx (.inl h0.1)
 have jT:=L.iA
 have hnb:∀t:RT,(t=.idle Rp.yes∨t=.je∨t=.bV Wd.zero [])→¬({T k with t:=t}:Th).busy:=fun t ht hb=>by
  unfold Th.busy at hb
  have:=h0.1
  rcases ht with rfl | rfl | rfl <;> simp only at hb <;> omega
 unfold RT.scan
 by_cases e1:e=1
 ·right
  rw [if_pos (jT.trans e1)]
  refine ⟨e1,rfl,?_⟩
  exact H.uX hk H.self P (jJ (h:=(T k).with ((T k).l,.idle Rp.yes)) rfl (.inl h0.1)) rfl (L.go (h':=(T k).with ((T k).l,.idle Rp.yes)) rfl g1 g2 (fun _ hb=>absurd hb (hnb _ (.inl rfl))) L.off ⟨⟨by show 0≤(T k).pc;rw [h0.1];decide,by show (T k).pc≤7;rw [h0.1];decide⟩,fun h=>absurd (show (T k).pc=3 from h) (by rw [h0.1];decide)⟩) (Calm.idle _)
 ·left
  rw [if_neg (fun h=>e1 (jT.symm.trans h))]
  by_cases e4:e=4
  ·rw [if_pos (jT.trans e4)]
   exact ⟨H.uX hk H.self P (cz (h:=(T k).with ((T k).l,.je)) (.inl rfl)) rfl (L.go (h':=(T k).with ((T k).l,.je)) rfl g1 g2 (fun _ hb=>absurd hb (hnb _ (.inr (.inl rfl)))) L.off ⟨.inl h0.1,e4⟩) (dY (.inl (by show (12:Int)<13;decide))),e4,rfl⟩
  ·rw [if_neg (fun h=>e4 (jT.symm.trans h))]
   exact ⟨H.uX hk H.self P (cz (h:=(T k).with ((T k).l,.bV Wd.zero [])) (.inr (.inl ⟨_,_,rfl⟩))) rfl (L.go (h':=(T k).with ((T k).l,.bV Wd.zero [])) rfl g1 g2 (fun _ hb=>absurd hb (hnb _ (.inr (.inr rfl)))) L.off ⟨.inl h0.1,e1,L.nC H.n6,fun h=>absurd h e4⟩) (Calm.new _),fun w hw=>(by cases hw),fun h=>absurd h e4⟩
theorem Inv.Yf (H:Inv n e p T own A) (he:e≠1) (h0:∀j,j<n→(T j).nW) (hn:∀j,j<n→(T j).l.notes=[]):p.ns-p.nf=if (p.bd 0).slot=0 then 0 else 1:=by
 have hcnt:=H.ok.cnt
 have hns:=H.ok.ns
 have hcl:∀j,(T j).hand=none∧(T j).cut=none∧(T j).l.notes=[]:=fun j=>by
  rcases Nat.lt_or_ge j n with h | h
  ·obtain ⟨x,hx⟩:=RT.iP (h0 j h).2
   have P:Plain (T j):=jJ hx (.inl (h0 j h).1)
   exact ⟨P.hand,P.cut,hn j h⟩
  ·exact H.rest j h
 have hown:∀s,own s≠.free→own s=.root:=fun s hs=>by
  by_cases hl:own s=.lost
  ·exact absurd (H.oi.lost s hl) he
  obtain ⟨w,hw,_⟩:=H.oi.c2 s hs hl
  cases ho:own s with
  | root=>rfl
  | free=>exact absurd ho hs
  | lost=>exact absurd ho hl
  | hand j=>rw [ho] at hw;rw [show Cl p.rt (fun i=>(T i).hand) (fun i=>(T i).cut) (fun i=>(T i).l.notes) (.hand j) w=((T j).hand=some w) from rfl,(hcl j).1] at hw;cases hw
  | cut j=>rw [ho] at hw;rw [show Cl p.rt (fun i=>(T i).hand) (fun i=>(T i).cut) (fun i=>(T i).l.notes) (.cut j) w=((T j).cut=some w) from rfl,(hcl j).2.1] at hw;cases hw
  | note j =>
   rw [ho] at hw
   obtain ⟨m,hm,_⟩:=hw
   have hm:m∈(T j).l.notes:=hm
   rw [(hcl j).2.2] at hm;cases hm
 have Zi:∀s,1≤s→s≤p.ns→p.used (s-1).toNat=true→p.rt.map (·.slot)=some s:=fun s h1 h2 hu=>by
  have ho:=hown s ((H.oi.used s h1 h2).1 hu)
  obtain ⟨w,hw,hws⟩:=H.oi.c2 s (by rw [ho];simp) (by rw [ho];simp)
  rw [ho] at hw
  rw [show p.rt=some w from hw,←hws]
  rfl
 by_cases hz:(p.bd 0).slot=0
 ·rw [if_pos hz]
  have:jH p.used p.ns.toNat=0:=by
   rw [ny (v:=fun _=>false) fun j hj=>?_,pI]
   cases hu:p.used j with
   | false=>rfl
   | true =>
    have:=Zi (j+1) (by omega) (by omega) (by rw [show ((j:Int)+1-1).toNat=j by omega];exact hu)
    rw [show p.rt=none from if_pos hz] at this
    cases this
  omega
 ·rw [if_neg hz]
  have hrt:p.rt=some (p.bd 0):=if_neg hz
  obtain ⟨r1,r2,r3,r4,r5⟩:=H.oi.jS (o:=.root) (w:=p.bd 0) hrt
  have:jH p.used p.ns.toNat=1:=by
   rw [ny (v:=fun j=>if j=((p.bd 0).slot-1).toNat then true else (fun _=>false) j) fun j hj=>?_,Ci (by omega) rfl,pI]
   by_cases hj0:j=((p.bd 0).slot-1).toNat
   ·rw [if_pos hj0,hj0];exact r3
   ·rw [if_neg hj0]
    cases hu:p.used j with
    | false=>rfl
    | true =>
     have:=Zi (j+1) (by omega) (by omega) (by rw [show ((j:Int)+1-1).toNat=j by omega];exact hu)
     rw [hrt] at this
     have:(p.bd 0).slot=j+1:=Option.some.inj this
     exact absurd (by omega) hj0
  omega
end
end Go.Proofs.YthomdlajobnmnaaDoor
namespace Go.Proofs.YthomdlajobnmnaaDoor
open Go.RowKit Go.Rex
theorem G6:∀(k:Nat) (h:Th),(h.go k).1.stop=h.stop
 | 0,h=>rfl
 | k+1,h=>by
  by_cases hz:h.t.aW=0
  ·obtain ⟨x,hx⟩:=RT.iP hz
   rw [Th.sU hx]
   by_cases hs:h.stop=true∧h.pc=0
   ·rw [if_pos hs]
   ·rw [if_neg hs]
    exact (G6 k _).trans (h.pQ x).2.2
  ·rw [Th.nA hz]
theorem QQ (h:Th) (p:PS):(h.step p).1.stop=h.stop:=by
 have a:=G6 12 h
 unfold Th.step
 generalize h.go 12=g at a
 obtain ⟨g1,g2⟩:=g
 simp only at a
 cases g2 with
 | some c=>exact a
 | none =>
  simp only
  by_cases hz:g1.t.aW=0
  ·rw [if_pos hz];exact a
  ·rw [if_neg hz]
   cases p.act (g1.t.acc g1.l) with
   | mk p' xo =>
    cases xo with
    | none=>exact a
    | some x=>exact a
def Th.off (h:Th):Th:={h with stop:=true}
def Mn.off (m:Mn):Mn:={m with stop:=true}
section
variable {n:Nat} {e k:Int} {p:PS} {T:Nat→Th} {own:Int→iy} {A:Nat→Int} {i:Nat} {M:Nat→Mn}
theorem Sys.off (S:Sys k n e p T own A M) (hi:i<n):Sys k n e p (bA T i (T i).off) own A (bA M i (M i).off):=by
 have L:=S.inv.loc i hi
 have hI:Inv n e {p with steps:=p.steps} (bA T i (T i).off) own A :=
  S.inv.stay hi S.inv.ok rfl rfl rfl ⟨L.iA,L.me,L.nS,L.most,L.hz,L.kz,L.nk,L.ns,L.h3,L.s5,L.b5,L.kc,L.sc,L.on,L.off,L.jN⟩ (S.inv.snap i hi) (S.inv.full i hi) (S.inv.rb i hi) (S.inv.held i hi) (fun _ _ _ _ h=>h) (fun _ _ _ _ _ h=>h)
 refine ⟨hI,fun j hj=>?_,fun j hj=>?_,fun j hj=>?_,fun j hj=>?_,S.pw,S.st,S.k0⟩
 all_goals
  by_cases hji:j=i
  ·rw [hji]
   simp only [aF]
   first
    | (have m:=S.mt i hi;exact ⟨m.rep,m.pc,m.old,m.node,m.bad,rfl⟩)
    | (have m:=S.wb i hi;exact ⟨m.old,m.node,m.l,m.t⟩)
    | exact S.bad i hi
    | exact S.fr i hi
  ·simp only [aY _ _ hji]
   first
    | exact S.mt j hj
    | exact S.wb j hj
    | exact S.bad j hj
    | exact S.fr j hj
end
section
variable {w1 w w':World} {aP:Addr} {aM:Nat→Addr} {g n i b:Nat} {e k:Int} {p:PS} {T:Nat→Th} {own:Int→iy} {A:Nat→Int} {M:Nat→Mn} {ν:Nat→Addr}
theorem bN.new (R:bN w1 aP aM g n e k w p T own A M) (hn:Nw w w'):bN w1 aP aM g n e k w' p T own A M:=by
 obtain ⟨F,lU,hF⟩:=R.LZ
 exact ⟨R.sys,⟨F,lU.frame fun b hb _=>hn.block b hb id,hF⟩,fun j hj=>hn.yh (R.row j hj),R.nw.trans hn⟩
theorem bN.off (R:bN w1 aP aM g n e k w p T own A M) (hi:i<n) (hb:aM i=⟨b,0,none⟩) :
  (w.cell? ⟨b,13,none⟩=some (.bool (M i).stop)∧w.frozen? ⟨b,13,none⟩=false)∧bN w1 aP aM g n e k (w.setCell ⟨b,13,none⟩ (.bool true)) p (bA T i (T i).off) own A (bA M i (M i).off):=by
 obtain ⟨BM,h1,h2⟩:=R.L6 hi
 obtain ⟨ρ,ν,b',e1,⟨q1,q2,q3⟩,q4,q5,q6,q7⟩:=yj h1
 rw [hb,Addr.mk.injEq] at e1
 obtain rfl:=e1.1
 have hother:∀x,x≠b→(w.setCell ⟨b,13,none⟩ (.bool true)).heap[x]?=w.heap[x]?:=fun x hx=>heap_setCell_other w ⟨b,13,none⟩ x _ hx
 have hsame:=heap_setCell_same w b 13 _ _ (.bool true) q7
 have hrt:aN ρ ν bP (w.setCell ⟨b,13,none⟩ (.bool true)):=q1.Ew EA fun x hx=>hother x fun e=>q5 (e ▸ hx)
 have G5:=FM (m:=(M i).off) hrt q2 q3 q5 (by rw [hsame];rfl)
 refine ⟨⟨by unfold World.cell?;rw [q7];rfl,by unfold World.frozen?;rw [q7];rfl⟩,h2 _ _ _ k _ own A (by rw [hb];exact G5) (fun x hx=>?_) ⟨rfl,rfl,rfl,by simp [World.setCell],fun x hx hn=>hother x fun e=>hn (e ▸ q6)⟩ (R.sys.off hi)⟩
 rcases hx with rfl | hx
 ·exact .inr q6
 ·exact .inr (q4 x hx)
theorem bN.Yg (R:bN w1 aP aM g n e k w p T own A M) (hi:i<n) (hb:aM i=⟨b,0,none⟩) :
  ∃rb,w.cell? ⟨b,0,none⟩=some (.pointer (some ⟨rb,0,none⟩))∧w.cell? ⟨rb,18,none⟩=some (.int .i64 (T i).t.aW)∧w.cell? ⟨b,1,none⟩=some (.int .i64 (T i).pc):=by
 obtain ⟨BM,h1,h2⟩:=R.L6 hi
 obtain ⟨ρ,ν,b',e1,⟨q1,q2,q3⟩,q4,q5,q6,q7⟩:=yj h1
 rw [hb,Addr.mk.injEq] at e1
 obtain rfl:=e1.1
 obtain ⟨g1,cs,g2,g3⟩:=q1.aI 0 _ rfl rfl rfl
 have g2:=g2.cells rfl
 refine ⟨(ν 0).block,by unfold World.cell?;rw [q7,←g1];rfl,?_,?_⟩
 ·have:=g3.ex 18 _ rfl rfl
  unfold World.cell?
  rw [g2]
  refine this.trans (congrArg some ?_)
  show Value.int .i64 (ρ.iv 22)=_
  rw [←(R.sys.mt i hi).rep.step,←q2]
  rfl
 ·unfold World.cell?
  rw [q7,←(R.sys.mt i hi).pc]
  rfl
theorem bN.pl (R:bN w1 aP aM g n e k w p T own A M):∃B,lG w aP p B:=by
 obtain ⟨F,lU,hF⟩:=R.LZ
 obtain ⟨BP,BM,h1,-⟩:=lU.ex
 exact ⟨BP,h1⟩
theorem bN.ZV (R:bN w1 aP aM g n e k w p T own A M) (hs:ow w1 ν) {f:Int} (h0:0≤f) (h1:f<85) :
  Calls Tryd.prog 16 #[.pointer (some aP),.agg #[.int .i64 0,.int .i64 0,.int .i64 f]] w fun ev w'=>ev=.returned (.tuple #[Ez (p.bd f.toNat),.bool true])∧Nw w w':=by
 obtain ⟨B,hB⟩:=R.pl
 exact VX (hs.nw R.nw).sn hB h0 (by rw [R.sys.inv.nb];exact h1)
end
section
variable {n:Nat} {e k:Int} {p p':PS} {T:Nat→Th} {own:Int→iy} {A:Nat→Int} {i:Nat} {M:Nat→Mn}
def u6 (n:Nat) (e:Int) (T:Nat→Th):Prop:=e=1→∀j,j<n→(T j).l.notes=[]
theorem VZ {h:Th} {x:Rp} (he:h.l.aj=1) (hn:h.l.notes=[]):(h.dP x).l.notes=[]:=by
 have hl:=h.pQ x
 show (RT.begin (h.call x).1.l (h.call x).2).1.notes=[]
 by_cases hk:(h.call x).2.kind=10
 ·unfold RT.begin
  rw [if_neg (by omega),if_neg (by omega),if_neg (by omega),if_neg (by omega),if_neg (by omega),if_neg (by omega),if_neg (by omega),if_neg (by omega),if_neg (by omega),if_pos hk,hl.1]
  rcases Kj (l:=h.l) (w:=(h.call x).2.old) with g | ⟨g,-⟩
  ·rw [g,hn]
  ·omega
 ·rw [KI hk,hl.1,hn]
theorem QR:∀(j:Nat) {h:Th},h.l.aj=1→h.l.notes=[]→(h.go j).1.l.notes=[]
 | 0,h,_,hn=>hn
 | j+1,h,he,hn=>by
  by_cases hz:h.t.aW=0
  ·obtain ⟨x,hx⟩:=RT.iP hz
   rw [Th.sU hx]
   by_cases hs:h.stop=true∧h.pc=0
   ·rw [if_pos hs];exact hn
   ·rw [if_neg hs]
    have hb:=RT.J6 (h.call x).1.l (h.call x).2
    rw [(h.pQ x).1] at hb
    refine QR j (h:=h.dP x) ?_ (VZ he hn)
    show (RT.begin (h.call x).1.l (h.call x).2).1.aj=1
    rw [(h.pQ x).1,hb.aj,he]
  ·rw [Th.nA hz];exact hn
theorem TK {h:Th} {x:Rp} (L:h.Loc 1 n p i) (hn:h.l.notes=[]):(h.aK x).l.notes=[]:=by
 have hsh:=L.jN
 unfold Th.sh at hsh
 have hif:∀{q:Prop} [Decidable q] {a b:LR},a.1.notes=[]→b.1.notes=[]→(if q then a else b).1.notes=[]:=fun {q} _ {a b} h1 h2=>by
  by_cases h:q
  ·rw [if_pos h];exact h1
  ·rw [if_neg h];exact h2
 show (RT.aK h.l h.t x).1.notes=[]
 cases ht:h.t with
 | jm j =>
  refine hif hn (hif ?_ hn)
  cases RS.first h.l.h (j+1:Int).toNat (9-(j+1:Int).toNat) <;> exact hn
 | fU c=>exact hif hn (hif hn hn)
 | ji c w=>exact hif hn (hif hn hn)
 | dU o b=>rw [ht] at hsh;exact absurd hsh.2 (by omega)
 | jZ c=>rw [ht] at hsh;exact absurd hsh.2.1 (by omega)
 | bV c s=>rw [ht] at hsh;exact absurd rfl hsh.2.1
 | dO=>rw [ht] at hsh;exact absurd hsh.2 (by omega)
 | fe d r=>rw [ht] at hsh;exact absurd rfl hsh.2.1
 | _=>exact hn
theorem u6.step (h:u6 n e T) (S:Sys k n e p T own A M) (hi:i<n):u6 n e (bA T i ((T i).step p).1):=fun he j hj=>by
 by_cases hji:j=i
 ·rw [hji,aF]
  subst he
  have hn:=h rfl i hi
  obtain ⟨Kh,H1,-,-⟩:=Inv.go (A:=A) hi 12 S.inv (S.bad i hi) (Nat.lt_of_le_of_lt (NT _) (by omega))
  have L1:=H1.loc i hi
  rw [aF] at L1
  have a:=QR 12 (S.inv.loc i hi).iA hn
  unfold Th.step
  generalize (T i).go 12=g at a L1
  obtain ⟨g1,g2⟩:=g
  simp only at a L1
  cases g2 with
  | some c=>exact a
  | none =>
   simp only
   by_cases hz:g1.t.aW=0
   ·rw [if_pos hz];exact a
   ·rw [if_neg hz]
    cases p.act (g1.t.acc g1.l) with
    | mk p' xo =>
     cases xo with
     | none=>exact a
     | some x=>exact TK L1 a
 ·rw [aY _ _ hji]
  exact h he j hj
def nJ (n r k:Nat) (T:Nat→Th):Prop:=(1≤r→∀j,j<n→j<k→(T j).l.notes=[])∧(2≤r→∀j,j<n→(T j).l.notes=[])
structure Left (n:Nat) (e C:Int) (s:Nat) (p:PS) (T:Nat→Th):Prop where
 idle:∀j,j<n→(T j).nW∧(T j).stop=true
 n1:u6 n e T
 d4:e=4→p.aB=C+s∧∀j,j<n→∀m∈(T j).l.notes,m.cO≤C
structure yD (n:Nat) (e C:Int) (s k:Nat) (p:PS) (T:Nat→Th):Prop where
 DT:∀j,j<n→j≠k→(T j).nW∧(T j).stop=true
 pc:(T k).pc=0∧(T k).stop=true
 n1:u6 n e T
 d4:e=4→∀j,j<n→∀m∈(T j).l.notes,m.cO≤C
 sc:(∃c,(e=4→c=C+s)∧qQ e c p (T k))∨e=1∧(T k).t.aW=0
theorem Left.of (H:Inv n e p T own A) (hi:∀j,j<n→(T j).nW∧(T j).stop=true) (hn:u6 n e T):Left n e p.aB 0 p T :=
 ⟨hi,hn,fun e4=>⟨by simp,fun j hj m hm=>(H.cO j m hm).2 (by omega)⟩⟩
theorem yD.quiet {C:Int} {s k:Nat} (h:yD n e C s k p T):Quiet n T k:=⟨fun j hj hjk=>(h.DT j hj hjk).1,h.pc.1⟩
def Th.scan (h:Th):Th:=h.with (RT.scan h.l)
theorem Oc (l:Lo):(RT.scan l).1=l:=by
 unfold RT.scan
 split
 ·rfl
 split <;> rfl
theorem Left.scan {C:Int} {s k r:Nat} (h:Left n e C s p T) (H:Inv n e p T own A) (hk:k<n) (hg:nJ n r k T):Inv n e p (bA T k (T k).scan) own A∧yD n e C s k p (bA T k (T k).scan)∧nJ n r k (bA T k (T k).scan):=by
 have hl:(T k).scan.l=(T k).l:=Oc (T k).l
 have hnt:∀j,(bA T k (T k).scan j).l.notes=(T j).l.notes:=fun j=>by
  by_cases hjk:j=k
  ·rw [hjk,aF,hl]
  ·rw [aY _ _ hjk]
 have hS:∀q:(∃c,(e=4→c=C+s)∧qQ e c p (T k).scan)∨e=1∧(T k).scan.t.aW=0,yD n e C s k p (bA T k (T k).scan):=fun q =>
  ⟨fun j hj hjk=>by rw [aY _ _ hjk];exact h.idle j hj,by rw [aF];exact ⟨(h.idle k hk).1.1,(h.idle k hk).2⟩,fun he j hj=>by rw [hnt];exact h.n1 he j hj,fun e4 j hj m hm=>(h.d4 e4).2 j hj m (by rwa [hnt] at hm),by rw [aF];exact q⟩
 have hG:nJ n r k (bA T k (T k).scan):=⟨fun h1 j hj hjk=>by rw [hnt];exact hg.1 h1 j hj hjk,fun h2 j hj=>by rw [hnt];exact hg.2 h2 j hj⟩
 rcases H.scan hk (h.idle k hk).1 (fun he=>h.n1 he k hk) with ⟨a,b⟩ | ⟨a,b,c⟩
 ·exact ⟨a,hS (.inl ⟨p.aB,fun e4=>(h.d4 e4).1,b⟩),hG⟩
 ·refine ⟨c,hS (.inr ⟨a,?_⟩),hG⟩
  show (RT.scan (T k).l).2.aW=0
  rw [b]
  rfl
theorem yD.step {C:Int} {s k r:Nat} (h:yD n e C s k p T) (H:Inv n e p T own A) (hk:k<n) (hb:(T k).t.aW≠0) (hg:nJ n r k T):yD n e C s k ((T k).step p).2.1 (bA T k ((T k).step p).1)∧nJ n r k (bA T k ((T k).step p).1):=by
 obtain ⟨p',x,own',A',ha,hI⟩:=H.acc hk hb
 have hst:(T k).step p=((T k).aK x,p',true):=by
  unfold Th.step
  rw [Th.nA hb]
  simp only
  rw [if_neg hb,ha]
 rcases h.sc with ⟨c,hc,hs⟩ | ⟨-,h0⟩
 ·obtain ⟨a1,a2,a3,a4⟩:=qQ.step H hk h.quiet hs hb ha
  rw [hst]
  have hnt:∀j,∀m∈(bA T k ((T k).aK x) j).l.notes,m∈(T j).l.notes:=fun j m hm=>by
   by_cases hjk:j=k
   ·rw [hjk,aF] at hm;rw [hjk];exact a2 m hm
   ·rwa [aY _ _ hjk] at hm
  have hnil:∀j,(T j).l.notes=[]→(bA T k ((T k).aK x) j).l.notes=[]:=fun j hj=>List.eq_nil_iff_forall_not_mem.2 fun m hm=>by
   have:=hnt j m hm
   rw [hj] at this
   cases this
  exact ⟨⟨fun j hj hjk=>by rw [aY _ _ hjk];exact h.DT j hj hjk,by rw [aF];exact ⟨a3,h.pc.2⟩,fun he j hj=>hnil j (h.n1 he j hj),fun e4 j hj m hm=>h.d4 e4 j hj m (hnt j m hm),.inl ⟨c,hc,by rw [aF];exact a1⟩⟩,
    fun h1 j hj hjk=>hnil j (hg.1 h1 j hj hjk),fun h2 j hj=>hnil j (hg.2 h2 j hj)⟩
 ·exact absurd h0 hb
theorem yD.done {C:Int} {s k r:Nat} (h:yD n e C s k p T) (hk:k<n) (h0:(T k).t.aW=0) (hg:nJ n r k T) (hr:1≤r→1≤s):Left n e C (s+1) p T∧nJ n r (k+1) T:=by
 have hend:(e=4→p.aB=C+s+1)∧(e≠4∨1≤s→(T k).l.notes=[]):=by
  rcases h.sc with ⟨c,hc,hs⟩ | ⟨e1,-⟩
  ·obtain ⟨x,hx⟩:=RT.iP h0
   unfold qQ at hs
   rw [hx] at hs
   refine ⟨fun e4=>by rw [hs.1 e4,hc e4],fun hq=>List.eq_nil_iff_forall_not_mem.2 fun m hm=>?_⟩
   obtain ⟨e4,hd⟩:=hs.2 m hm
   have h1:=hc e4
   have h2:=h.d4 e4 k hk m hm
   omega
  ·exact ⟨fun e4=>by omega,fun _=>h.n1 e1 k hk⟩
 refine ⟨⟨fun j hj=>?_,h.n1,fun e4=>⟨by rw [hend.1 e4];omega,h.d4 e4⟩⟩,fun h1 j hj hjk=>?_,hg.2⟩
 ·by_cases hjk:j=k
  ·rw [hjk];exact ⟨⟨h.pc.1,h0⟩,h.pc.2⟩
  ·exact h.DT j hj hjk
 ·by_cases ZW:j=k
  ·rw [ZW];exact hend.2 (.inr (hr h1))
  ·exact hg.1 h1 j hj (by omega)
theorem nJ.next {r:Nat} (h:nJ n r n T):nJ n (r+1) 0 T:=⟨fun _ j _ hj=>absurd hj (Nat.not_lt_zero j),fun h2 j hj=>h.1 (by omega) j hj hj⟩
def Mn.scan (m:Mn):Mn:={m with r:=(m.r.begin (Ca.of 11)).1}
theorem Sys.scan (S:Sys k n e p T own A M) (hi:i<n) (h0:(T i).t.aW=0) (hI:Inv n e p (bA T i (T i).scan) own A):Sys k n e p (bA T i (T i).scan) own A (bA M i (M i).scan)∧((M i).r.begin (Ca.of 11)).2=true∧(M i).r.step=0:=by
 obtain ⟨x,hx⟩:=RT.iP h0
 have hm:=S.mt i hi
 have hrep:iL (T i).l (.idle x) (M i).r:=by
  have:=hm.rep
  rw [hx] at this
  exact this
 have ho:=(S.gV hi).ok
 have hb:=hrep.begin ho (c:=Ca.of 11) (by unfold Ca.OK Ca.of Ca.zero;simp)
 have hrs:(M i).r.step=0:=hrep.step
 refine ⟨⟨hI,fun j hj=>?_,fun j hj=>?_,fun j hj=>?_,fun j hj=>?_,S.pw,S.st,S.k0⟩,hb.2,hrs⟩
 all_goals
  by_cases hji:j=i
  ·rw [hji]
   simp only [aF]
   first
    | exact ⟨hb.1,hm.pc,hm.old,hm.node,hm.bad,hm.stop⟩
    | (have w:=S.wb i hi;have q:=FJ S.k0 w.l;exact ⟨w.old,w.node,q.l,q.t⟩)
    | exact S.bad i hi
    | (have:=S.fr i hi;rw [show (T i).scan.l.freed=(T i).l.freed from x9 _];exact this)
  ·simp only [aY _ _ hji]
   first
    | exact S.mt j hj
    | exact S.wb j hj
    | exact S.bad j hj
    | exact S.fr j hj
end
def Ma:Env where
 iv:=fun i=>if i=0 then 11 else 0
 bv:=fun _=>false
 vv:=fun _=>undef
 ic:=fun _ _ _ _=>0
 bc:=fun _ _ _ _=>false
 vc:=fun _ _ _ _=>undef
def fB (i:Nat):Nat:=if i<4 then i else i+85
theorem Yh:(List.range bP.length).map (fun j=>jc.hp'[gR j]?)=bP.map fun sb=>some (sb.aV fB gR):=by kernel_rfl
theorem TL {w:World} {ρ:Env} {ν:Nat→Addr} (h:aN ρ ν bP w) (ho:bJ ρ 4) (hs:(0≤(ae ρ 0 4).me∧(ae ρ 0 4).me<6)∧1≤(ae ρ 0 4).threads∧(ae ρ 0 4).threads≤6) (hf:(ae ρ 0 4).notes.length≤1000000) (h0:(ae ρ 0 4).step=0) :
  Calls Tryd.prog 27 #[.pointer (some (ν 0)),.agg #[.int .i64 11,.int .i64 0,.int .i64 0,.int .i64 0,.int .i64 0,.int .i64 0,.int .i64 0,.int .i64 0,.bool false,.int .i64 0,.int .i64 0,.int .i64 0,.int .i64 0,.bool false,.int .i64 0,.int .i64 0,.int .i64 0,.int .i64 0]] w fun ev w'=>∃ρ' aO,ev=.returned .nilIface∧aO 0=ν 0∧(aN ρ' aO bP w'∧ae ρ' 0 4=((ae ρ 0 4).begin (Ca.of 11)).1∧bJ ρ' 4)∧(∀x,dJ ρ' aO bP x→w.heap.size≤x∨dJ ρ ν bP x)∧jL w (dJ ρ ν bP) w':=by
 have hn:ρ.iv 59≤1000000:=by
  have h1:(aU ρ 70 (ρ.iv 59)).length≤1000000:=hf
  rw [iT] at h1
  omega
 have hA:dL 71 4 ρ (ρ.cat 71 Ma) ν ν:=⟨fun _ h=>if_pos h,fun _ h=>if_pos h,fun _ h=>if_pos h,fun _ h=>if_pos h,fun _ h=>if_pos h,fun _ h=>if_pos h,fun _ _=>rfl⟩
 obtain ⟨q,hq⟩:∃q,q=ρ.cat 71 Ma:=⟨_,rfl⟩
 rw [←hq] at hA
 have hh:aN q ν bP w:=h.ext hA (by kernel_rfl) (by decide)
 have e1:ae q 0 4=ae ρ 0 4:=by rw [hq];rfl
 have e2:iK q 71=Ca.of 11:=by rw [hq];rfl
 have hrun:=GI.run q ν w hh ⟨fun g k _ h=>(by cases h),fun g g' k k' _ _ h=>(by cases h)⟩ (by
   refine ⟨⟨by rw [hq];exact ho,?_,?_⟩,?_,?_⟩
   · have:(0≤(ae q 0 4).me∧(ae q 0 4).me<6)∧1≤(ae q 0 4).threads∧(ae q 0 4).threads≤6:=by rw [e1];exact hs
     exact ⟨this.1.1,this.1.2,this.2.1,this.2.2⟩
   · show q.iv 59≤1000000
     rw [hA.iv 59 (by decide)]
     exact hn
   · show (ae q 0 4).step=0
     rw [e1]
     exact h0
   · show (iK q 71).OK
     rw [e2]
     unfold Ca.OK Ca.of Ca.zero
     simp)
 have hargs:(jc.args.map (·.den q ν)).toArray=#[.pointer (some (ν 0)),.agg #[.int .i64 11,.int .i64 0,.int .i64 0,.int .i64 0,.int .i64 0,.int .i64 0,.int .i64 0,.int .i64 0,.bool false,.int .i64 0,.int .i64 0,.int .i64 0,.int .i64 0,.bool false,.int .i64 0,.int .i64 0,.int .i64 0,.int .i64 0]]:=by
  rw [hq]
  rfl
 rw [hargs] at hrun
 refine Calls.mono hrun ?_
 rintro ev w' ⟨ρ',aO,hA',rfl,jg,hwr,how,q1,q2⟩
 have e0:ae ρ' 0 4=ae q 0 4:=by
  unfold ae iK ay aL av dX aU gX bO
  simp (disch:=decide) only [hA'.iv,hA'.bv,hA'.ic,hA'.bc]
 have e3:iK ρ' 71=iK q 71:=by
  unfold iK av
  simp (disch:=decide) only [hA'.iv,hA'.bv]
 replace q2:ae ρ' 0 89=((ae ρ' 0 4).begin (iK ρ' 71)).1:=q2
 rw [e0,e1,e3,e2] at q2
 have pR:∀x,jX q ν bP x→dJ ρ ν bP x:=fun x h=>(rE hA (by kernel_rfl) (by decide)).1 (oP h)
 refine ⟨ρ'.pull fB,fun k=>aO (gR k),rfl,?_,⟨jg.sub Yh QN,q2,q1⟩,fun x hx=>?_,hwr.os,hwr.tape,hwr.output,hwr.size,fun b hb hn=>hwr.block b hb fun h=>hn (pR b h)⟩
 ·show aO 0=ν 0
  exact hA'.bl 0 (by decide)
 ·exact ((how.sub Yh).aI EA hx).imp id fun h=>pR x h
section
variable {w1 w w':World} {aP:Addr} {aM:Nat→Addr} {g n i b:Nat} {e k:Int} {p:PS} {T:Nat→Th} {own:Int→iy} {A:Nat→Int} {M:Nat→Mn} {ν:Nat→Addr}
theorem bN.scan (R:bN w1 aP aM g n e k w p T own A M) (hi:i<n) (hb:aM i=⟨b,0,none⟩) (h0:(T i).t.aW=0) (hI:Inv n e p (bA T i (T i).scan) own A) :
  ∃r:Addr,w.cell? ⟨b,0,none⟩=some (.pointer (some r))∧Calls Tryd.prog 27 #[.pointer (some r),.agg #[.int .i64 11,.int .i64 0,.int .i64 0,.int .i64 0,.int .i64 0,.int .i64 0,.int .i64 0,.int .i64 0,.bool false,.int .i64 0,.int .i64 0,.int .i64 0,.int .i64 0,.bool false,.int .i64 0,.int .i64 0,.int .i64 0,.int .i64 0]] w fun ev w'=>ev=.returned .nilIface∧bN w1 aP aM g n e k w' p (bA T i (T i).scan) own A (bA M i (M i).scan):=by
 obtain ⟨BM,h1,h2⟩:=R.L6 hi
 obtain ⟨ρ,ν,b',e1,⟨q1,q2,q3⟩,q4,q5,q6,q7⟩:=yj h1
 rw [hb,Addr.mk.injEq] at e1
 obtain rfl:=e1.1
 obtain ⟨s1,s2,s3⟩:=R.sys.scan hi h0 hI
 have hrs:=(R.sys.gV hi).rs
 refine ⟨ν 0,by unfold World.cell?;rw [q7];rfl,(TL q1 q3 (by rw [q2];exact hrs.1) (by rw [q2];exact hrs.2) (by rw [q2];exact s3)).mono ?_⟩
 rintro ev w' ⟨ρ',aO,rfl,e0,⟨g1,g2,g3⟩,g4,g5⟩
 have hlt:b<w.heap.size:=by
  rcases Nat.lt_or_ge b w.heap.size with h | h
  ·exact h
  ·rw [Array.getElem?_eq_none h] at q7;cases q7
 have hnb:¬dJ ρ' aO bP b:=fun h=>(g4 b h).elim (fun h=>absurd hlt (Nat.not_lt.2 h)) q5
 have G5:=FM (m:=(M i).scan) g1 (by rw [g2,q2];rfl) g3 hnb (by rw [g5.block b hlt q5,q7,e0];rfl)
 refine ⟨rfl,h2 w' _ _ k _ own A (by rw [hb];exact G5) (fun x hx=>?_) ⟨g5.os,g5.tape,g5.output,g5.size,fun x hx hn=>g5.block x hx fun h=>hn (q4 x h)⟩ s1⟩
 rcases hx with rfl | hx
 ·exact .inr q6
 ·exact (g4 x hx).imp id (q4 x)
theorem bN.V3 (R:bN w1 aP aM g n e k w p T own A M) (hi:i<n) (hb:aM i=⟨b,0,none⟩) :
  ∃r:Addr,w.cell? ⟨b,0,none⟩=some (.pointer (some r))∧Calls Tryd.prog 26 #[.pointer (some r)] w fun ev w'=>∃a c,ev=.returned (.slice a (T i).l.notes.length c)∧bN w1 aP aM g n e k w' p T own A M:=by
 obtain ⟨BM,h1,h2⟩:=R.L6 hi
 obtain ⟨ρ,ν,b',e1,⟨q1,q2,q3⟩,q4,q5,q6,q7⟩:=yj h1
 rw [hb,Addr.mk.injEq] at e1
 obtain rfl:=e1.1
 have hrep:=(R.sys.mt i hi).rep
 have hln:=R.sys.inv.CL (i:=i)
 have hns:=R.sys.inv.ok.ns
 refine ⟨ν 0,by unfold World.cell?;rw [q7];rfl,(TA q1 q3 (by rw [q2,hrep.notes];omega)).mono ?_⟩
 rintro ev w' ⟨ρ',aO,a,c,rfl,e0,⟨g1,g2,g3⟩,g4,g5⟩
 have hlt:b<w.heap.size:=by
  rcases Nat.lt_or_ge b w.heap.size with h | h
  ·exact h
  ·rw [Array.getElem?_eq_none h] at q7;cases q7
 have hnb:¬dJ ρ' aO bP b:=fun h=>(g4 b h).elim (fun h=>absurd hlt (Nat.not_lt.2 h)) q5
 have G5:=FM (m:=M i) g1 (g2.trans q2) g3 hnb (by rw [g5.block b hlt q5,q7,e0])
 refine ⟨a,c,by rw [q2,hrep.notes],cast (congrArg (bN w1 aP aM g n e k w' p T own A) (zV M i)) (h2 w' (M i) _ k T own A (by rw [hb];exact G5) (fun x hx=>?_) ⟨g5.os,g5.tape,g5.output,g5.size,fun x hx hn=>g5.block x hx fun h=>hn (q4 x h)⟩ (by rw [zV];exact R.sys))⟩
 rcases hx with rfl | hx
 ·exact .inr q6
 ·exact (g4 x hx).imp id (q4 x)
theorem bN.live (R:bN w1 aP aM g n e k w p T own A M):Calls Tryd.prog 15 #[.pointer (some aP)] w fun ev w'=>ev=.returned (.int .i64 (p.ns-p.nf))∧Nw w w':=by
 obtain ⟨B,hB⟩:=R.pl
 have:=R.sys.inv.ok.cnt
 exact VY hB R.sys.inv.ok (by omega)
end
theorem V4 (w:World):Calls Tryd.prog 28 #[.int .i64 0] w fun ev w'=>ev=.returned (.tuple #[.agg #[.int .i64 0,.int .i64 0,.int .i64 0],.nilIface])∧Nw w w':=by
 refine Calls.mono (RV.run (QJ fun _=>0) (fun _=>⟨0,0,none⟩) w Ic ⟨fun g k _ h=>(by cases h),fun g g' k k' _ _ h=>(by cases h)⟩ (by show 0≤(0:Int)∧(0:Int)<24;decide)) ?_
 rintro ev w' ⟨ρ',aO,hA,rfl,jg,hwr,how,q1⟩
 refine ⟨?_,hwr.os,hwr.tape,hwr.output,hwr.size,fun k hk _=>hwr.block k hk fun h=>qG (by kernel_rfl) h⟩
 show Ending.returned (.tuple #[.agg #[.int .i64 0,.int .i64 0,.int .i64 (ρ'.iv 0)],.nilIface])=_
 rw [hA.iv 0 (by decide)]
 rfl
theorem TM (d:Wd) (w:World):Calls Tryd.prog 29 #[Ez d] w fun ev w'=>ev=.returned (.bool (decide (d.slot=0)))∧Nw w w':=by
 unfold Ez
 go_enter Tryd.func29,Tryd.ntmps29
 go_wp2
 go_ret
 exact ⟨by by_cases hs:d.slot=0 <;> simp [hs],(jL.refl w _).alloc _⟩
end Go.Proofs.YthomdlajobnmnaaDoor
