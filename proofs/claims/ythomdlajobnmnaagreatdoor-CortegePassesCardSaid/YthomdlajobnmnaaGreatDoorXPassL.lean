/- 'CortegePasses' -/
import Derived.Test.YthomdlajobnmnaaGreatDoorX31
set_option linter.unusedSimpArgs false
set_option linter.unusedVariables false
namespace Go.Proofs.YthomdlajobnmnaaGreatDoor.Cq
open Go.RowKit Go.Rex
theorem Dq {k:Nat} (hk:k<8):uJ k<16:=by unfold uJ;split <;> omega
theorem oJ.in1 {w1 wr w6:World} {j jb:Nat} {s s' v':Value} {o:Obj} (h:oJ w1 wr j jb s s') (hown:w6.ownsRow w1.heap.size 28 4 v' (j+1) ((kG j).flatMap o9 ++ [.int .i64 4,.int .i64 0,.int .i64 (j:Int),.int .i64 0])) (hg:(wr.alloc o).grownBy w6 s.ownBlock) (hat:v'.ownBlock=s.ownBlock∨v'.ownBlock=some (wr.alloc o).heap.size):oJ w1 w6 (j+1) jb v' s':=by
 obtain ⟨ha,hb,hsa,hsb,hne,hnw⟩:=h
 refine ⟨by rw [acy];exact hown,fe hb fun y hy ho=>(hg.block y (by simp;omega) fun e=>hne y e.symm ho).trans (heap_alloc_old _ _ hy),vQ hown,hsb,fun y hy e=>?_,xH (hnw.alloc _) hg fun g hg=>(ha.lt g hg).1⟩
 rcases hat with h | h
 ·exact hne y (h.symm.trans hy) e
 ·rw [h,Option.some.injEq] at hy
  have:=(hb.lt y e).2
  simp at hy
  omega
theorem oJ.aii {w1 wr w6:World} {j jb:Nat} {s s' v':Value} {o:Obj} (h:oJ w1 wr j jb s s') (hown:w6.ownsRow w1.heap.size 28 4 v' (jb+1) ((je jb).flatMap o9 ++ [.int .i64 5,.int .i64 0,.int .i64 0,.int .i64 0])) (hg:(wr.alloc o).grownBy w6 s'.ownBlock) (hat:v'.ownBlock=s'.ownBlock∨v'.ownBlock=some (wr.alloc o).heap.size):oJ w1 w6 j (jb+1) s v':=by
 obtain ⟨ha,hb,hsa,hsb,hne,hnw⟩:=h
 refine ⟨fe ha fun y hy ho=>(hg.block y (by simp;omega) fun e=>hne y ho e.symm).trans (heap_alloc_old _ _ hy),by rw [ZF];exact hown,hsa,vQ hown,fun y hy e=>?_,xH (hnw.alloc _) hg fun g hg=>(hb.lt g hg).1⟩
 rcases hat with h | h
 ·exact hne y hy (h.symm.trans e)
 ·rw [h,Option.some.injEq] at e
  have:=(ha.lt y hy).2
  simp at e
  omega
theorem oJ.ops {w1 wr:World} {a b g7 g8 c7 c8:Nat} (h:oJ w1 wr a b (.slice (some ⟨g7,0,none⟩) a c7) (.slice (some ⟨g8,0,none⟩) b c8)):Dp (wr.alloc (.cells #[.slice (some ⟨g7,0,none⟩) a c7,.slice (some ⟨g8,0,none⟩) b c8] 25)) wr.heap.size 2 (fun i=>if i=0 then g7 else g8) (Ae a b):=by
 have n8:Nw wr (wr.alloc (.cells #[.slice (some ⟨g7,0,none⟩) a c7,.slice (some ⟨g8,0,none⟩) b c8] 25)):=(bA.refl _ _).alloc _
 refine ⟨fun i hi=>?_⟩
 match i,hi with
 | 0,_ =>
  refine ⟨⟨c7,?_⟩,?_,?_⟩
  ·simp [Ae,afR]
  ·exact (QW (w:=wr) (g:=g7) (l:=kG a) h.a rfl).frame (n8.block _ (h.a.lt g7 rfl).2 id)
  ·exact Nat.lt_of_lt_of_le (h.a.lt g7 rfl).2 n8.size
 | 1,_ =>
  refine ⟨⟨c8,?_⟩,?_,?_⟩
  ·simp [Ae,acz]
  ·exact (QW (w:=wr) (g:=g8) (l:=je b) h.b rfl).frame (n8.block _ (h.b.lt g8 rfl).2 id)
  ·exact Nat.lt_of_lt_of_le (h.b.lt g8 rfl).2 n8.size
theorem SP.ok {k m:Nat} {p:PS} {W:Nat→Wk} (h:SP k m p W):p.OK:=by
 obtain ⟨K,G,v0,v1,T,-⟩:=h
 exact T.sy.a0.gJ.DL
set_option maxHeartbeats 3000000 in
set_option maxRecDepth 100000 in
theorem Pn (w:World) (ν:Nat→Addr) (a0 a1 b0 b1:Int) (v:Value) (l:List Int) (hs:vS w ν) (hv:Rd w v l) :
  Calls Tryz.prog 6 #[.agg #[.int .i64 a0,.int .i64 a1],.agg #[.int .i64 b0,.int .i64 b1],v] w fun e w'=>e=.returned (.bool true)∧Nw w w':=by
 obtain ⟨i0,hi,hy0,hy1,hy2⟩:=info_parts afQ
 have hn0:Nw w ((w.alloc (.cells #[.int .i64 a0,.int .i64 a1] 22)).alloc (.cells #[.int .i64 b0,.int .i64 b1] 22)):=((bA.refl w _).alloc _).alloc _
 have ha:=Pm (hs.nw hn0)
 obtain ⟨A,c,rfl,hlc,hc,hA⟩:=hv
 obtain ⟨na,na0,na1⟩:=Ua b0 13 (by decide) (by decide)
 obtain ⟨nb,nb0,nb1⟩:=Ua b1 13 (by decide) (by decide)
 obtain ⟨E,e0,e1,e2⟩:=abd a0 5 (by decide) (by decide)
 obtain ⟨N,n0,n1,n2⟩:=abd a1 9 (by decide) (by decide)
 have A0:Aside (vS w ν∧(l.length≤c∧c≤9223372036854775807)∧(∀k,k<l.length→∃ad,A=some ad∧w.cell? (ad.add k)=some (.int .i64 (l.getD k 0)))∧(na≤12∧nb≤12)∧(1≤(E:Int)∧(E:Int)≤5)∧1≤(N:Int)∧(N:Int)≤9):=⟨hs,⟨hlc,hc⟩,hA,⟨by omega,by omega⟩,⟨by omega,by omega⟩,by omega,by omega⟩
 have AE:Aside ((wrap64 (1+wrap64 ((IntKind.u64.wrap a0).tmod 5))=(E:Int))∧(wrap64 (1+wrap64 ((IntKind.u64.wrap a1).tmod 9))=(N:Int))∧(wrap64 ((IntKind.u64.wrap b0).tmod 13)=(na:Int))∧(wrap64 ((IntKind.u64.wrap b1).tmod 13)=(nb:Int))):=⟨e0,n0,na0,nb0⟩
 have hna:na≤12:=by omega
 have hnb:nb≤12:=by omega
 clear hs hlc hc hA e0 e1 e2 n0 n1 n2 na0 na1 nb0 nb1
 go_enter Tryz.func6,Tryz.ntmps6
 go_wp2_with (go_at_call 15;(with_reducible refine ha.mono ?_);rintro ev w1 ⟨rfl,hw1⟩)
 have A1:Aside (Nw w w1):=hn0.trans hw1
 have AC:Aside ((w1.cell? ⟨w.heap.size,0,none⟩=some (.int .i64 a0)∧w1.cell? ⟨w.heap.size,1,none⟩=some (.int .i64 a1))∧(w1.cell? ⟨w.heap.size+1,0,none⟩=some (.int .i64 b0)∧w1.cell? ⟨w.heap.size+1,1,none⟩=some (.int .i64 b1))):=⟨⟨hw1.bJ (by simp),hw1.bJ (by simp)⟩,hw1.bJ (by simp),hw1.bJ (by simp)⟩
 clear hw1 hn0 ha
 go_loopg [7,9] na (fun k s i wr=>∃j:Nat,i=.int .i64 j∧j+k=na∧Aside (oJ w1 wr j 0 s (.slice (some ⟨w1.heap.size+1,0,none⟩) 0 0)))
 case atStart =>
  refine ⟨0,rfl,by omega,⟨rfl,.inr ⟨w1.heap.size,0,#[],rfl,Nat.le_refl _,?_,Nat.le_refl _,Nat.zero_le _,rfl,rfl⟩⟩,⟨rfl,.inr ⟨w1.heap.size+1,0,#[],rfl,Nat.le_succ _,?_,Nat.le_refl _,Nat.zero_le _,rfl,rfl⟩⟩,⟨_,_,rfl⟩,⟨_,_,rfl⟩,fun g h1 h2=>?_,((bA.refl _ _).alloc _).alloc _⟩
  ·exact (heap_alloc_old _ _ (by simp)).trans (nk _ _)
  ·have:=nk (w1.alloc (.cells #[] 28)) (.cells #[] 28)
   simpa using this
  ·have h1:=Option.some.inj h1
   have h2:=Option.some.inj h2
   simp at h1 h2
   omega
 case round =>
  obtain ⟨j,rfl,hjk,hY⟩:=hrel
  have hb1:=hY.out.nw.bJ AC.out.2.1
  have hb2:=hY.out.nw.bJ AC.out.2.2
  have ZG:=AE.out.2.2.1
  by_cases hlt:j<na
  ·have hlt':(j:Int)<(na:Int):=by omega
   have ha:=hY.out.a
   generalize hxs:(kG j).flatMap o9=xs at ha
   have A4:Aside (oJ w1 wr j 0 u7 (.slice (some ⟨w1.heap.size+1,0,none⟩) 0 0)∧(kG j).flatMap o9=xs):=⟨hY.out,hxs⟩
   have hsz:=hY.out.nw.size
   have hm1:j+1≤maxLen:=by unfold maxLen;omega
   have hm2:(j+1) * 32≤140737488355328:=by omega
   have Hy:∀o,w1.heap.size≤(wr.alloc o).heap.size:=fun o=>by simp;omega
   clear hxs hY
   go_wp2_with (first
     | (at_builtin;refine wpList_append_own_at _ rfl _ _ 25 rfl w1.heap.size 28 i0 (.agg #[.int .i64 0,.int .i64 0,.int .i64 0,.int .i64 0]) 4 32 Tryz.underlying25 hi hy0 hy1 hy2 rfl (by decide) _ _ _ rfl (ha.alloc _) _ 1 1 [.int .i64 4,.int .i64 0,.int .i64 (j:Int),.int .i64 0] rfl rfl (OV _ _ _ _ _ _) (OW _ _ _ _) hm1 hm2 (Hy _) ?_;intro v' w6 hown' hgrow _ hat;have A5:Aside (oJ w1 w6 (j+1) 0 v' (.slice (some ⟨w1.heap.size+1,0,none⟩) 0 0)):=(A4.out.1.in1 (by rw [A4.out.2];exact hown') hgrow hat))
     | fail)
   clear hown' hgrow hat ha
   go_wp2
   go_roundg (gk-1)
   case measure=>omega
   case rel=>exact ⟨j+1,by go_num,by omega,A5.out⟩
  ·have hlt':¬(j:Int)<(na:Int):=by omega
   obtain rfl:j=na:=by omega
   obtain ⟨g7,c7,rfl⟩:=hY.out.sa
   have A4:Aside (oJ w1 wr j 0 (.slice (some ⟨g7,0,none⟩) j c7) (.slice (some ⟨w1.heap.size+1,0,none⟩) 0 0)):=hY.out
   clear hY
   go_wp2_with fail
   clear hb1 hb2 ZG hlt'
   go_loopg [8,10] nb (fun k s i wx=>∃t:Nat,i=.int .i64 t∧t+k=nb∧Aside (oJ w1 wx j t (.slice (some ⟨g7,0,none⟩) j c7) s))
   case atStart=>exact ⟨0,rfl,by omega,A4.out⟩
   case round =>
    rename World=>wx
    obtain ⟨t,rfl,htk,hY⟩:=hrel
    have hb1:=hY.out.nw.bJ AC.out.2.1
    have hb2:=hY.out.nw.bJ AC.out.2.2
    have ZG:=AE.out.2.2.2
    by_cases hlt:t<nb
    ·have hlt':(t:Int)<(nb:Int):=by omega
     have ha:=hY.out.b
     generalize hxs:(je t).flatMap o9=xs at ha
     have A5:Aside (oJ w1 wx j t (.slice (some ⟨g7,0,none⟩) j c7) u8∧(je t).flatMap o9=xs):=⟨hY.out,hxs⟩
     have hsz:=hY.out.nw.size
     have hm1:t+1≤maxLen:=by unfold maxLen;omega
     have hm2:(t+1) * 32≤140737488355328:=by omega
     have Hy:∀o,w1.heap.size≤(wx.alloc o).heap.size:=fun o=>by simp;omega
     clear hxs hY
     go_wp2_with (first
       | (at_builtin;refine wpList_append_own_at _ rfl _ _ 25 rfl w1.heap.size 28 i0 (.agg #[.int .i64 0,.int .i64 0,.int .i64 0,.int .i64 0]) 4 32 Tryz.underlying25 hi hy0 hy1 hy2 rfl (by decide) _ _ _ rfl (ha.alloc _) _ 1 1 [.int .i64 5,.int .i64 0,.int .i64 0,.int .i64 0] rfl rfl (OV _ _ _ _ _ _) (OW _ _ _ _) hm1 hm2 (Hy _) ?_;intro v' w6 hown' hgrow _ hat;have A6:Aside (oJ w1 w6 j (t+1) (.slice (some ⟨g7,0,none⟩) j c7) v'):=(A5.out.1.aii (by rw [A5.out.2];exact hown') hgrow hat))
       | fail)
     clear hown' hgrow hat ha
     go_wp2
     go_roundg (gk-1)
     case measure=>omega
     case rel=>exact ⟨t+1,by go_num,by omega,A6.out⟩
    ·have hlt':¬(t:Int)<(nb:Int):=by omega
     obtain rfl:t=nb:=by omega
     obtain ⟨g8,c8,rfl⟩:=hY.out.sb
     have hO:=hY.out.ops
     have hnw:=hY.out.nw
     have hsr:=(A0.out.1.nw A1.out).nw hnw
     have agw:=hnw.bJ AC.out.1.1
     have agx:=hnw.bJ AC.out.1.2
     have n8:Nw wx (wx.alloc (.cells #[.slice (some ⟨g7,0,none⟩) j c7,.slice (some ⟨g8,0,none⟩) t c8] 25)):=(bA.refl _ _).alloc _
     have Ub:=hsr.nw n8
     have hsz:∀k,k<8→(ν (uJ k)).block<(wx.alloc (.cells #[.slice (some ⟨g7,0,none⟩) j c7,.slice (some ⟨g8,0,none⟩) t c8] 25)).heap.size:=fun k hk=>Ub.lt (Dq hk)
     have hy:=Xe E N 60 2 wx.heap.size 2 A0.out.2.2.2.2.1 ⟨by decide,by decide⟩ ⟨A0.out.2.2.2.2.2.1,by have:=A0.out.2.2.2.2.2.2;omega⟩ ⟨by decide,by decide⟩ _ hO _ Ub.sn hsz
     have A5:Aside (Nw w (wx.alloc (.cells #[.slice (some ⟨g7,0,none⟩) j c7,.slice (some ⟨g8,0,none⟩) t c8] 25))∧vS (wx.alloc (.cells #[.slice (some ⟨g7,0,none⟩) j c7,.slice (some ⟨g8,0,none⟩) t c8] 25)) ν):=⟨(A1.out.trans hnw).trans n8,Ub⟩
     have hE0:=AE.out.1
     have hN0:=AE.out.2.1
     clear hY hO hnw hsr n8 Ub hsz
     go_wp2_with (first
       | (go_at_call 21;(with_reducible refine hy.mono ?_);intro ev w2 hp2;obtain ⟨aP,g,c2,p,rfl,hY,hL⟩:=hp2))
     generalize wx.alloc (.cells #[.slice (some ⟨g7,0,none⟩) j c7,.slice (some ⟨g8,0,none⟩) t c8] 25)=wb at *
     obtain ⟨aW,hR⟩:=hY.run
     have KC:=Tw.new (E:=(E:Int)) (N:=(N:Int)) (W:=fun i=>Wk.new E i 2 N (Ae j t i)) (a:=j) (b:=t) A0.out.2.2.2.2.1 A0.out.2.2.2.2.2.1 A0.out.2.2.2.1.1 A0.out.2.2.2.1.2 hL rfl rfl
     obtain ⟨BP,qb⟩:=hR.pl
     obtain ⟨bp,rfl,-⟩:=qb.cells hL.bT
     have hkp:∀i:Nat,i<2→(Wk.new E i 2 N (Ae j t i)).ops=Ae j t i:=fun _ _=>rfl
     have A6:Aside (Tw 10 p (fun i=>Wk.new E i 2 N (Ae j t i)) G00 ⟨Ko E 0 N,.idle ⟨Wd.zero,false⟩,kG j,none,false,[]⟩ ⟨Ko E 1 N,.idle ⟨Wd.zero,false⟩,je t,none,false,[]⟩∧iX wb w2 ⟨bp,0,none⟩ aW (fun i=>if i=0 then g7 else g8) wb.heap.size g 2 p (fun i=>Wk.new E i 2 N (Ae j t i))):=⟨KC,hR⟩
     clear hy hY hL KC hR qb hE0 hN0 agw agx hb1 hb2 ZG hlt'
     go_wp2_with fail
     go_loopg [13] 2000 (fun k i wq=>∃r:Nat,i=.int .i64 r∧(r+k=2000∧r≤l.length)∧Aside (∃K p W G v0 v1,Tw K p W G v0 v1∧K≤10+8 * (r:Int)∧(∀i,i<2→(W i).ops=Ae j t i)∧iX wb wq ⟨bp,0,none⟩ aW (fun i=>if i=0 then g7 else g8) wb.heap.size g 2 p W))
     case atStart=>exact ⟨0,rfl,⟨by omega,by omega⟩,_,_,_,_,_,_,A6.out.1,by omega,hkp,A6.out.2⟩
     case round =>
      rename World=>wq
      obtain ⟨r,rfl,hrk,hR⟩:=hrel
      obtain ⟨K,p1,W1,G1,v0,v1,KC,hK,hops,Ad⟩:=hR.out
      clear hR
      by_cases hlt:r<l.length∧r<2000
      ·obtain ⟨ad,rfl,hcell⟩:=A0.out.2.2.1 r hlt.1
       replace hcell:=(A5.out.1.trans Ad.nw).bJ hcell
       obtain ⟨x,hx⟩:∃x,x=l.getD r 0:=⟨_,rfl⟩
       rw [←hx] at hcell
       obtain ⟨q,hq,aij⟩:=Ua x 2 (by decide) (by decide)
       have QX:q<2:=by omega
       have hrow:wq.cell? ⟨g,(wrap64 ((IntKind.u64.wrap x).tmod 2)).toNat,none⟩=some (.pointer (some ⟨aW q,0,none⟩)):=by
        rw [hq]
        exact Ad.row q QX
       have hq0:0≤wrap64 ((IntKind.u64.wrap x).tmod 2):=by omega
       have hq1:wrap64 ((IntKind.u64.wrap x).tmod 2)<2:=by omega
       obtain ⟨I,i1,i2,i3,i4,i5⟩:=KC.acc (by omega) QX
       have hsz:∀k,k<8→(ν (uJ k)).block<wb.heap.size:=fun k hk=>A5.out.2.lt (Dq hk)
       have hst:=Ad.step QX i1 i2 A5.out.2.sn hsz i3 i4 i5
       obtain ⟨K2,G2,v2,v3,hK2,afS⟩:=KC.Zk QX
       have abe:∀i,i<2→(jN W1 q ((W1 q).step p1).1 i).ops=Ae j t i:=fun i hi=>by
        by_cases hik:i=q
        ·rw [hik,bF,OU];exact hops q QX
        ·rw [dR _ _ hik];exact hops i hi
       have A7:Aside (Tw K2 ((W1 q).step p1).2.1 (jN W1 q ((W1 q).step p1).1) G2 v2 v3∧K2≤10+8 * ((r:Int)+1)∧∀i,i<2→(jN W1 q ((W1 q).step p1).1 i).ops=Ae j t i):=⟨afS,by omega,abe⟩
       have h1:(r:Int)<(l.length:Int):=by omega
       have h2:(r:Int)<2000:=by omega
       clear hx hq QX aij Ad KC hK hops i1 i2 i3 i4 i5 hsz afS hK2 abe
       go_wp2_with (first
         | (go_at_call 23;(with_reducible refine hst.mono ?_);rintro ev w3 ⟨rfl,Cu⟩))
       go_roundg (gk-1)
       case measure=>omega
       case rel=>exact ⟨r+1,by go_num,⟨by omega,by omega⟩,_,_,_,_,_,_,A7.out.1,by have:=A7.out.2.1;push_cast;omega,A7.out.2.2,Cu⟩
      ·have hsz:∀k,k<8→(ν (uJ k)).block<wb.heap.size:=fun k hk=>A5.out.2.lt (Dq hk)
       obtain ⟨m0,hm0,hSP⟩:=KC.rest (by omega)
       have hrest:=WQ (c:=c2) (afx.qB (Ae j t)) Ad ⟨hSP,hops⟩ hm0 (by decide) A5.out.2.sn hsz
       have hex:¬(r:Int)<(l.length:Int)∨((r:Int)<(l.length:Int)∧¬(r:Int)<2000):=by omega
       clear Ad KC hK hops hsz hlt hrk hm0 hSP
       rcases hex with h1 | ⟨h1,h2⟩
       all_goals (
         go_wp2_with (first
           | (go_at_call 22;(with_reducible refine hrest.mono ?_);rintro ev w9 ⟨rfl,m3,p3,W3,qd,Cu⟩;obtain ⟨G,NN,hQ,-,hm,OY,hlen,OZ⟩:=qd.1.end (qd.2 0 (by decide)) (qd.2 1 (by decide));have O0:=qd.1.ok;obtain ⟨BP3,OP⟩:=Cu.pl;obtain ⟨b3,hb3,-,Xh⟩:=OP.cells hQ.bT;obtain rfl:bp=b3:=(by simpa using hb3);have hfw:=Tu Xh;have A7:Aside ((Qs p3 G NN∧p3.OK∧G.m=j∧G.m≤12)∧(iq (W3 1).said G.d∧(W3 1).said.length=t)∧iX wb w9 ⟨bp,0,none⟩ aW (fun i=>if i=0 then g7 else g8) wb.heap.size g 2 p3 W3):=⟨⟨hQ,O0,hm,OZ⟩,⟨OY,hlen⟩,Cu⟩;clear qd Cu OP hQ hm OY hlen OZ O0 hrest Xh hb3)
           | (go_at_call 11;(with_reducible refine hfw.mono ?_);rintro ev w10 ⟨rfl,rfl⟩))
         clear hfw
         go_loopg [14,15] t (fun kk n i wy=>∃k cc:Nat,(i=.int .i64 k∧n=.int .i64 cc)∧(k+kk=t∧k≤t)∧Aside (iq ((W3 1).said.take k) cc∧Nw w10 wy))
         case atStart=>exact ⟨0,0,⟨rfl,rfl⟩,⟨by omega,by omega⟩,.nil,bA.refl _ _⟩
         case round =>
           rename World=>wy
           obtain ⟨k,cc,⟨rfl,rfl⟩,⟨hkk,ZH⟩,hN⟩:=hrel
           by_cases hkt:k<t
           · obtain ⟨cc',z1,z2⟩:=A7.out.2.1.1.at k (by rw [A7.out.2.1.2];exact hkt)
             obtain rfl:=iq.uniq z1 hN.out.1
             obtain ⟨B9,hW9⟩:=A7.out.2.2.wk (i:=1) (by decide)
             obtain ⟨gs,cs,hsl,hse⟩:=hW9.agv (fun e=>by have:=A7.out.2.1.2;rw [e] at this;simp at this;omega)
             rw [A7.out.2.1.2] at hsl
             replace hsl:=hN.out.2.bJ hsl
             have hrow:=hN.out.2.bJ (A7.out.2.2.row 1 (by decide))
             have hcb:cc'≤k:=by
               have:=z1.DJ
               have h2:=List.length_filter_le (fun x:Int × Int=>x.1 == 1) ((W3 1).said.take k)
               rw [List.length_take] at h2
               omega
             have ZI:=A0.out.2.2.2.1.2
             have hk1:(k:Int)<(t:Int):=by omega
             have hk0:(0:Int)≤(k:Int):=by omega
             have A8:Aside (Nw w10 wy∧k<t∧k+gk=t∧cc'≤k∧t≤12):=⟨hN.out.2,hkt,hkk,hcb,ZI⟩
             rcases z2 with ⟨z2,z3⟩ | ⟨z2,z3⟩
             · obtain ⟨c1,c2'⟩:=hse k _ z2
               replace c1:=hN.out.2.bJ c1
               replace c2':=hN.out.2.bJ c2'
               have A9:Aside (iq ((W3 1).said.take (k+1)) cc'):=z3
               clear hN hW9 hse z1 z2 z3 hkt hkk hcb ZI ZH
               go_wp2_with fail
               go_roundg (gk-1)
               case measure=>have:=A8.out;omega
               case rel =>
                 obtain ⟨y1,y2,y3,y4,y5⟩:=A8.out
                 exact ⟨k+1,cc',⟨by go_num,rfl⟩,⟨by omega,by omega⟩,A9.out,y1.alloc _⟩
             · obtain ⟨c1,c2'⟩:=hse k _ z2
               replace c1:=hN.out.2.bJ c1
               replace c2':=hN.out.2.bJ c2'
               have A9:Aside (iq ((W3 1).said.take (k+1)) (cc'+1)):=z3
               clear hN hW9 hse z1 z2 z3 hkt hkk hcb ZI ZH
               go_wp2_with fail
               go_roundg (gk-1)
               case measure=>have:=A8.out;omega
               case rel =>
                 obtain ⟨y1,y2,y3,y4,y5⟩:=A8.out
                 have e9:wrap64 ((cc':Int)+1)=((cc'+1:Nat):Int):=(w64 (by omega) (by omega)).trans (by omega)
                 exact ⟨k+1,cc'+1,⟨by go_num,congrArg (Value.int .i64) e9⟩,⟨by omega,by omega⟩,A9.out,y1.alloc _⟩
           · have hk1:¬(k:Int)<(t:Int):=by omega
             obtain rfl:k=t:=by omega
             obtain ⟨⟨hQ,O0,hm,OZ⟩,⟨OY,hlen⟩,Cu⟩:=A7.out
             have hcc:=hN.out.1
             rw [List.take_of_length_le (by rw [hlen];exact Nat.le_refl _)] at hcc
             obtain rfl:=iq.uniq OY hcc
             have hRy:=Cu.more hN.out.2
             obtain ⟨BP7,afU⟩:=hRy.pl
             have hsz:∀k,k<8→(ν (uJ k)).block<wb.heap.size:=fun k hk=>A5.out.2.lt (Dq hk)
             have hIt:=afI (A5.out.2.sn.nw hsz hRy.nw) (fun k hk=>Nat.lt_of_lt_of_le (hsz k hk) hRy.nw.size) afU hQ O0 (by unfold Gh.m at OZ;omega)
             have he:wrap64 ((j:Int)-(G.d:Int))=(G.fr.length:Int):=by
               unfold Gh.m at hm
               rw [w64 (by omega) (by omega)]
               omega
             have A8:Aside (Nw w wy):=A5.out.1.trans hRy.nw
             clear afU hsz hRy Cu hQ O0 hm OZ OY hlen hcc hN hkk hkt ZH
             go_wp2_with (first
               | (go_at_call 19;(with_reducible refine hIt.mono ?_);rintro ev w7 ⟨⟨av,rv,cv,rfl⟩,hn7⟩;have A9:Aside (Nw w w7):=A8.out.trans hn7)
               | fail)
             go_ret
             exact ⟨rfl,A9.out⟩)
theorem Uc:bg Tryz.prog (iK 36 o8 6 OX) (Bz OX) (za o8 OX) :=
 aih ⟨_,Tryz.func6,by kernel_rfl,by kernel_rfl⟩ Pn
end Go.Proofs.YthomdlajobnmnaaGreatDoor.Cq
