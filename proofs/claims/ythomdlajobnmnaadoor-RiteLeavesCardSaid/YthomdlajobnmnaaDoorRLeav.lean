/- 'RiteLeaves' -/
import Derived.Test.YthomdlajobnmnaaDoorQ24
set_option linter.unusedSimpArgs false
set_option linter.unusedVariables false
namespace Go.Proofs.YthomdlajobnmnaaDoor
open Go.RowKit Go.Rex
theorem Inv.Wp {n:Nat} {e:Int} {p:PS} {T:Nat→Th} {own:Int→gQ} {A:Nat→Int} {i:Nat} (H:Inv n e p T own A) (hi:i<n):0≤(T i).left p:=by
 by_cases h:(T i).pc=0∧(T i).t.bg=0
 ·obtain ⟨x,hx⟩:=RT.jo h.2
  unfold Th.left
  rw [hx]
  simp [h.1]
 ·exact Int.le_of_lt (CG (H.loc i hi) H.n6 h)
set_option maxHeartbeats 16000000 in
set_option maxRecDepth 100000 in
theorem KO (w:World) (ν:Nat→Addr) (a0 a1 a2 a3:Int) (v:Value) (l:List Int) (hs:mh w ν) (hv:Rd w v l) :
  Calls Tryd.prog 8 #[.agg #[.int .i64 a0,.int .i64 a1,.int .i64 a2,.int .i64 a3],v] w fun e w'=>e=.returned (.bool true)∧Nw w w':=by
 have ha:=Ey (hs.nw ((jh.refl w _).alloc (.cells #[.int .i64 a0,.int .i64 a1,.int .i64 a2,.int .i64 a3] 52)))
 obtain ⟨A,c,rfl,hlc,hc,hA⟩:=hv
 have A0:Aside (mh w ν∧(l.length≤c∧c≤9223372036854775807)∧∀k,k<l.length→∃ad,A=some ad∧w.cell? (ad.add k)=some (.int .i64 (l.getD k 0))):=⟨hs,⟨hlc,hc⟩,hA⟩
 clear hs hlc hc hA
 go_enter Tryd.func8,Tryd.ntmps8
 go_wp2_with (go_at_call 20;(with_reducible refine ha.mono ?_);rintro ev w1 ⟨rfl,hw1⟩;have hc0:=hw1.pR (a:=⟨w.heap.size,0,none⟩) (x:=.int .i64 a0) (by simp);have hc1:=hw1.pR (a:=⟨w.heap.size,1,none⟩) (x:=.int .i64 a1) (by simp);have hc2:=hw1.pR (a:=⟨w.heap.size,2,none⟩) (x:=.int .i64 a2) (by simp);have hc3:=hw1.pR (a:=⟨w.heap.size,3,none⟩) (x:=.int .i64 a3) (by simp);have A1:Aside (Nw w w1):=Nw.trans ((jh.refl w _).alloc _) hw1;clear ha hw1)
 obtain ⟨E,e0,e1,e2⟩:=x9 a0 5 (by decide) (by decide)
 obtain ⟨n,n0,n1,n2⟩:=x9 a1 6 (by decide) (by decide)
 obtain ⟨N,m0,m1,m2⟩:=x9 a2 12 (by decide) (by decide)
 obtain ⟨S,s0,s1,s2⟩:=x9 a3 60 (by decide) (by decide)
 have hs1:=A0.out.1.nw A1.out
 have hy:=GX E N S n ⟨by omega,by omega⟩ ⟨by omega,by omega⟩ ⟨by omega,by omega⟩ ⟨by omega,by omega⟩ w1 _ hs1.sn (fun k hk=>hs1.lt (by unfold gS;split <;> omega))
 have AR:Aside ((1≤E∧E≤5)∧(1≤n∧n≤6)∧(1≤N∧N≤12)∧(1≤S∧S≤60)):=⟨by omega,by omega,by omega,by omega⟩
 simp only [e0,n0,m0,s0]
 clear e0 e1 e2 n0 n1 n2 m0 m1 m2 s0 s1 s2 hs1 hc0 hc1 hc2 hc3
 go_wp2_with (go_at_call 21;(with_reducible refine hy.mono ?_);intro ev w2 hp2;obtain ⟨aP,g,c2,p,p0,rfl,hY,hF,hact⟩:=hp2)
 obtain ⟨aM,hR⟩:=hY.run hF hact ⟨by have:=AR.out.2.2.2;omega,by have:=AR.out.2.2.2;omega⟩ ⟨by have:=AR.out.1;omega,by have:=AR.out.1;omega⟩ AR.out.2.1 (by have:=AR.out.2.2.1;omega)
 obtain ⟨bp,rfl,-⟩:=hR.fault
 have A2:Aside (dE w1 ⟨bp,0,none⟩ aM g n E 1 w2 p (fun i=>Th.new E i n N) (fun _=>.free) (fun _=>1) (fun i=>Mn.new E i n N)):=hR
 clear hy hY hF hact hR
 go_loopg [8] 1500 (fun k i wr=>∃j:Nat,i=.int .i64 j∧(j+k=1500∧j≤l.length)∧Aside (∃T own A p M,dE w1 ⟨bp,0,none⟩ aM g n E (1+j) wr p T own A M))
 case atStart=>exact ⟨0,rfl,⟨by omega,by omega⟩,_,_,_,_,_,A2.out⟩
 case round =>
  obtain ⟨j,rfl,hjk,hR⟩:=hrel
  by_cases hlt:j<l.length∧j<1500
  ·obtain ⟨T,own,A',p,M,hR⟩:=hR.out
   obtain ⟨ad,rfl,hcell⟩:=A0.out.2.2 j hlt.1
   replace hcell:=(A1.out.trans hR.nw).pR hcell
   obtain ⟨x,hx⟩:∃x,x=l.getD j 0:=⟨_,rfl⟩
   rw [←hx] at hcell
   obtain ⟨q,hq,yz⟩:=UY x n AR.out.2.1
   have hrow:wr.cell? ⟨g,(wrap64 ((IntKind.u64.wrap x).tmod (IntKind.u64.wrap (n:Int)))).toNat,none⟩=some (.pointer (some (aM q))):=by
    rw [hq]
    exact hR.row q yz
   have hq0:0≤wrap64 ((IntKind.u64.wrap x).tmod (IntKind.u64.wrap (n:Int))):=by omega
   have hq1:wrap64 ((IntKind.u64.wrap x).tmod (IntKind.u64.wrap (n:Int)))<(n:Int):=by omega
   obtain ⟨b,-,hb,-⟩:=hR.mn yz
   have hdz:¬IntKind.u64.wrap (n:Int)=0:=by have:=AR.out.2.1;rw [X6 (x:=(n:Int)) (by omega) (by omega)];omega
   have hst:=hR.step yz (by omega) (A0.out.1.nw A1.out)
   rw [hb] at hrow hst
   have A3:Aside ((aM q=⟨b,0,none⟩)∧(j+gk=1500∧j≤l.length)∧x=l.getD j 0∧(wrap64 ((IntKind.u64.wrap x).tmod (IntKind.u64.wrap (n:Int)))=(q:Int)∧q<n)):=⟨hb,hjk,hx,hq,yz⟩
   have h1:(j:Int)<(l.length:Int):=by omega
   have h2:(j:Int)<1500:=by omega
   have h3:(j:Int)≤1500:=by omega
   clear hb hjk hx hq yz hlt hR
   go_wp2_with (first
     | (go_at_call 22;(with_reducible refine hst.mono ?_);intro ev w3 hp3;obtain ⟨rfl,own',Yo,hR⟩:=hp3;have A4:Aside (dE _ _ _ _ _ _ _ _ _ _ _ _ _):=hR;clear hst hR))
   obtain ⟨q0,q1,q2,q3⟩:=A3.out
   go_roundg (gk-1)
   case measure=>omega
   case rel =>
    have:=A4.out
    rw [show (1:Int)+(j:Int)+1=1+((j+1:Nat):Int) by omega] at this
    exact ⟨j+1,by go_num,⟨by omega,by omega⟩,_,_,_,_,_,this⟩
  ·obtain ⟨T,own,A',p,M,hR⟩:=hR.out
   have AX:Aside (dE w1 ⟨bp,0,none⟩ aM g n E (1+j) wr p T own A' M∧j≤1500):=⟨hR,by omega⟩
   clear hR
   have hex:((j:Int)<(l.length:Int)∧¬(j:Int)<1500)∨¬(j:Int)<(l.length:Int):=by omega
   clear hjk hlt
   rcases hex with ⟨h1,h2⟩ | h1
   all_goals
    go_wp2
    go_loopg [9] n (fun k i wr=>∃t:Nat,i=.int .i64 t∧t+k=n∧Aside (∃T own A p M c,dE w1 ⟨bp,0,none⟩ aM g n E c wr p T own A M∧c≤1600+1300 * (t:Int)))
    case atStart=>exact ⟨0,rfl,by omega,_,_,_,_,_,_,AX.out.1,by have:=AX.out.2;omega⟩
    case round =>
     obtain ⟨t,rfl,htk,hR⟩:=hrel
     rcases Nat.lt_or_ge t n with hlt | hge
     ·obtain ⟨T,own,A',p,M,cc,hR,hcc⟩:=hR.out
      obtain ⟨b,-,hb,-⟩:=hR.mn hlt
      have hrow:=hR.row t hlt
      rw [hb] at hrow
      obtain ⟨⟨hst,hfz⟩,hR'⟩:=hR.off hlt hb
      have htn:(t:Int)<(n:Int):=by omega
      obtain ⟨Zo,QV⟩:∃x,x=gk:=⟨_,rfl⟩
      have A5:Aside (aM t=⟨b,0,none⟩∧t<n∧t+gk=n∧Zo=gk):=⟨hb,hlt,htk,QV⟩
      have A6:Aside (∃T own A p M c,dE w1 ⟨bp,0,none⟩ aM g n E c (wr.setCell ⟨b,13,none⟩ (.bool true)) p T own A M∧(c≤1600+1300 * (t:Int)∧(T t).stop=true∧(T t).left p≤1200)):=by
       refine ⟨_,_,_,_,_,_,hR',hcc,by rw [aK];rfl,?_⟩
       have h1:=hR'.sys.inv.NV hlt
       have h2:=hR'.sys.inv.ok.ns
       omega
      clear hb hlt htk QV hR hR' hcc
      go_wp2
      go_loopg [10] 5000 (fun k i wr=>∃s:Nat,i=.int .i64 s∧s+k=5000∧Aside (∃T own A p M c,dE w1 ⟨bp,0,none⟩ aM g n E c wr p T own A M∧(c≤1600+1300 * (t:Int)+s∧(T t).stop=true∧(T t).left p+s≤1200)))
      case atStart =>
       obtain ⟨T,own,A',p,M,cc,hR,h1,h2,h3⟩:=A6.out
       exact ⟨0,rfl,by omega,_,_,_,_,_,_,hR,by omega,h2,by omega⟩
      case round =>
       obtain ⟨s,rfl,hsk,hR⟩:=hrel
       obtain ⟨T,own,A',p,M,cc,hR,hcc,hstop,hleft⟩:=hR.out
       obtain ⟨hb,hlt,htk,QV⟩:=A5.out
       have hrow:=hR.row t hlt
       rw [hb] at hrow
       obtain ⟨rb,hr0,TM,hr1⟩:=hR.ZZ hlt hb
       by_cases hid:(T t).Ii
       ·have hz:=hR.sys.inv.YO hlt hid
        have hbu:=GZ TM
        rw [hid.2] at hbu TM
        rw [hid.1] at hr1
        have hs5:(s:Int)<5000:=by
         have:(T t).left p=0:=by
          obtain ⟨x,hx⟩:=RT.jo hid.2
          unfold Th.left
          rw [hx]
          simp [hid.1]
         omega
        have hsp:=fun w'=>Wn (k:=t) ⟨by omega,by have:=AR.out.2.1;omega⟩ w'
        have hpk:∀w',Nw wr w'→Calls Tryd.prog 16 #[.pointer (some ⟨bp,0,none⟩),.agg #[.int .i64 0,.int .i64 0,.int .i64 (79+t)]] w' fun ev w''=>ev=.returned (.tuple #[.agg #[.int .i64 0,.int .i64 0,.int .i64 0,.int .i64 0,.bool false],.bool true])∧Nw w' w'':=fun w' h=>by
         have h6:=AR.out.2.1
         have:=(hR.new h).Yr (A0.out.1.nw A1.out) (f:=79+t) (by omega) (by omega)
         rw [show (79+(t:Int)).toNat=79+t by omega,hz.1] at this
         exact this
        have A7:Aside ((p.bd (79+t)=Wd.zero∧∀m,m<9→p.bd (25+9 * t+m)=Wd.zero)∧cc≤1600+1300 * (t:Int)+s∧(T t).left p+s≤1200∧dE w1 ⟨bp,0,none⟩ aM g n E cc wr p T own A' M):=⟨hz,hcc,hleft,hR⟩
        clear hz hcc hleft hR hsk hstop hid hb hlt htk QV
        go_wp2_with (first
          | (go_at_call 23;(with_reducible refine hbu.mono ?_);rintro ev w4 ⟨rfl,hq⟩;replace hq:=hq.symm;subst hq)
          | (go_at_call 24;(with_reducible refine (hsp _).mono ?_);rintro ev w5 ⟨rfl,uZ⟩)
          | (go_at_call 16;(with_reducible refine (hpk _ (Nw.trans uZ ((jh.refl _ _).alloc _))).mono ?_);rintro ev w6 ⟨rfl,QW⟩;have A8:Aside (Nw wr w6):=Nw.trans (Nw.trans uZ ((jh.refl _ _).alloc _)) QW;clear uZ QW hsp hpk hbu))
        have AK:Aside (∀w':World,Nw wr w'→dE w1 ⟨bp,0,none⟩ aM g n E cc w' p T own A' M):=fun w' h=>A7.out.2.2.2.new h
        go_loopg [15] 9 (fun k i wq=>∃h:Nat,i=.int .i64 h∧h+k=9∧Aside (Nw wr wq))
        case atStart=>exact ⟨0,rfl,by omega,Nw.trans A8.out ((jh.refl _ _).alloc _)⟩
        case round =>
         obtain ⟨h,rfl,hhk,hq⟩:=hrel
         rcases Nat.lt_or_ge h 9 with h9 | h9
         ·have h9':(h:Int)<9:=by omega
          have hkp:=fun w'=>Wo (k:=t) (i:=h) ⟨⟨by omega,by have:=AR.out.2.1;have:=A5.out.2.1;omega⟩,by omega,by omega⟩ w'
          have hpk:∀w',Nw _ w'→Calls Tryd.prog 16 #[.pointer (some ⟨bp,0,none⟩),.agg #[.int .i64 0,.int .i64 0,.int .i64 (25+(t:Int) * 9+h)]] w' fun ev w''=>ev=.returned (.tuple #[.agg #[.int .i64 0,.int .i64 0,.int .i64 0,.int .i64 0,.bool false],.bool true])∧Nw w' w'':=fun w' hw=>by
           have h6:=AR.out.2.1
           have h7:=A5.out.2.1
           have:=(AK.out _ hw).Yr (A0.out.1.nw A1.out) (f:=25+(t:Int) * 9+h) (by omega) (by omega)
           rw [show (25+(t:Int) * 9+h).toNat=25+9 * t+h by omega,A7.out.1.2 h h9] at this
           exact this
          have A9:Aside (h+gk=9):=hhk
          clear hhk h9
          go_wp2_with (first
            | (go_at_call 25;(with_reducible refine (hkp _).mono ?_);rintro ev w5 ⟨rfl,uZ⟩)
            | (go_at_call 16;(with_reducible refine (hpk _ (Nw.trans (Nw.trans hq.out uZ) ((jh.refl _ _).alloc _))).mono ?_);rintro ev w6 ⟨rfl,QW⟩;have Yt:=Nw.trans (Nw.trans (Nw.trans hq.out uZ) ((jh.refl _ _).alloc _)) QW;have Yt:Aside (Nw _ w6):=Yt;clear uZ QW hkp hpk hq))
          have hhk:=A9.out
          go_roundg (gk-1)
          case measure=>omega
          case rel=>exact ⟨h+1,by go_num,by omega,Nw.trans Yt.out ((jh.refl _ _).alloc _)⟩
         ·have h9':¬(h:Int)<9:=by omega
          clear hhk h9
          go_wp2
          obtain ⟨z1,z2,z3,z4⟩:=A5.out
          obtain ⟨y1,y2,y3,y4⟩:=A7.out
          have h6:=AR.out.2.1
          go_roundg (Zo-1)
          case measure=>omega
          case rel=>exact ⟨t+1,congrArg (Value.int .i64) ((w64 (n:=(t:Int)+1) (by omega) (by omega)).trans (by omega)),by omega,_,_,_,_,_,_,AK.out _ hq.out,by have h0:=y4.sys.inv.Wp z2;omega⟩
       ·have hpos:=CG (p:=p) (hR.sys.inv.loc t hlt) hR.sys.inv.n6 hid
        have hs5:(s:Int)<5000:=by omega
        have hbu:=GZ TM
        have hst:=hR.step hlt (by have:=AR.out.2.1;omega) (A0.out.1.nw A1.out)
        have hdec:=hR.sys.inv.Tm hlt (hR.sys.bad t hlt) hstop hid
        have hso:=QU (T t) p
        rw [hb] at hst
        have A7:Aside (s+gk=5000∧cc≤1600+1300 * (t:Int)+s∧(T t).stop=true∧(T t).left p+s≤1200∧((T t).step p).1.left ((T t).step p).2.1<(T t).left p∧((T t).step p).1.stop=(T t).stop):=⟨hsk,hcc,hstop,hleft,hdec,hso⟩
        have hcase:(T t).t.bg≠0∨(T t).t.bg=0∧(T t).pc≠0:=by
         by_cases h0:(T t).t.bg=0
         ·exact .inr ⟨h0,fun h=>hid ⟨h,h0⟩⟩
         ·exact .inl h0
        clear hsk hcc hstop hleft hdec hso hpos hid hb hlt htk QV hR
        rcases hcase with h0 | ⟨h0,h00⟩
        ·rw [show decide ((T t).t.bg≠0)=true from decide_eq_true h0] at hbu
         go_wp2_with (first
           | (go_at_call 23;(with_reducible refine hbu.mono ?_);rintro ev w5 ⟨rfl,rfl⟩)
           | (go_at_call 22;(with_reducible refine hst.mono ?_);intro ev w3 hp3;obtain ⟨rfl,own',Yo,hR⟩:=hp3;have A4:Aside (dE _ _ _ _ _ _ _ _ _ _ _ _ _):=hR;clear hst hR))
         obtain ⟨z1,z2,z3,z4,z5,z6⟩:=A7.out
         go_roundg (gk-1)
         case measure=>omega
         case rel=>exact ⟨s+1,by go_num,by omega,_,_,_,_,_,_,A4.out,by omega,by rw [aK,z6];exact z3,by rw [aK];omega⟩
        ·rw [show decide ((T t).t.bg≠0)=false from decide_eq_false (fun h=>h h0)] at hbu
         go_wp2_with (first
           | (go_at_call 23;(with_reducible refine hbu.mono ?_);rintro ev w5 ⟨rfl,rfl⟩)
           | (go_at_call 22;(with_reducible refine hst.mono ?_);intro ev w3 hp3;obtain ⟨rfl,own',Yo,hR⟩:=hp3;have A4:Aside (dE _ _ _ _ _ _ _ _ _ _ _ _ _):=hR;clear hst hR))
         obtain ⟨z1,z2,z3,z4,z5,z6⟩:=A7.out
         go_roundg (gk-1)
         case measure=>omega
         case rel=>exact ⟨s+1,by go_num,by omega,_,_,_,_,_,_,A4.out,by omega,by rw [aK,z6];exact z3,by rw [aK];omega⟩
     ·obtain ⟨T,own,A',p,M,cc,hR,hcc⟩:=hR.out
      have htn:¬(t:Int)<(n:Int):=by omega
      have A3:Aside (Nw w wr):=A1.out.trans hR.nw
      clear hR hcc htk hge
      go_wp2
      go_ret
      exact ⟨rfl,A3.out⟩
theorem Og:bF Tryd.prog (iq 27 mi 8 (u6 4)) (tN (u6 4)) (qw mi (u6 4)) :=
 ZX ⟨_,Tryd.func8,by kernel_rfl,by kernel_rfl⟩ KO
end Go.Proofs.YthomdlajobnmnaaDoor
