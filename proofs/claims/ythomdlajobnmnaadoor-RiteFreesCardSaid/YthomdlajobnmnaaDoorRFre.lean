/- 'RiteFrees' -/
import Derived.Test.YthomdlajobnmnaaDoorV21
set_option linter.unusedSimpArgs false
set_option linter.unusedVariables false
namespace Go.Proofs.YthomdlajobnmnaaDoor
open Go.RowKit Go.Rex
theorem Inv.FO {n:Nat} {e:Int} {p:PS} {T:Nat→Th} {own:Int→iy} {A:Nat→Int} {i:Nat} (H:Inv n e p T own A) (hi:i<n):0≤(T i).left p:=by
 by_cases h:(T i).pc=0∧(T i).t.aW=0
 ·obtain ⟨x,hx⟩:=RT.iP h.2
  unfold Th.left
  rw [hx]
  simp [h.1]
 ·exact Int.le_of_lt (x8 (H.loc i hi) H.n6 h)
set_option maxHeartbeats 16000000 in
set_option maxRecDepth 100000 in
theorem Od (w:World) (ν:Nat→Addr) (a0 a1 a2 a3:Int) (v:Value) (l:List Int) (hs:ow w ν) (hv:Rd w v l) :
  Calls Tryd.prog 10 #[.agg #[.int .i64 a0,.int .i64 a1,.int .i64 a2,.int .i64 a3],v] w fun e w'=>e=.returned (.bool true)∧Nw w w':=by
 have ha:=Oa (hs.nw ((jL.refl w _).alloc (.cells #[.int .i64 a0,.int .i64 a1,.int .i64 a2,.int .i64 a3] 52)))
 obtain ⟨A,c,rfl,hlc,hc,hA⟩:=hv
 have A0:Aside (ow w ν∧(l.length≤c∧c≤9223372036854775807)∧∀k,k<l.length→∃ad,A=some ad∧w.cell? (ad.add k)=some (.int .i64 (l.getD k 0))):=⟨hs,⟨hlc,hc⟩,hA⟩
 clear hs hlc hc hA
 go_enter Tryd.func10,Tryd.ntmps10
 go_wp2_with (go_at_call 20;(with_reducible refine ha.mono ?_);rintro ev w1 ⟨rfl,hw1⟩;have hc0:=hw1.yh (a:=⟨w.heap.size,0,none⟩) (x:=.int .i64 a0) (by simp);have hc1:=hw1.yh (a:=⟨w.heap.size,1,none⟩) (x:=.int .i64 a1) (by simp);have hc2:=hw1.yh (a:=⟨w.heap.size,2,none⟩) (x:=.int .i64 a2) (by simp);have hc3:=hw1.yh (a:=⟨w.heap.size,3,none⟩) (x:=.int .i64 a3) (by simp);have A1:Aside (Nw w w1):=Nw.trans ((jL.refl w _).alloc _) hw1;clear ha hw1)
 obtain ⟨E,e0,e1,e2⟩:=Ig a0 5 (by decide) (by decide)
 obtain ⟨n,n0,n1,n2⟩:=Ig a1 6 (by decide) (by decide)
 obtain ⟨N,m0,m1,m2⟩:=Ig a2 12 (by decide) (by decide)
 obtain ⟨S,s0,s1,s2⟩:=Ig a3 60 (by decide) (by decide)
 have hs1:=A0.out.1.nw A1.out
 have hy:=QK E N S n ⟨by omega,by omega⟩ ⟨by omega,by omega⟩ ⟨by omega,by omega⟩ ⟨by omega,by omega⟩ w1 _ hs1.sn (fun k hk=>hs1.lt (by unfold gS;split <;> omega))
 have AR:Aside ((1≤E∧E≤5)∧(1≤n∧n≤6)∧(1≤N∧N≤12)∧(1≤S∧S≤60)):=⟨by omega,by omega,by omega,by omega⟩
 simp only [e0,n0,m0,s0]
 clear e0 e1 e2 n0 n1 n2 m0 m1 m2 s0 s1 s2 hs1 hc0 hc1 hc2 hc3
 go_wp2_with (go_at_call 21;(with_reducible refine hy.mono ?_);intro ev w2 hp2;obtain ⟨aP,g,c2,p,p0,rfl,hY,hF,hact⟩:=hp2)
 obtain ⟨aM,hR⟩:=hY.run hF hact ⟨by have:=AR.out.2.2.2;omega,by have:=AR.out.2.2.2;omega⟩ ⟨by have:=AR.out.1;omega,by have:=AR.out.1;omega⟩ AR.out.2.1 (by have:=AR.out.2.2.1;omega)
 obtain ⟨bp,rfl,-⟩:=hR.fault
 have A2:Aside (bN w1 ⟨bp,0,none⟩ aM g n E 1 w2 p (fun i=>Th.new E i n N) (fun _=>.free) (fun _=>1) (fun i=>Mn.new E i n N)):=hR
 clear hy hY hF hact hR
 go_loopg [9] 2000 (fun k i wr=>∃j:Nat,i=.int .i64 j∧(j+k=2000∧j≤l.length)∧Aside (∃T own A p M,bN w1 ⟨bp,0,none⟩ aM g n E (1+j) wr p T own A M∧u6 n E T))
 case atStart=>exact ⟨0,rfl,⟨by omega,by omega⟩,_,_,_,_,_,A2.out,fun _ _ _=>rfl⟩
 case round =>
  obtain ⟨j,rfl,hjk,hR⟩:=hrel
  by_cases hlt:j<l.length∧j<2000
  ·obtain ⟨T,own,A',p,M,hR,hno⟩:=hR.out
   obtain ⟨ad,rfl,hcell⟩:=A0.out.2.2 j hlt.1
   replace hcell:=(A1.out.trans hR.nw).yh hcell
   obtain ⟨x,hx⟩:∃x,x=l.getD j 0:=⟨_,rfl⟩
   rw [←hx] at hcell
   obtain ⟨q,hq,Mf⟩:=YD x n AR.out.2.1
   have hrow:wr.cell? ⟨g,(wrap64 ((IntKind.u64.wrap x).tmod (IntKind.u64.wrap (n:Int)))).toNat,none⟩=some (.pointer (some (aM q))):=by
    rw [hq]
    exact hR.row q Mf
   have hq0:0≤wrap64 ((IntKind.u64.wrap x).tmod (IntKind.u64.wrap (n:Int))):=by omega
   have hq1:wrap64 ((IntKind.u64.wrap x).tmod (IntKind.u64.wrap (n:Int)))<(n:Int):=by omega
   obtain ⟨b,-,hb,-⟩:=hR.mn Mf
   have hdz:¬IntKind.u64.wrap (n:Int)=0:=by have:=AR.out.2.1;rw [Zd (x:=(n:Int)) (by omega) (by omega)];omega
   have hno':=hno.step hR.sys Mf
   have hst:=hR.step Mf (by omega) (A0.out.1.nw A1.out)
   rw [hb] at hrow hst
   have A3:Aside ((aM q=⟨b,0,none⟩)∧(j+gk=2000∧j≤l.length)∧x=l.getD j 0∧(wrap64 ((IntKind.u64.wrap x).tmod (IntKind.u64.wrap (n:Int)))=(q:Int)∧q<n)):=⟨hb,hjk,hx,hq,Mf⟩
   have AN:Aside (u6 n E (bA T q ((T q).step p).1)):=hno'
   have h1:(j:Int)<(l.length:Int):=by omega
   have h2:(j:Int)<2000:=by omega
   have h3:(j:Int)≤2000:=by omega
   clear hb hjk hx hq Mf hlt hR hno hno'
   go_wp2_with (first
     | (go_at_call 22;(with_reducible refine hst.mono ?_);intro ev w3 hp3;obtain ⟨rfl,own',Yi,hR⟩:=hp3;have A4:Aside (bN _ _ _ _ _ _ _ _ _ _ _ _ _):=hR;clear hst hR))
   obtain ⟨q0,q1,q2,q3⟩:=A3.out
   go_roundg (gk-1)
   case measure=>omega
   case rel =>
    have:=A4.out
    rw [show (1:Int)+(j:Int)+1=1+((j+1:Nat):Int) by omega] at this
    exact ⟨j+1,by go_num,⟨by omega,by omega⟩,_,_,_,_,_,this,AN.out⟩
  ·obtain ⟨T,own,A',p,M,hR,hno⟩:=hR.out
   have AX:Aside (bN w1 ⟨bp,0,none⟩ aM g n E (1+j) wr p T own A' M∧j≤2000∧u6 n E T):=⟨hR,by omega,hno⟩
   clear hR hno
   have hex:((j:Int)<(l.length:Int)∧¬(j:Int)<2000)∨¬(j:Int)<(l.length:Int):=by omega
   clear hjk hlt
   rcases hex with ⟨h1,h2⟩ | h1
   all_goals
    go_wp2
    go_loopg [10] n (fun k i wr=>∃t:Nat,i=.int .i64 t∧t+k=n∧Aside (∃T own A p M c,bN w1 ⟨bp,0,none⟩ aM g n E c wr p T own A M∧c≤2100+1300 * (t:Int)∧u6 n E T∧∀j,j<t→(T j).nW∧(T j).stop=true))
    case atStart=>exact ⟨0,rfl,by omega,_,_,_,_,_,_,AX.out.1,by have:=AX.out.2.1;omega,AX.out.2.2,fun j hj=>absurd hj (Nat.not_lt_zero j)⟩
    case round =>
     obtain ⟨t,rfl,htk,hR⟩:=hrel
     rcases Nat.lt_or_ge t n with hlt | hge
     ·obtain ⟨T,own,A',p,M,cc,hR,hcc,hno,vI⟩:=hR.out
      obtain ⟨b,-,hb,-⟩:=hR.mn hlt
      have hrow:=hR.row t hlt
      rw [hb] at hrow
      obtain ⟨⟨hst,hfz⟩,hR'⟩:=hR.off hlt hb
      have htn:(t:Int)<(n:Int):=by omega
      obtain ⟨QS,u7⟩:∃x,x=gk:=⟨_,rfl⟩
      have A5:Aside (aM t=⟨b,0,none⟩∧t<n∧t+gk=n∧QS=gk):=⟨hb,hlt,htk,u7⟩
      have A6:Aside (∃T own A p M c,bN w1 ⟨bp,0,none⟩ aM g n E c (wr.setCell ⟨b,13,none⟩ (.bool true)) p T own A M∧(c≤2100+1300 * (t:Int)∧(T t).stop=true∧(T t).left p≤1200)∧u6 n E T∧∀j,j<t→(T j).nW∧(T j).stop=true):=by
       refine ⟨_,_,_,_,_,_,hR',⟨hcc,by rw [aF];rfl,?_⟩,fun e1 j hj=>?_,fun j hj=>by rw [aY _ _ (Nat.ne_of_lt hj)];exact vI j hj⟩
       ·have h1:=hR'.sys.inv.Eu hlt
        have h2:=hR'.sys.inv.ok.ns
        omega
       ·by_cases hjt:j=t
        ·rw [hjt,aF];exact hno e1 t hlt
        ·rw [aY _ _ hjt];exact hno e1 j hj
      clear hb hlt htk u7 hR hR' hcc hno vI
      go_wp2
      go_loopg [11] 5000 (fun k i wr=>∃s:Nat,i=.int .i64 s∧s+k=5000∧Aside (∃T own A p M c,bN w1 ⟨bp,0,none⟩ aM g n E c wr p T own A M∧(c≤2100+1300 * (t:Int)+s∧(T t).stop=true∧(T t).left p+s≤1200)∧u6 n E T∧∀j,j<t→(T j).nW∧(T j).stop=true))
      case atStart =>
       obtain ⟨T,own,A',p,M,cc,hR,⟨h1,h2,h3⟩,h4,h5⟩:=A6.out
       exact ⟨0,rfl,by omega,_,_,_,_,_,_,hR,⟨by omega,h2,by omega⟩,h4,h5⟩
      case round =>
       obtain ⟨s,rfl,hsk,hR⟩:=hrel
       obtain ⟨T,own,A',p,M,cc,hR,⟨hcc,hstop,hleft⟩,hno,vI⟩:=hR.out
       obtain ⟨hb,hlt,htk,u7⟩:=A5.out
       have hrow:=hR.row t hlt
       rw [hb] at hrow
       obtain ⟨rb,hr0,CS,hr1⟩:=hR.Yg hlt hb
       by_cases hid:(T t).nW
       ·have hbu:=uZ CS
        rw [hid.2] at hbu CS
        rw [hid.1] at hr1
        have hs5:(s:Int)<5000:=by
         have:(T t).left p=0:=by
          obtain ⟨x,hx⟩:=RT.iP hid.2
          unfold Th.left
          rw [hx]
          simp [hid.1]
         omega
        have A7:Aside (bN w1 ⟨bp,0,none⟩ aM g n E cc wr p T own A' M∧cc≤2100+1300 * (t:Int)+s∧(T t).left p+s≤1200∧u6 n E T∧∀j,j<t+1→(T j).nW∧(T j).stop=true):=⟨hR,hcc,hleft,hno,fun j hj=>by
          by_cases hjt:j=t
          · rw [hjt];exact ⟨hid,hstop⟩
          · exact vI j (by omega)⟩
        clear hcc hleft hR hsk hstop hid hb hlt htk u7 hno vI
        go_wp2_with (first
          | (go_at_call 23;(with_reducible refine hbu.mono ?_);rintro ev w4 ⟨rfl,hq⟩;replace hq:=hq.symm;subst hq))
        obtain ⟨z1,z2,z3,z4⟩:=A5.out
        obtain ⟨y1,y2,y3,y4,y5⟩:=A7.out
        have h6:=AR.out.2.1
        go_roundg (QS-1)
        case measure=>omega
        case rel=>exact ⟨t+1,congrArg (Value.int .i64) ((w64 (n:=(t:Int)+1) (by omega) (by omega)).trans (by omega)),by omega,_,_,_,_,_,_,y1,by have h0:=y1.sys.inv.FO z2;omega,y4,y5⟩
       ·have hpos:=x8 (p:=p) (hR.sys.inv.loc t hlt) hR.sys.inv.n6 hid
        have hs5:(s:Int)<5000:=by omega
        have hbu:=uZ CS
        have hst:=hR.step hlt (by have:=AR.out.2.1;omega) (A0.out.1.nw A1.out)
        have hdec:=hR.sys.inv.Kk hlt (hR.sys.bad t hlt) hstop hid
        have hso:=QQ (T t) p
        have hno':=hno.step hR.sys hlt
        rw [hb] at hst
        have A7:Aside (s+gk=5000∧cc≤2100+1300 * (t:Int)+s∧(T t).stop=true∧(T t).left p+s≤1200∧((T t).step p).1.left ((T t).step p).2.1<(T t).left p∧((T t).step p).1.stop=(T t).stop):=⟨hsk,hcc,hstop,hleft,hdec,hso⟩
        have AN:Aside (u6 n E (bA T t ((T t).step p).1)∧∀j,j<t→(bA T t ((T t).step p).1 j).nW∧(bA T t ((T t).step p).1 j).stop=true):=⟨hno',fun j hj=>by rw [aY _ _ (Nat.ne_of_lt hj)];exact vI j hj⟩
        have hcase:(T t).t.aW≠0∨(T t).t.aW=0∧(T t).pc≠0:=by
         by_cases h0:(T t).t.aW=0
         ·exact .inr ⟨h0,fun h=>hid ⟨h,h0⟩⟩
         ·exact .inl h0
        clear hsk hcc hstop hleft hdec hso hpos hid hb hlt htk u7 hR hno hno' vI
        rcases hcase with h0 | ⟨h0,h00⟩
        ·rw [show decide ((T t).t.aW≠0)=true from decide_eq_true h0] at hbu
         go_wp2_with (first
           | (go_at_call 23;(with_reducible refine hbu.mono ?_);rintro ev w5 ⟨rfl,rfl⟩)
           | (go_at_call 22;(with_reducible refine hst.mono ?_);intro ev w3 hp3;obtain ⟨rfl,own',Yi,hR⟩:=hp3;have A4:Aside (bN _ _ _ _ _ _ _ _ _ _ _ _ _):=hR;clear hst hR))
         obtain ⟨z1,z2,z3,z4,z5,z6⟩:=A7.out
         go_roundg (gk-1)
         case measure=>omega
         case rel=>exact ⟨s+1,by go_num,by omega,_,_,_,_,_,_,A4.out,⟨by omega,by rw [aF,z6];exact z3,by rw [aF];omega⟩,AN.out.1,AN.out.2⟩
        ·rw [show decide ((T t).t.aW≠0)=false from decide_eq_false (fun h=>h h0)] at hbu
         go_wp2_with (first
           | (go_at_call 23;(with_reducible refine hbu.mono ?_);rintro ev w5 ⟨rfl,rfl⟩)
           | (go_at_call 22;(with_reducible refine hst.mono ?_);intro ev w3 hp3;obtain ⟨rfl,own',Yi,hR⟩:=hp3;have A4:Aside (bN _ _ _ _ _ _ _ _ _ _ _ _ _):=hR;clear hst hR))
         obtain ⟨z1,z2,z3,z4,z5,z6⟩:=A7.out
         go_roundg (gk-1)
         case measure=>omega
         case rel=>exact ⟨s+1,by go_num,by omega,_,_,_,_,_,_,A4.out,⟨by omega,by rw [aF,z6];exact z3,by rw [aF];omega⟩,AN.out.1,AN.out.2⟩
     ·obtain ⟨T,own,A',p,M,cc,hR,hcc,hno,vI⟩:=hR.out
      have htn:¬(t:Int)<(n:Int):=by omega
      have AY:Aside (∃C,bN w1 ⟨bp,0,none⟩ aM g n E cc wr p T own A' M∧cc≤9900∧Left n E C 0 p T):=⟨_,hR,by have:=AR.out.2.1;omega,Left.of hR.sys.inv (fun j hj=>vI j (by omega)) hno⟩
      clear hR hcc htk hge hno vI
      go_wp2
      go_loopg [12] 3 (fun k i wr=>∃r:Nat,i=.int .i64 r∧r+k=3∧Aside (∃C T own A p M c,bN w1 ⟨bp,0,none⟩ aM g n E c wr p T own A M∧c≤9900+7200 * (r:Int)∧Left n E C (r * n) p T∧nJ n r 0 T))
      case atStart =>
       obtain ⟨C,y1,y2,y3⟩:=AY.out
       exact ⟨0,rfl,by omega,C,_,_,_,_,_,_,y1,by omega,by rw [Nat.zero_mul];exact y3,fun h=>by omega,fun h=>by omega⟩
      case round =>
       obtain ⟨r,rfl,Yj,hR⟩:=hrel
       rcases Nat.lt_or_ge r 3 with hr3 | hr3
       ·obtain ⟨QS,u7⟩:∃x,x=gk:=⟨_,rfl⟩
        have ZX:(r:Int)<3:=by omega
        have A8:Aside (r+gk=3∧QS=gk∧r<3):=⟨Yj,u7,hr3⟩
        clear Yj u7 hr3
        go_wp2
        go_loopg [13] n (fun k i wr=>∃t:Nat,i=.int .i64 t∧t+k=n∧Aside (∃C T own A p M c,bN w1 ⟨bp,0,none⟩ aM g n E c wr p T own A M∧c≤9900+7200 * (r:Int)+1200 * (t:Int)∧Left n E C (r * n+t) p T∧nJ n r t T))
        case atStart =>
         obtain ⟨C,T,own,A',p,M,c',y1,y2,y3,y4⟩:=hR.out
         exact ⟨0,rfl,by omega,C,T,own,A',p,M,c',y1,by omega,y3,y4⟩
        case round =>
         obtain ⟨t,rfl,htk,hR⟩:=hrel
         rcases Nat.lt_or_ge t n with hlt | hge
         ·obtain ⟨C,T,own,A',p,M,cc,hR,hcc,hL,hG⟩:=hR.out
          obtain ⟨b,-,hb,-⟩:=hR.mn hlt
          have hrow:=hR.row t hlt
          rw [hb] at hrow
          obtain ⟨x1,x2,x3⟩:=hL.scan hR.sys.inv hlt hG
          obtain ⟨ra,hr0,hbg⟩:=hR.scan hlt hb (hL.idle t hlt).1.2 x1
          have htn:(t:Int)<(n:Int):=by omega
          obtain ⟨Zj,u7⟩:∃x,x=gk:=⟨_,rfl⟩
          have A9:Aside (aM t=⟨b,0,none⟩∧t<n∧t+gk=n∧Zj=gk):=⟨hb,hlt,htk,u7⟩
          have QT:Aside (cc≤9900+7200 * (r:Int)+1200 * (t:Int)∧yD n E C (r * n+t) t p (bA T t (T t).scan)∧nJ n r t (bA T t (T t).scan)):=⟨hcc,x2,x3⟩
          clear hb hlt htk u7 hR hcc hL hG x1 x2 x3
          go_wp2_with (first
            | (go_at_call 27;(with_reducible refine hbg.mono ?_);intro ev w3 hp3;obtain ⟨rfl,hR⟩:=hp3;have G7:Aside (bN _ _ _ _ _ _ _ _ _ _ _ _ _):=hR;clear hbg hR))
          go_loopg [14] 2000 (fun k i wr=>∃s:Nat,i=.int .i64 s∧s+k=2000∧Aside (∃C T own A p M c,bN w1 ⟨bp,0,none⟩ aM g n E c wr p T own A M∧(c≤9900+7200 * (r:Int)+1200 * (t:Int)+s∧(T t).left p+s≤1200)∧yD n E C (r * n+t) t p T∧nJ n r t T))
          case atStart =>
           have h1:=G7.out.sys.inv.Eu A9.out.2.1
           have h2:=G7.out.sys.inv.ok.ns
           exact ⟨0,rfl,by omega,_,_,_,_,_,_,_,G7.out,⟨by have:=QT.out.1;omega,by omega⟩,QT.out.2.1,QT.out.2.2⟩
          case round =>
           obtain ⟨s,rfl,hsk,hR⟩:=hrel
           obtain ⟨C,T,own,A',p,M,cc,hR,⟨hcc,hleft⟩,hS,hG⟩:=hR.out
           obtain ⟨hb,hlt,htk,u7⟩:=A9.out
           have hrow:=hR.row t hlt
           rw [hb] at hrow
           obtain ⟨rb,hr0,CS,hr1⟩:=hR.Yg hlt hb
           by_cases h0:(T t).t.aW=0
           ·have hbu:=uZ CS
            have hs2:(s:Int)<2000:=by have:=hR.sys.inv.FO hlt;omega
            rw [h0] at hbu CS
            obtain ⟨g1,g2⟩:=hS.done hlt h0 hG fun h=>by have:=Nat.mul_le_mul h AR.out.2.1.1;omega
            have QU:Aside (bN w1 ⟨bp,0,none⟩ aM g n E cc wr p T own A' M∧(cc≤9900+7200 * (r:Int)+1200 * (t:Int)+s∧(T t).left p+s≤1200)∧Left n E C (r * n+t+1) p T∧nJ n r (t+1) T):=⟨hR,⟨hcc,hleft⟩,g1,g2⟩
            clear hcc hleft hR hsk hb hlt htk u7 hS hG g1 g2 h0
            go_wp2_with (first
              | (go_at_call 23;(with_reducible refine hbu.mono ?_);rintro ev w4 ⟨rfl,hq⟩;replace hq:=hq.symm;subst hq))
            obtain ⟨z1,z2,z3,z4⟩:=A9.out
            obtain ⟨y1,y2,y3,y4⟩:=QU.out
            have h6:=AR.out.2.1
            go_roundg (Zj-1)
            case measure=>omega
            case rel=>exact ⟨t+1,congrArg (Value.int .i64) ((w64 (n:=(t:Int)+1) (by omega) (by omega)).trans (by omega)),by omega,_,_,_,_,_,_,_,y1,by have h0:=y1.sys.inv.FO z2;omega,y3,y4⟩
           ·have hpos:=x8 (p:=p) (hR.sys.inv.loc t hlt) hR.sys.inv.n6 fun h=>h0 h.2
            have hs2:(s:Int)<2000:=by omega
            have hbu:=uZ CS
            have hst:=hR.step hlt (by have:=AR.out.2.1;have:=A8.out.2.2;omega) (A0.out.1.nw A1.out)
            have hdec:=hR.sys.inv.Kk hlt (hR.sys.bad t hlt) hS.pc.2 fun h=>h0 h.2
            obtain ⟨g1,g2⟩:=hS.step hR.sys.inv hlt h0 hG
            rw [hb] at hst
            have QU:Aside (s+gk=2000∧cc≤9900+7200 * (r:Int)+1200 * (t:Int)+s∧(T t).left p+s≤1200∧((T t).step p).1.left ((T t).step p).2.1<(T t).left p):=⟨hsk,hcc,hleft,hdec⟩
            have AN:Aside (yD n E C (r * n+t) t ((T t).step p).2.1 (bA T t ((T t).step p).1)∧nJ n r t (bA T t ((T t).step p).1)):=⟨g1,g2⟩
            rw [show decide ((T t).t.aW≠0)=true from decide_eq_true h0] at hbu
            clear hsk hcc hleft hdec hpos hb hlt htk u7 hR hS hG g1 g2
            go_wp2_with (first
              | (go_at_call 23;(with_reducible refine hbu.mono ?_);rintro ev w5 ⟨rfl,rfl⟩)
              | (go_at_call 22;(with_reducible refine hst.mono ?_);intro ev w3 hp3;obtain ⟨rfl,own',Yi,hR⟩:=hp3;have A4:Aside (bN _ _ _ _ _ _ _ _ _ _ _ _ _):=hR;clear hst hR))
            obtain ⟨z1,z2,z3,z4⟩:=QU.out
            go_roundg (gk-1)
            case measure=>omega
            case rel=>exact ⟨s+1,by go_num,by omega,_,_,_,_,_,_,_,A4.out,⟨by omega,by rw [aF];omega⟩,AN.out.1,AN.out.2⟩
         ·have htn:¬(t:Int)<(n:Int):=by omega
          have A9:Aside (n≤t∧t+gk=n):=⟨hge,htk⟩
          clear htk hge
          go_wp2
          obtain ⟨C,T,own,A',p,M,c',y1,y2,y3,y4⟩:=hR.out
          obtain ⟨z1,z2⟩:=A9.out
          obtain ⟨x1,x2,x3⟩:=A8.out
          have h6:=AR.out.2.1
          have ZY:t=n:=by omega
          go_roundg (QS-1)
          case measure=>omega
          case rel =>
           rw [ZY] at y3 y4
           exact ⟨r+1,congrArg (Value.int .i64) (by omega),by omega,C,T,own,A',p,M,c',y1,by omega,by rw [Nat.add_mul,Nat.one_mul];exact y3,y4.next⟩
       ·have ZX:¬(r:Int)<3:=by omega
        obtain ⟨C,T,own,A',p,M,cc,hR,hcc,hL,hG⟩:=hR.out
        have hnil:=fun j hj=>hG.2 (by omega) j hj
        have hlive:=fun he=>hR.sys.inv.Yf he (fun j hj=>(hL.idle j hj).1) hnil
        have A8:Aside (bN w1 ⟨bp,0,none⟩ aM g n E cc wr p T own A' M∧((E:Int)≠1→p.ns-p.nf=if (p.bd 0).slot=0 then 0 else 1)∧∀j,j<n→(T j).l.notes=[]):=⟨hR,hlive,hnil⟩
        have hroot:=V4
        have hpk:∀w',Nw wr w'→Calls Tryd.prog 16 #[.pointer (some ⟨bp,0,none⟩),.agg #[.int .i64 0,.int .i64 0,.int .i64 0]] w' fun ev w''=>ev=.returned (.tuple #[.agg #[.int .i64 (p.bd 0).slot,.int .i64 (p.bd 0).gen,.int .i64 (p.bd 0).tag,.int .i64 (p.bd 0).num,.bool (p.bd 0).mark],.bool true])∧Nw w' w'':=fun w' h=>(hR.new h).ZV (A0.out.1.nw A1.out) (f:=0) (by omega) (by omega)
        obtain ⟨D,hD⟩:∃D,D=p.bd 0:=⟨_,rfl⟩
        have hnl:=TM D
        unfold Ez at hnl
        rw [←hD] at hpk
        clear hR hcc hL hG hnil hlive Yj hr3
        have hex:((∀w,Calls Tryd.prog 29 #[.agg #[.int .i64 D.slot,.int .i64 D.gen,.int .i64 D.tag,.int .i64 D.num,.bool D.mark]] w fun ev w'=>ev=.returned (.bool true)∧Nw w w')∧Aside ((E:Int)≠1→p.ns-p.nf=0))∨(∀w,Calls Tryd.prog 29 #[.agg #[.int .i64 D.slot,.int .i64 D.gen,.int .i64 D.tag,.int .i64 D.num,.bool D.mark]] w fun ev w'=>ev=.returned (.bool false)∧Nw w w')∧Aside ((E:Int)≠1→p.ns-p.nf=1):=by
         have hq:=A8.out.2.1
         rw [←hD] at hq
         by_cases hsl:D.slot=0
         ·rw [decide_eq_true hsl] at hnl
          rw [if_pos hsl] at hq
          exact .inl ⟨hnl,hq⟩
         ·rw [decide_eq_false hsl] at hnl
          rw [if_neg hsl] at hq
          exact .inr ⟨hnl,hq⟩
        clear hnl hD
        rcases hex with ⟨hnl,AD⟩ | ⟨hnl,AD⟩
        all_goals
         go_wp2_with (first
           | (go_at_call 28;(with_reducible refine (hroot _).mono ?_);rintro ev w5 ⟨rfl,Bp⟩)
           | (go_at_call 16;(with_reducible refine (hpk _ (Nw.trans Bp ((jL.refl _ _).alloc _))).mono ?_);rintro ev w6 ⟨rfl,Zk⟩;have A9:Aside (Nw wr w6):=Nw.trans (Nw.trans Bp ((jL.refl _ _).alloc _)) Zk;clear Bp Zk hpk hroot)
           | (go_at_call 29;(with_reducible refine (hnl _).mono ?_);rintro ev w7 ⟨rfl,hw7⟩;have QT:Aside (bN w1 ⟨bp,0,none⟩ aM g n E cc w7 p T own A' M):=A8.out.1.new (Nw.trans (Nw.trans A9.out ((jL.refl _ _).alloc _)) hw7);clear hw7 hnl))
         go_loopg [20] n (fun m i wr=>∃k:Nat,i=.int .i64 k∧k+m=n∧Aside (bN w1 ⟨bp,0,none⟩ aM g n E cc wr p T own A' M))
         case atStart=>exact ⟨0,rfl,by omega,QT.out⟩
         case round =>
          obtain ⟨k,rfl,hkk,hR⟩:=hrel
          rcases Nat.lt_or_ge k n with hlt | hge
          ·obtain ⟨b,-,hb,-⟩:=hR.out.mn hlt
           have hrow:=hR.out.row k hlt
           rw [hb] at hrow
           obtain ⟨r',hc0,hno⟩:=hR.out.V3 hlt hb
           rw [A8.out.2.2 k hlt] at hno
           simp only [List.length_nil] at hno
           have hkn:(k:Int)<(n:Int):=by omega
           have AK:Aside (k<n∧k+gk=n):=⟨hlt,hkk⟩
           clear hlt hkk hb hR
           go_wp2_with (first
             | (go_at_call 26;(with_reducible refine hno.mono ?_);intro ev w8 hp8;obtain ⟨a8,c8,rfl,hR⟩:=hp8;have G7:Aside (bN _ _ _ _ _ _ _ _ _ _ _ _ _):=hR;clear hR hno))
           obtain ⟨z1,z2⟩:=AK.out
           have h6:=AR.out.2.1
           go_roundg (gk-1)
           case measure=>omega
           case rel=>exact ⟨k+1,congrArg (Value.int .i64) ((w64 (n:=(k:Int)+1) (by omega) (by omega)).trans (by omega)),by omega,G7.out⟩
          ·have hkn:¬(k:Int)<(n:Int):=by omega
           have hfa:=Ob hR.out.Yd
           have hlv:=hR.out.live
           have G7:Aside (Nw w wr):=A1.out.trans hR.out.nw
           clear hge hkk hR
           by_cases hE:(E:Int)=1
           ·go_wp2_with (first
               | (go_at_call 17;(with_reducible refine hfa.mono ?_);rintro ev w9 ⟨rfl,hq⟩;replace hq:=hq.symm;subst hq))
            go_ret
            exact ⟨rfl,G7.out⟩
           ·rw [AD.out hE] at hlv
            go_wp2_with (first
              | (go_at_call 17;(with_reducible refine hfa.mono ?_);rintro ev w9 ⟨rfl,hq⟩;replace hq:=hq.symm;subst hq)
              | (go_at_call 15;(with_reducible refine hlv.mono ?_);rintro ev w10 ⟨rfl,ZZ⟩;have QU:Aside (Nw w w10):=G7.out.trans ZZ))
            go_ret
            exact ⟨rfl,QU.out⟩
theorem QV:bF Tryd.prog (iO 27 oK 10 (Kt 4)) (zC (Kt 4)) (xH oK (Kt 4)) :=
 ZU ⟨_,Tryd.func10,by kernel_rfl,by kernel_rfl⟩ Od
end Go.Proofs.YthomdlajobnmnaaDoor
