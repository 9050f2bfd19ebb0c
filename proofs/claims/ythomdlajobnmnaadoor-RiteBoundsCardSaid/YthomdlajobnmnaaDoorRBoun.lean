/- 'RiteBounds' -/
import Derived.Test.YthomdlajobnmnaaDoorQ21
set_option linter.unusedSimpArgs false
set_option linter.unusedVariables false
namespace Go.Proofs.YthomdlajobnmnaaDoor
open Go.RowKit Go.Rex
theorem Sm.trans {a b c:Lo} (h:Sm a b) (h':Sm b c):Sm a c:=⟨h'.aj.trans h.aj,h'.me.trans h.me,h'.threads.trans h.threads,h'.most.trans h.most⟩
theorem Wh (l:Lo) (t:RT) (x:Rp):Sm l (RT.aJ l t x).1:=by
 cases t with
 | nN=>exact ⟨rfl,rfl,rfl,rfl⟩
 | jg i=>exact RT.J6 l _
 | fH c=>exact gF (Sm.refl l) (gF ⟨rfl,rfl,rfl,rfl⟩ (Sm.refl l))
 | jc c w=>exact gF (Sm.refl l) (gF ⟨rfl,rfl,rfl,rfl⟩ ⟨rfl,rfl,rfl,rfl⟩)
 | dR old b=>exact gF ⟨rfl,rfl,rfl,rfl⟩ (RT.LQ l old b _)
 | jP _=>exact RT.J7 l
 | bL ck seen=>exact gF (Sm.refl l) (gF (RT.Fz l _) (gF (Sm.refl l) (Sm.refl l)))
 | dN=>exact RT.Fz l _
 | bV d r =>
  have:=RT.Fz {l with notes:=l.notes.erase d,freed:=l.freed+1} r
  exact ⟨this.aj,this.me,this.threads,this.most⟩
 | _=>exact Sm.refl l
theorem U3:∀(k:Nat) (h:Th),Sm h.l (h.go k).1.l
 | 0,h=>Sm.refl _
 | k+1,h=>by
  by_cases hz:h.t.bg=0
  ·obtain ⟨x,hx⟩:=RT.jo hz
   rw [Th.qB hx]
   by_cases hs:h.stop=true∧h.pc=0
   ·rw [if_pos hs];exact Sm.refl _
   ·rw [if_neg hs]
    have h1:Sm h.l (h.dF x).l:=by
     have:=RT.Cy (h.call x).1.l (h.call x).2
     rw [(h.pK x).1] at this
     show Sm h.l (RT.begin (h.call x).1.l (h.call x).2).1
     rw [(h.pK x).1]
     exact this
    exact h1.trans (U3 k _)
  ·rw [Th.nE hz];exact Sm.refl _
theorem Wi (h:Th) (p:PS):Sm h.l (h.step p).1.l:=by
 have a:=U3 12 h
 unfold Th.step
 generalize h.go 12=g at a
 obtain ⟨g1,g2⟩:=g
 simp only at a
 cases g2 with
 | some c=>exact a
 | none =>
  simp only
  by_cases hz:g1.t.bg=0
  ·rw [if_pos hz];exact a
  ·rw [if_neg hz]
   cases p.act (g1.t.acc g1.l) with
   | mk p' xo =>
    cases xo with
    | none=>exact a
    | some x=>exact a.trans (Wh g1.l g1.t x)
def Ko (n N:Nat) (T:Nat→Th):Prop:=∀i,i<n→(T i).pQ n∧(T i).l.most=N
theorem Wj (E:Int) (n N:Nat) (h:1≤n∧n≤6):Ko n N fun i=>Th.new E i n N:=fun i _=>⟨by show ((0:Nat):Int)≤max (_-1) (9 * (n:Int));omega,rfl⟩
theorem Ko.step {n N:Nat} {T:Nat→Th} {k:Int} {p:PS} {own:Int→gQ} {A:Nat→Int} {M:Nat→Mn} {i:Nat} (h:Ko n N T) (S:Sys k n 2 p T own A M) (hi:i<n):Ko n N (bK T i ((T i).step p).1):=fun j hj=>by
 by_cases hji:j=i
 ·rw [hji,aK]
  exact ⟨S.inv.VR hi (h i hi).1,(Wi (T i) p).most.trans (h i hi).2⟩
 ·rw [bD _ _ hji]
  exact h j hj
theorem Ty {n N len:Nat} (h1:1≤n∧n≤6) (h2:1≤N∧N≤12) (h:(len:Int)≤N+n * 9):¬wrap64 ((N:Int)+wrap64 ((n:Int) * 9))<(len:Int):=by
 rw [w64 (n:=(n:Int) * 9) (by omega) (by omega),w64 (by omega) (by omega)]
 omega
theorem Sys.same {n:Nat} {e k:Int} {p:PS} {T:Nat→Th} {own:Int→gQ} {A:Nat→Int} {M:Nat→Mn} {i:Nat} (S:Sys k n e p T own A M):Sys k n e p T own A (bK M i (M i)):=by
 rw [rz]
 exact S
theorem dE.notes {w1 w:World} {aP:Addr} {aM:Nat→Addr} {g n i b N:Nat} {k:Int} {p:PS} {T:Nat→Th} {own:Int→gQ} {A:Nat→Int} {M:Nat→Mn} (R:dE w1 aP aM g n 2 k w p T own A M) (hi:i<n) (hb:aM i=⟨b,0,none⟩) (hf:Ko n N T) :
  ∃r:Addr,w.cell? ⟨b,0,none⟩=some (.pointer (some r))∧Calls Tryd.prog 26 #[.pointer (some r)] w fun ev w'=>∃a c len,ev=.returned (.slice a len c)∧(len:Int)≤N+n * 9∧dE w1 aP aM g n 2 k w' p T own A M:=by
 obtain ⟨BM,h1,h2⟩:=R.QS hi
 obtain ⟨ρ,ν,b',e1,⟨q1,q2,q3⟩,q4,q5,q6,q7⟩:=CQ h1
 rw [hb,Addr.mk.injEq] at e1
 obtain rfl:=e1.1
 have hrep:=(R.sys.mt i hi).rep
 have hln:=R.sys.inv.CJ (i:=i)
 have hns:=R.sys.inv.ok.ns
 refine ⟨ν 0,by unfold World.cell?;rw [q7];rfl,(Tx q1 q3 (by rw [q2,hrep.notes];omega)).mono ?_⟩
 rintro ev w' ⟨ρ',aQ,a,c,rfl,e0,⟨g1,g2,g3⟩,g4,g5⟩
 have hlt:b<w.heap.size:=by
  rcases Nat.lt_or_ge b w.heap.size with h | h
  ·exact h
  ·rw [Array.getElem?_eq_none h] at q7;cases q7
 have hnb:¬ed ρ' aQ dC b:=fun h=>(g4 b h).elim (fun h=>absurd hlt (Nat.not_lt.2 h)) q5
 have Ma:=Mg (m:=M i) g1 (g2.trans q2) g3 hnb (by rw [g5.block b hlt q5,q7,e0])
 refine ⟨a,c,_,rfl,?_,cast (congrArg (dE w1 aP aM g n 2 k w' p T own A) (rz M i)) (h2 w' (M i) _ k T own A (by rw [hb];exact Ma) (fun x hx=>?_) ⟨g5.os,g5.tape,g5.output,g5.size,fun x hx hn=>g5.block x hx fun h=>hn (q4 x h)⟩ R.sys.same)⟩
 ·rw [q2,hrep.notes]
  have:=X3 (hf i hi).1 (by have:=(R.sys.inv.loc i hi).most;omega) (by omega)
  rw [(hf i hi).2] at this
  omega
 ·rcases hx with rfl | hx
  ·exact .inr q6
  ·exact (g4 x hx).imp id (q4 x)
set_option maxHeartbeats 4000000 in
set_option maxRecDepth 100000 in
theorem KM (w:World) (ν:Nat→Addr) (a0 a1 a2:Int) (v:Value) (l:List Int) (hs:mh w ν) (hv:Rd w v l) :
  Calls Tryd.prog 9 #[.agg #[.int .i64 a0,.int .i64 a1,.int .i64 a2],v] w fun e w'=>e=.returned (.bool true)∧Nw w w':=by
 have ha:=Ey (hs.nw ((jh.refl w _).alloc (.cells #[.int .i64 a0,.int .i64 a1,.int .i64 a2] 65)))
 obtain ⟨A,c,rfl,hlc,hc,hA⟩:=hv
 have A0:Aside (mh w ν∧(l.length≤c∧c≤9223372036854775807)∧∀k,k<l.length→∃ad,A=some ad∧w.cell? (ad.add k)=some (.int .i64 (l.getD k 0))):=⟨hs,⟨hlc,hc⟩,hA⟩
 clear hs hlc hc hA
 go_enter Tryd.func9,Tryd.ntmps9
 go_wp2_with (go_at_call 20;(with_reducible refine ha.mono ?_);rintro ev w1 ⟨rfl,hw1⟩;have hc0:=hw1.pR (a:=⟨w.heap.size,0,none⟩) (x:=.int .i64 a0) (by simp);have hc1:=hw1.pR (a:=⟨w.heap.size,1,none⟩) (x:=.int .i64 a1) (by simp);have hc2:=hw1.pR (a:=⟨w.heap.size,2,none⟩) (x:=.int .i64 a2) (by simp);have A1:Aside (Nw w w1):=Nw.trans ((jh.refl w _).alloc _) hw1;clear ha hw1)
 obtain ⟨n,n0,n1,n2⟩:=x9 a0 6 (by decide) (by decide)
 obtain ⟨N,m0,m1,m2⟩:=x9 a1 12 (by decide) (by decide)
 obtain ⟨S,s0,s1,s2⟩:=x9 a2 200 (by decide) (by decide)
 have hs1:=A0.out.1.nw A1.out
 have hy:=GX 2 N S n ⟨by decide,by decide⟩ ⟨by omega,by omega⟩ ⟨by omega,by omega⟩ ⟨by omega,by omega⟩ w1 _ hs1.sn (fun k hk=>hs1.lt (by unfold gS;split <;> omega))
 have AR:Aside ((1≤n∧n≤6)∧(1≤N∧N≤12)∧(1≤S∧S≤200)):=⟨by omega,by omega,by omega⟩
 simp only [n0,m0,s0]
 clear n0 n1 n2 m0 m1 m2 s0 s1 s2 hs1 hc0 hc1 hc2
 go_wp2_with (go_at_call 21;(with_reducible refine hy.mono ?_);intro ev w2 hp2;obtain ⟨aP,g,c2,p,p0,rfl,hY,hF,hact⟩:=hp2)
 obtain ⟨aM,hR⟩:=hY.run hF hact ⟨by have:=AR.out.2.2;omega,by have:=AR.out.2.2;omega⟩ ⟨by decide,by decide⟩ AR.out.1 (by have:=AR.out.2.1;omega)
 obtain ⟨bp,rfl,-⟩:=hR.fault
 have A2:Aside (dE w1 ⟨bp,0,none⟩ aM g n 2 1 w2 p (fun i=>Th.new 2 i n N) (fun _=>.free) (fun _=>1) (fun i=>Mn.new 2 i n N)):=hR
 clear hy hY hF hact hR
 go_loopg [9] 3000 (fun k i wr=>∃j:Nat,i=.int .i64 j∧(j+k=3000∧j≤l.length)∧Aside (∃T own A p M,dE w1 ⟨bp,0,none⟩ aM g n 2 (1+j) wr p T own A M∧Ko n N T))
 case atStart=>exact ⟨0,rfl,⟨by omega,by omega⟩,_,_,_,_,_,A2.out,Wj 2 n N AR.out.1⟩
 case round =>
  obtain ⟨j,rfl,hjk,hR⟩:=hrel
  by_cases hlt:j<l.length∧j<3000
  ·obtain ⟨T,own,A',p,M,hR,Tz⟩:=hR.out
   obtain ⟨ad,rfl,hcell⟩:=A0.out.2.2 j hlt.1
   replace hcell:=(A1.out.trans hR.nw).pR hcell
   obtain ⟨x,hx⟩:∃x,x=l.getD j 0:=⟨_,rfl⟩
   rw [←hx] at hcell
   obtain ⟨q,hq,yz⟩:=UY x n AR.out.1
   have hrow:wr.cell? ⟨g,(wrap64 ((IntKind.u64.wrap x).tmod (IntKind.u64.wrap (n:Int)))).toNat,none⟩=some (.pointer (some (aM q))):=by
    rw [hq]
    exact hR.row q yz
   have hq0:0≤wrap64 ((IntKind.u64.wrap x).tmod (IntKind.u64.wrap (n:Int))):=by omega
   have hq1:wrap64 ((IntKind.u64.wrap x).tmod (IntKind.u64.wrap (n:Int)))<(n:Int):=by omega
   obtain ⟨b,-,hb,-⟩:=hR.mn yz
   have hdz:¬IntKind.u64.wrap (n:Int)=0:=by have:=AR.out.1;rw [X6 (x:=(n:Int)) (by omega) (by omega)];omega
   have U4:=Tz.step hR.sys yz
   have hst:=hR.step yz (by omega) (A0.out.1.nw A1.out)
   rw [hb] at hrow hst
   have A3:Aside ((aM q=⟨b,0,none⟩)∧(j+gk=3000∧j≤l.length)∧x=l.getD j 0∧(wrap64 ((IntKind.u64.wrap x).tmod (IntKind.u64.wrap (n:Int)))=(q:Int)∧q<n)):=⟨hb,hjk,hx,hq,yz⟩
   have AF:Aside (Ko n N (bK T q ((T q).step p).1)):=U4
   have h1:(j:Int)<(l.length:Int):=by omega
   have h2:(j:Int)<3000:=by omega
   have h3:(j:Int)≤3000:=by omega
   clear hb hjk hx hq yz hlt hR Tz U4
   go_wp2_with (first
     | (go_at_call 22;(with_reducible refine hst.mono ?_);intro ev w3 hp3;obtain ⟨rfl,own',Yo,hR⟩:=hp3;obtain ⟨r,hcell0,hno⟩:=hR.notes A3.out.2.2.2.2 A3.out.1 AF.out;clear hst hR)
     | (go_at_call 26;(with_reducible refine hno.mono ?_);intro ev w4 Yj;obtain ⟨a,c4,len,rfl,hlen,hR⟩:=Yj;have A4:Aside (dE _ _ _ _ _ _ _ _ _ _ _ _ _):=hR;have hlen':=Ty AR.out.1 AR.out.2.1 hlen;clear hno hR hlen))
   obtain ⟨q0,q1,q2,q3⟩:=A3.out
   go_roundg (gk-1)
   case measure=>omega
   case rel =>
    have:=A4.out
    rw [show (1:Int)+(j:Int)+1=1+((j+1:Nat):Int) by omega] at this
    exact ⟨j+1,by go_num,⟨by omega,by omega⟩,_,_,_,_,_,this,AF.out⟩
  ·obtain ⟨T,own,A',p,M,hR,Tz⟩:=hR.out
   have A3:Aside (Nw w wr):=A1.out.trans hR.nw
   clear hR
   by_cases h1:(j:Int)<(l.length:Int)
   ·have h2:¬(j:Int)<3000:=by omega
    go_wp2
    go_ret
    exact ⟨rfl,A3.out⟩
   ·go_wp2
    go_ret
    exact ⟨rfl,A3.out⟩
theorem Oc:bF Tryd.prog (iq 27 mi 9 (u6 3)) (tN (u6 3)) (qw mi (u6 3)) :=
 ZY ⟨_,Tryd.func9,by kernel_rfl,by kernel_rfl⟩ KM
end Go.Proofs.YthomdlajobnmnaaDoor
