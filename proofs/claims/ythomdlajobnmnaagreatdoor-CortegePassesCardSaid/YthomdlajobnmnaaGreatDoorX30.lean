/- part 30 of the proof -/
import Derived.Tactics
import Derived.Tactics2
import Derived.Deep.QuietTactic
import Derived.BigQuiet
import Derived.Test.YthomdlajobnmnaaGreatDoorX11
import Derived.Test.YthomdlajobnmnaaGreatDoorX24
import Derived.Test.YthomdlajobnmnaaGreatDoorX25
import Derived.Test.YthomdlajobnmnaaGreatDoorX26
import Derived.Test.YthomdlajobnmnaaGreatDoorX27
import Derived.Test.YthomdlajobnmnaaGreatDoorX28
import Derived.Test.YthomdlajobnmnaaGreatDoorX29
set_option linter.unusedSimpArgs false
set_option linter.unusedVariables false
namespace Go.Proofs.YthomdlajobnmnaaGreatDoor.Cq
open Go.RowKit Go.Rex
section
variable {I:Nat→Wk→Prop} {w:World} {b base A:Nat} {k:Wk} {aP:Addr} {p:PS} {B BP:Nat→Prop} {dC:Nat→Addr}
set_option maxHeartbeats 40000000 in
set_option maxRecDepth 100000 in
theorem TQ (HI:sH I) (hI:I 200 k) (hW:aQ w b base A k B) (hP:gL w aP p BP) (hB:Cm w A B BP dC) (hok:p.OK) (hst:p.steps≤1000000) (hbase:base≤w.heap.size)
  (hend:∀k',k.go 200=(k',none)→k'.r.step≠0∧∃p' x,p.act k'.r.acc=(p',some x)∧oG k'.r x∧(k'.r.aG x).2=true) :
  Calls Tryz.prog 23 #[.pointer (some ⟨b,0,none⟩),.pointer (some aP)] w fun e w'=>e=.returned (.bool (k.step p).2.2)∧bu w w' b base A aP B BP (k.step p).1 (k.step p).2.1:=by
 have A0:Aside (I 200 k∧bu w w b base A aP B BP k p):=⟨hI,bu.of hW hP hB.d⟩
 clear hI hW hP
 go_enter Tryz.func23,Tryz.ntmps23
 go_wp2
 go_loopg [5] 200 (fun kk i wr=>∃s:Nat,i=.int .i64 s∧s+kk=200∧Aside (∃k1,I kk k1∧k1.go kk=k.go 200∧bu w wr b base A aP B BP k1 p))
 case atStart=>exact ⟨0,rfl,rfl,k,A0.out.1,rfl,A0.out.2⟩
 case round =>
  obtain ⟨s,rfl,hsk,hR⟩:=hrel
  obtain ⟨k1,hI1,hgo,hW1⟩:=hR.out
  obtain ⟨rb,jv0,sv0,c0,hc0,-⟩:=hW1.cells
  have l7:=hW1.busy hc0
  clear hR
  by_cases Le:s<200
  ·have hsl:(s:Int)<200:=by omega
   by_cases hb0:k1.r.step=0
   ·obtain ⟨n,rfl⟩:∃n,gk=n+1:=⟨gk-1,by omega⟩
    rw [show (decide (k1.r.step≠0))=false by simp [hb0]] at l7
    cases hj:k1.j with
    | none =>
     have q2:=hW1.N9 hj
     by_cases hi:k1.aV=true
     ·skip
      obtain ⟨b1,b2⟩:=HI.leave _ _ hI1 hb0 hj hi
      obtain ⟨-,-,-,-,-,-,-,q3,-,q5⟩:=hW1.cells
      rw [hi] at q3
      have q53:=q5 3
      have hWp:=hW1.put 3 (.bool false) k1.j false (fun h=>by cases h) (fun _=>rfl) (fun _=>rfl) (fun h=>absurd rfl h) (.inr rfl)
      obtain ⟨rb2,-,-,-,hc1,-⟩:=hWp.cells
      have hr:uD k1.r:=HI.rt _ _ hI1
      have Cn:=hWp.begin hc1 hr hb0 (c:=Ca.of 2) (aaE (by decide))
      rw [caV] at Cn
      have A1:Aside (I n {k1 with aV:=false,r:=(k1.r.begin (Ca.of 2)).1}∧Wk.go n {k1 with aV:=false,r:=(k1.r.begin (Ca.of 2)).1}=k.go 200):=⟨b2,(Zl hb0 hj hi b1).trans hgo⟩
      clear hI1 hgo hW1 b1 b2 hWp q5 hr
      go_wp2_with (first
        | (go_at_call 36;(with_reducible refine l7.mono ?_);rintro ev w1 ⟨rfl,rfl⟩)
        | (go_at_call 37;(with_reducible refine Cn.mono ?_);intro ev w2 hp2;obtain ⟨rfl,hW2⟩:=hp2))
      go_roundg n
      case measure=>omega
      case rel=>exact ⟨s+1,by go_num,by omega,_,A1.out.1,A1.out.2,hW2⟩
     ·have hi':k1.aV=false:=by simpa using hi
      by_cases hl:k1.said.length≥k1.ops.length
      ·skip
       obtain ⟨-,-,-,c,-,q1,-,q3,-,-⟩:=hW1.cells
       obtain ⟨aS,cS,q4⟩:=hW1.said
       rw [hi'] at q3
       have hge:(k1.ops.length:Int)≤(k1.said.length:Int):=by omega
       have A1:Aside (bu w wr b base A aP B BP k1 p∧k1.go (n+1)=k.go 200):=⟨hW1,hgo⟩
       clear hI1 hgo hW1
       go_wp2_with (first
         | (go_at_call 36;(with_reducible refine l7.mono ?_);rintro ev w1 ⟨rfl,rfl⟩))
       go_quiet (fail)
       go_wp2
       go_ret
       have hstep:k.step p=(k1,p,false):=by
        have hgo:=(acb (n:=n) hb0 hj hi' hl).symm.trans A1.out.2
        unfold Wk.step
        rw [←hgo]
       rw [hstep]
       exact ⟨rfl,A1.out.1.nw (Nw.drewN (bA.refl _ _) _)⟩
      ·(apply ah4 <;> (try assumption)) <;> assumption
    | some j=>(apply ah5 <;> (try assumption)) <;> assumption
   ·rw [show (decide (k1.r.step≠0))=true by simp [hb0]] at l7
    have hsl2:k1.go gk=(k1,none):=aca hb0
    apply agk <;> assumption
  ·have hsl:¬(s:Int)<200:=by omega
   have hsl2:k1.go gk=(k1,none):=by
    obtain rfl:gk=0:=by omega
    rfl
   apply agl <;> assumption
end
end Go.Proofs.YthomdlajobnmnaaGreatDoor.Cq
namespace Go.Proofs.YthomdlajobnmnaaGreatDoor.Cq
open Go.RowKit Go.Rex
section
variable {w:World} {b base A:Nat} {k:Wk} {B:Nat→Prop}
theorem zJ (h:k.idle→False):decide k.idle=false:=decide_eq_false h
set_option maxHeartbeats 4000000 in
set_option maxRecDepth 100000 in
theorem Cr (hW:aQ w b base A k B):Calls Tryz.prog 50 #[.pointer (some ⟨b,0,none⟩)] w fun e w'=>e=.returned (.bool (decide k.idle))∧Nw w w':=by
 obtain ⟨rb,hc0,-⟩:=hW.TC
 have hbq:∀q,Calls Tryz.prog 36 #[.pointer (some ⟨rb,0,none⟩)] (w.drewN q) fun e w'=>e=.returned (.bool (decide (k.r.step≠0)))∧w'=w.drewN q:=fun q=>by
  obtain ⟨WM,hc',hb⟩:=(hW.nw (Nw.drewN (bA.refl w _) q)).TC
  obtain rfl:=qJ hc0 hc'
  exact hb
 obtain ⟨aR,jv,sv,c,-,q1,q2,q3,-,-⟩:=hW.cells
 obtain ⟨aS,cS,q4⟩:=hW.said
 by_cases hb0:k.r.step=0
 ·rw [show (decide (k.r.step≠0))=false by simp [hb0]] at hbq
  cases hj:k.j with
  | some j =>
   obtain ⟨aJ,BJ,hcJ,-⟩:=hW.jb hj
   rw [zJ fun h=>by have:=h.2.1;rw [hj] at this;cases this]
   clear hW q2
   go_enter Tryz.func50,Tryz.ntmps50
   go_wp2_with fail
   go_quiet (first | (go_at_call 36;(with_reducible exact Calls.quiet_of_same (hbq _))))
   go_wp2
   go_ret
   exact ⟨rfl,Nw.drewN (bA.refl _ _) _⟩
  | none =>
   have hcJ:=hW.N9 hj
   clear q2
   by_cases hi:k.aV=true
   ·rw [hi] at q3
    rw [zJ fun h=>by have:=h.2.2.1;rw [hi] at this;cases this]
    clear hW
    go_enter Tryz.func50,Tryz.ntmps50
    go_wp2_with fail
    go_quiet (first | (go_at_call 36;(with_reducible exact Calls.quiet_of_same (hbq _))))
    go_wp2
    go_ret
    exact ⟨rfl,Nw.drewN (bA.refl _ _) _⟩
   ·have hi':k.aV=false:=by simpa using hi
    rw [hi'] at q3
    by_cases hl:k.said.length≥k.ops.length
    ·have hl1:(k.ops.length:Int)≤(k.said.length:Int):=by omega
     rw [show decide k.idle=true from decide_eq_true ⟨hb0,hj,hi',hl⟩]
     clear hW
     go_enter Tryz.func50,Tryz.ntmps50
     go_wp2_with fail
     go_quiet (first | (go_at_call 36;(with_reducible exact Calls.quiet_of_same (hbq _))))
     go_wp2
     go_ret
     exact ⟨by simp,Nw.drewN (bA.refl _ _) _⟩
    ·have hl1:¬(k.ops.length:Int)≤(k.said.length:Int):=by omega
     rw [zJ fun h=>hl h.2.2.2]
     clear hW
     go_enter Tryz.func50,Tryz.ntmps50
     go_wp2_with fail
     go_quiet (first | (go_at_call 36;(with_reducible exact Calls.quiet_of_same (hbq _))))
     go_wp2
     go_ret
     exact ⟨by simp,Nw.drewN (bA.refl _ _) _⟩
 ·rw [show (decide (k.r.step≠0))=true by simp [hb0]] at hbq
  rw [zJ fun h=>hb0 h.1]
  clear hW
  go_enter Tryz.func50,Tryz.ntmps50
  go_wp2_with fail
  go_quiet (first | (go_at_call 36;(with_reducible exact Calls.quiet_of_same (hbq _))))
  go_wp2
  go_ret
  exact ⟨rfl,Nw.drewN (bA.refl _ _) _⟩
end
end Go.Proofs.YthomdlajobnmnaaGreatDoor.Cq
namespace Go.Proofs.YthomdlajobnmnaaGreatDoor.Cq
open Go.RowKit Go.Rex
structure iX (w1 w:World) (aP:Addr) (aW A:Nat→Nat) (base g n:Nat) (p:PS) (W:Nat→Wk):Prop where
 cr:∃F:Nat→Prop,jD w aP aW A base n p W F∧∀b,F b→w1.heap.size≤b∧b≠g
 row:∀i,i<n→w.cell? ⟨g,i,none⟩=some (.pointer (some ⟨aW i,0,none⟩))
 nw:Nw w1 w
 hbase:base≤w.heap.size
section
variable {w1 w w':World} {aP:Addr} {aW A:Nat→Nat} {base g n i:Nat} {p:PS} {W:Nat→Wk} {I:Nat→Wk→Prop} {dC:Nat→Addr}
theorem iX.wk (R:iX w1 w aP aW A base g n p W) (hi:i<n):∃B,aQ w (aW i) base (A i) (W i) B:=by
 obtain ⟨F,hC,-⟩:=R.cr
 obtain ⟨BP,BM,h1,h2,-⟩:=hC.ex
 exact ⟨_,h2 i hi⟩
theorem iX.more (R:iX w1 w aP aW A base g n p W) (hn:Nw w w'):iX w1 w' aP aW A base g n p W:=by
 obtain ⟨F,hC,hF⟩:=R.cr
 exact ⟨⟨F,hC.frame (fun b hb _=>hn.block b hb id) hn.size,hF⟩,fun i hi=>hn.bJ (R.row i hi),R.nw.trans hn,Nat.le_trans R.hbase hn.size⟩
theorem iX.step (R:iX w1 w aP aW A base g n p W) (hi:i<n) (HI:sH I) (hI:I 200 (W i)) (hs:lH w1 dC) (hz:∀j,j<8→(dC j).block<w1.heap.size) (hok:p.OK) (hst:p.steps≤1000000)
  (hend:∀k',(W i).go 200=(k',none)→k'.r.step≠0∧∃p' x,p.act k'.r.acc=(p',some x)∧oG k'.r x∧(k'.r.aG x).2=true) :
  Calls Tryz.prog 23 #[.pointer (some ⟨aW i,0,none⟩),.pointer (some aP)] w fun e w'=>e=.returned (.bool ((W i).step p).2.2)∧iX w1 w' aP aW A base g n ((W i).step p).2.1 (jN W i ((W i).step p).1):=by
 obtain ⟨F,hC,hF⟩:=R.cr
 have hAF:¬F (A i):=by
  obtain ⟨BP,BM,-,-,-,-,-,-,h7⟩:=hC.ex
  exact h7 i hi
 obtain ⟨BP,B,hP,hW,hd,qb,hBl,WO,cont⟩:=hC.Zk hi
 have hsn:lH w dC:=hs.frame R.nw.size fun j hj=>R.nw.block _ (hz j hj) id
 have hB:Cm w (A i) B BP dC:=⟨hd,hBl,qb,⟨fun q=>hAF (WO _ (.inl q)),hW.self.2.2⟩,hsn,fun j hj=>⟨fun q=>absurd (hF _ (WO _ (.inr q))).1 (Nat.not_le.2 (hz j hj)),fun q=>absurd (hF _ (WO _ (.inl q))).1 (Nat.not_le.2 (hz j hj)),Nat.lt_of_lt_of_le (hz j hj) R.nw.size⟩⟩
 refine (TQ HI hI hW hP hB hok hst R.hbase hend).mono ?_
 rintro e w' ⟨he,hO⟩
 obtain ⟨B',o5,g1,g2,g3,g4,g5,g6⟩:=hO.ex
 have hg:g<w.heap.size:=World.block_lt_of_cell? _ _ (R.row i hi)
 refine ⟨he,⟨_,cont w' _ _ o5 B' g1 g2 g3 g4 g5 g6,fun b hb=>?_⟩,fun j hj=>?_,Cb R.nw g6 fun x hx=>(hF x (WO x hx)).1,Nat.le_trans R.hbase g6.size⟩
 ·rcases hb with hb | hb
  ·exact hF b hb
  ·exact ⟨Nat.le_trans R.nw.size hb,by omega⟩
 ·rw [←R.row j hj]
  exact oH (g6.block g hg fun q=>(hF g (WO g q)).2 rfl) j
end
structure Ends (n:Nat) (S:Nat→Nat→PS→(Nat→Wk)→Prop):Prop where
 acc:∀k m p W,S k m p W→k<n→∃I,sH I∧I 200 (W k)∧p.OK∧p.steps≤1000000∧∀k',(W k).go 200=(k',none)→k'.r.step≠0∧∃p' x,p.act k'.r.acc=(p',some x)∧oG k'.r x∧(k'.r.aG x).2=true
 step:∀k m p W,S k m p W→k<n→∃w' p' b,(W k).step p=(w',p',b)∧((b=true∧∃m',m'<m∧S k m' p' (jN W k w'))∨(b=false∧w'.idle∧∃m',S k m' p' (jN W k w')))
 next:∀k m p W,S k m p W→k<n→(W k).idle→∃m',m'≤39999∧S (k+1) m' p W
section
variable {w1 w:World} {aP:Addr} {aW A:Nat→Nat} {base g n c:Nat} {p:PS} {W:Nat→Wk} {dC:Nat→Addr} {S:Nat→Nat→PS→(Nat→Wk)→Prop}
set_option maxHeartbeats 4000000 in
set_option maxRecDepth 100000 in
theorem WQ (HS:Ends n S) (R:iX w1 w aP aW A base g n p W) {m0:Nat} (h0:S 0 m0 p W) (hm:m0≤39999) (hn:n≤6) (hs:lH w1 dC) (hz:∀j,j<8→(dC j).block<w1.heap.size) :
  Calls Tryz.prog 22 #[.pointer (some aP),.slice (some ⟨g,0,none⟩) n c] w fun e w'=>e=.returned (.bool true)∧∃m p' W',S n m p' W'∧iX w1 w' aP aW A base g n p' W':=by
 have A0:Aside (S 0 m0 p W∧iX w1 w aP aW A base g n p W):=⟨h0,R⟩
 clear h0 R
 go_enter Tryz.func22,Tryz.ntmps22
 go_wp2
 go_loopg [5] n (fun kk i wr=>∃k:Nat,i=.int .i64 k∧k+kk=n∧Aside (∃m p W,S k m p W∧m≤39999∧iX w1 wr aP aW A base g n p W))
 case atStart=>exact ⟨0,rfl,by omega,m0,p,W,A0.out.1,hm,A0.out.2⟩
 case round =>
  obtain ⟨k,rfl,hkk,hR⟩:=hrel
  by_cases hkn:k<n
  ·have hk1:(k:Int)<(n:Int):=by omega
   have hk0:(0:Int)≤(k:Int):=by omega
   have A1:Aside (∃m p W,S k m p W∧m≤39999∧iX w1 wr aP aW A base g n p W):=hR.out
   clear hR
   obtain ⟨gk0,hgk⟩:∃x,x=gk:=⟨_,rfl⟩
   go_wp2_with fail
   go_loopg [6] 40000 (fun kk i wq=>∃s:Nat,i=.int .i64 s∧s+kk=40000∧Aside (∃m p W,S k m p W∧(m+s≤39999∨(W k).idle)∧iX w1 wq aP aW A base g n p W))
   case atStart =>
    obtain ⟨m,p,W,h1,h2,h3⟩:=A1.out
    exact ⟨0,rfl,rfl,m,p,W,h1,.inl h2,h3⟩
   case round =>
    obtain ⟨s,rfl,hsk,hR⟩:=hrel
    obtain ⟨m,p,W,h1,h2,h3⟩:=hR.out
    obtain ⟨B0,hW0⟩:=h3.wk hkn
    have hrow:=h3.row k hkn
    have Oq:=Cr hW0
    clear hR hW0
    by_cases hid:(W k).idle
    ·rw [decide_eq_true hid] at Oq
     obtain ⟨m',g1,g2⟩:=HS.next k m p W h1 hkn hid
     have A2:Aside (S (k+1) m' p W∧m'≤39999∧iX w1 wr aP aW A base g n p W):=⟨g2,g1,h3⟩
     have Zv:∀wx,Nw wr wx→Calls Tryz.prog 50 #[.pointer (some ⟨aW k,0,none⟩)] wx fun e w'=>e=.returned (.bool true)∧Nw wx w':=fun wx hn=>by
      obtain ⟨B1,hW1⟩:=(h3.more hn).wk hkn
      have:=Cr hW1
      rw [decide_eq_true hid] at this
      exact this
     clear h1 h2 h3 g1 g2 Oq
     by_cases hs4:s<40000
     ·have hs5:(s:Int)<40000:=by omega
      go_wp2_with (first
        | (go_at_call 50;(with_reducible refine (Zv _ (bA.refl _ _)).mono ?_);rintro ev w3 ⟨rfl,og⟩;have hrow3:=og.bJ hrow)
        | (go_at_call 50;(with_reducible refine (Zv _ og).mono ?_);rintro ev w4 ⟨rfl,UT⟩))
      go_roundg (gk0-1)
      case measure=>omega
      case rel=>exact ⟨k+1,by go_num,by omega,m',p,W,A2.out.1,A2.out.2.1,A2.out.2.2.more (og.trans UT)⟩
     ·have hs5:¬(s:Int)<40000:=by omega
      go_wp2_with (first
        | (go_at_call 50;(with_reducible refine (Zv _ (bA.refl _ _)).mono ?_);rintro ev w3 ⟨rfl,og⟩))
      go_roundg (gk0-1)
      case measure=>omega
      case rel=>exact ⟨k+1,by go_num,by omega,m',p,W,A2.out.1,A2.out.2.1,A2.out.2.2.more og⟩
    ·rw [decide_eq_false hid] at Oq
     have hms:=h2.resolve_right hid
     have hs5:(s:Int)<40000:=by omega
     obtain ⟨I,hI1,hI2,hI3,hI4,hI5⟩:=HS.acc k m p W h1 hkn
     obtain ⟨w',p',b,hstep,hcase⟩:=HS.step k m p W h1 hkn
     have afv:∀wx,Nw wr wx→Calls Tryz.prog 23 #[.pointer (some ⟨aW k,0,none⟩),.pointer (some aP)] wx fun e w2=>e=.returned (.bool b)∧iX w1 w2 aP aW A base g n p' (jN W k w'):=fun wx hn=>by
      have:=(h3.more hn).step hkn hI1 hI2 hs hz hI3 hI4 hI5
      rw [hstep] at this
      exact this
     clear h2 hI1 hI2 hI3 hI4 hI5 hstep h3 h1
     rcases hcase with ⟨rfl,m',g1,g2⟩ | ⟨rfl,g0,m',g2⟩
     ·have A2:Aside (S k m' p' (jN W k w')∧m'<m):=⟨g2,g1⟩
      clear g1 g2
      go_wp2_with (first
        | (go_at_call 50;(with_reducible refine Oq.mono ?_);rintro ev w3 ⟨rfl,og⟩;have hrow3:=og.bJ hrow)
        | (go_at_call 23;(with_reducible refine (afv _ og).mono ?_);rintro ev w4 ⟨rfl,xP⟩))
      go_roundg (gk-1)
      case measure=>omega
      case rel=>exact ⟨s+1,by go_num,by omega,m',p',_,A2.out.1,.inl (by have:=A2.out.2;omega),xP⟩
     ·have A2:Aside (S k m' p' (jN W k w')):=g2
      have ah8:∀wx,iX w1 wx aP aW A base g n p' (jN W k w')→Calls Tryz.prog 50 #[.pointer (some ⟨aW k,0,none⟩)] wx fun e w'=>e=.returned (.bool true)∧Nw wx w':=fun wx hn=>by
       obtain ⟨B1,hW1⟩:=hn.wk hkn
       have:=Cr hW1
       rw [bF,decide_eq_true g0] at this
       exact this
      clear g2
      go_wp2_with (first
        | (go_at_call 50;(with_reducible refine Oq.mono ?_);rintro ev w3 ⟨rfl,og⟩;have hrow3:=og.bJ hrow)
        | (go_at_call 23;(with_reducible refine (afv _ og).mono ?_);rintro ev w4 ⟨rfl,xP⟩;have hrow4:=xP.row k hkn)
        | (go_at_call 50;(with_reducible refine (ah8 _ xP).mono ?_);rintro ev w5 ⟨rfl,hn5⟩))
      go_roundg (gk-1)
      case measure=>omega
      case rel=>exact ⟨s+1,by go_num,by omega,m',p',_,A2.out,.inr (by rw [bF];exact g0),xP.more hn5⟩
  ·have hk1:¬(k:Int)<(n:Int):=by omega
   obtain rfl:k=n:=by omega
   obtain ⟨m,p,W,h1,h2,h3⟩:=hR.out
   have A1:Aside (S k m p W∧iX w1 wr aP aW A base g k p W):=⟨h1,h3⟩
   clear hR h1 h2 h3
   go_wp2
   go_ret
   exact ⟨rfl,m,p,W,A1.out⟩
end
end Go.Proofs.YthomdlajobnmnaaGreatDoor.Cq
namespace Go.Proofs.YthomdlajobnmnaaGreatDoor.Cq
open Go.RowKit Go.Rex
end Go.Proofs.YthomdlajobnmnaaGreatDoor.Cq
namespace Go.Proofs.YthomdlajobnmnaaGreatDoor.Cq
open Go.RowKit Go.Rex
def I0 (p:PS) (v1:Vk) (n:Nat) (k:Wk):Prop:=∃v K G,VW v k∧Sy K p G v v1∧K+n≤800000
def I1 (p:PS) (v0:Vk) (n:Nat) (k:Wk):Prop:=∃v K G,VW v k∧Sy K p G v0 v∧K+n≤800000
theorem agm {K:Int} {v:Vk} {p:PS} {j:Jb} (h:AV K v p) (hj:v.j=some j) (hK:K≤800000):j.tg:=by
 obtain ⟨-,q2,q5,q6,-⟩:=(h.ui j hj).1
 have hw1:=q2.t
 have hw2:=q5.t
 have hw3:=q6.t
 have h0:=h.gJ.k0
 exact ⟨⟨by omega,by omega⟩,⟨by omega,by omega⟩,by omega,by omega⟩
theorem WR {I:Nat→Wk→Prop} {A:Int→Vk→Prop} {p:PS} (hI:∀n k,I n k↔∃v K,VW v k∧A K v∧K+n≤800000) (hA:∀K v,A K v→AV K v p)
  (hb:∀K v x,A K v→v.t=.idle x→¬v.done→v.may x∧A (K+1) (v.bZ x)):sH I where
 rt:=fun n k h=>by
  obtain ⟨v,K,hV,hA',hK⟩:=(hI n k).1 h
  exact Wl (hA K v hA').gJ hV.rep (by omega)
 len:=fun n k h=>by
  obtain ⟨v,K,hV,hA',hK⟩:=(hI n k).1 h
  rw [hV.ops];exact (hA K v hA').ops.1
 leave:=fun n k h h0 hj hi=>by
  obtain ⟨v,K,hV,hA',hK⟩:=(hI _ k).1 h
  obtain ⟨x,ht⟩:=RT.CZ (hV.rep.step.symm.trans h0)
  have hd:¬v.done:=fun hd=>by
   have:=hd.2.2.1
   rw [←hV.aV,hi] at this
   cases this
  obtain ⟨hm,hA2⟩:=hb K v x hA' ht hd
  obtain ⟨b1,b2⟩:=hV.leave (hA K v hA').gJ.ok ht (hV.j.symm.trans hj) (hV.aV.symm.trans hi)
  exact ⟨b1,(hI _ _).2 ⟨_,K+1,b2,hA2,by omega⟩⟩
 start:=fun n k h h0 hj hi hl=>by
  obtain ⟨v,K,hV,hA',hK⟩:=(hI _ k).1 h
  obtain ⟨x,ht⟩:=RT.CZ (hV.rep.step.symm.trans h0)
  have hd:¬v.done:=fun hd=>by
   have:=hd.2.2.2
   rw [←hV.ops,←hV.said] at this
   omega
  obtain ⟨hm,hA2⟩:=hb K v x hA' ht hd
  have hj':=hV.j.symm.trans hj
  have hi':=hV.aV.symm.trans hi
  obtain ⟨b1,b2⟩:=hV.start (hA K v hA').gJ.ok ht hj' hi'
  refine ⟨?_,b1,(hI _ _).2 ⟨_,K+1,b2,hA2,by omega⟩⟩
  unfold Vk.may at hm
  rw [hj'] at hm
  simp only at hm
  rcases hm with hm | ⟨-,-,hm⟩
  ·rw [hi'] at hm;cases hm
  ·rw [hV.ops,hV.said];exact hm
 next:=fun n k j h h0 hj=>by
  obtain ⟨v,K,hV,hA',hK⟩:=(hI _ k).1 h
  obtain ⟨x,ht⟩:=RT.CZ (hV.rep.step.symm.trans h0)
  have hj':=hV.j.symm.trans hj
  have hd:¬v.done:=fun hd=>by
   have:=hd.2.1
   rw [hj'] at this
   cases this
  obtain ⟨hm,hA2⟩:=hb K v x hA' ht hd
  refine ⟨agm (hA K v hA') hj' (by omega),?_⟩
  rcases hV.next (hA K v hA').gJ.ok ht hj' hm with ⟨k1,k2,b2⟩ | ⟨k1,k2,b1,b2⟩
  ·exact .inl ⟨k1,k2,(hI _ _).2 ⟨_,K+1,b2,hA2,by omega⟩⟩
  ·exact .inr ⟨k1,k2,b1,(hI _ _).2 ⟨_,K+1,b2,hA2,by omega⟩⟩
theorem WS (p:PS) (v1:Vk):sH (I0 p v1) :=
 WR (A:=fun K v=>∃G,Sy K p G v v1) (p:=p) (fun n k=>⟨fun ⟨v,K,G,a,b,c⟩=>⟨v,K,a,⟨G,b⟩,c⟩,fun ⟨v,K,a,⟨G,b⟩,c⟩=>⟨v,K,G,a,b,c⟩⟩) (fun K v ⟨G,S⟩=>S.a0) fun K v x ⟨G,S⟩ ht hd=>by
  obtain ⟨hm,S',-⟩:=S.afh ht hd
  exact ⟨hm,G,S'⟩
theorem WT (p:PS) (v0:Vk):sH (I1 p v0) :=
 WR (A:=fun K v=>∃G,Sy K p G v0 v) (p:=p) (fun n k=>⟨fun ⟨v,K,G,a,b,c⟩=>⟨v,K,a,⟨G,b⟩,c⟩,fun ⟨v,K,a,⟨G,b⟩,c⟩=>⟨v,K,G,a,b,c⟩⟩) (fun K v ⟨G,S⟩=>S.a1) fun K v x ⟨G,S⟩ ht hd=>by
  obtain ⟨hm,G',S',-⟩:=S.TM ht hd
  exact ⟨hm,G',S'⟩
section
variable {K:Int} {p:PS} {G:Gh} {v0 v1:Vk} {w:Wk}
theorem aa1 (hV:VW v0 w) (S:Sy K p G v0 v1) (hK:K≤799000):I0 p v1 200 w∧p.OK∧p.steps≤1000000∧∀w',w.go 200=(w',none)→w'.r.step≠0∧∃p' x,p.act w'.r.acc=(p',some x)∧oG w'.r x∧(w'.r.aG x).2=true:=by
 have hst:=S.a0.gJ.st
 refine ⟨⟨v0,K,G,hV,S,by omega⟩,S.a0.gJ.DL,by omega,fun w' e=>?_⟩
 obtain ⟨w1,v',b,K',e',g1,g2,g3,g4,g5⟩:=go0 200 hV S (by have:=Cj v0;omega)
 have g3':K'≤K+7:=by have:=Cj v0;omega
 rw [e] at e'
 simp only [Prod.mk.injEq] at e'
 obtain ⟨rfl,rfl⟩:=e'
 rcases g5 with ⟨q,-⟩ | ⟨-,h0⟩
 ·cases q
 ·obtain ⟨p',x,G',a1,a2,a3,-⟩:=g2.afi h0
  rw [g1.rep.acc h0]
  exact ⟨by rw [g1.rep.step];exact h0,p',x,a1,Wm g2.a0.gJ g1.rep (by omega) h0 a3,(g1.aG g2.a0.gJ.ok g2.a0.gJ.fF h0 x).1⟩
theorem aa2 (hV:VW v1 w) (S:Sy K p G v0 v1) (hK:K≤799000):I1 p v0 200 w∧p.OK∧p.steps≤1000000∧∀w',w.go 200=(w',none)→w'.r.step≠0∧∃p' x,p.act w'.r.acc=(p',some x)∧oG w'.r x∧(w'.r.aG x).2=true:=by
 have hst:=S.a1.gJ.st
 refine ⟨⟨v1,K,G,hV,S,by omega⟩,S.a1.gJ.DL,by omega,fun w' e=>?_⟩
 obtain ⟨w1,v',b,K',G1,e',g1,g2,g3,g4,g5⟩:=go1 200 hV S (by have:=Cj v1;omega)
 have g3':K'≤K+7:=by have:=Cj v1;omega
 rw [e] at e'
 simp only [Prod.mk.injEq] at e'
 obtain ⟨rfl,rfl⟩:=e'
 rcases g5 with ⟨q,-⟩ | ⟨-,h0⟩
 ·cases q
 ·obtain ⟨p',x,G',a1,a2,a3,-⟩:=g2.afj h0
  rw [g1.rep.acc h0]
  exact ⟨by rw [g1.rep.step];exact h0,p',x,a1,Wm g2.a1.gJ g1.rep (by omega) h0 a3,(g1.aG g2.a1.gJ.ok g2.a1.gJ.fF h0 x).1⟩
end
structure Tw (K:Int) (p:PS) (W:Nat→Wk) (G:Gh) (v0 v1:Vk):Prop where
 w0:VW v0 (W 0)
 w1:VW v1 (W 1)
 sy:Sy K p G v0 v1
def SP (k m:Nat) (p:PS) (W:Nat→Wk):Prop:=∃K G v0 v1,Tw K p W G v0 v1 ∧
 ((k=0∧((v0.done∧K≤330000)∨(M0 p v0≤m∧K+8 * (m:Int)≤320000))) ∨
  (k=1∧v0.done∧((v1.done∧K≤680000)∨(M1 p v1≤m∧K+8 * (m:Int)≤670000))) ∨
  (k=2∧v0.done∧v1.done))
section
variable {K:Int} {p:PS} {G:Gh} {v0 v1:Vk} {W:Nat→Wk}
theorem aa3 {S:Jb→RT→Nat} {v:Vk} (hS:∀j t,S j t≤15) (ho:v.ops.length≤12) (hl:v.l.OK) (hs:v.t.fF v.l) (hn:v.l.notes.length≤40):Mv S p v≤36420:=by
 have he:=WB (p:=p) hl hs (by omega:v.l.notes.length≤50)
 unfold Mv
 split
 ·split <;> omega
 ·rename_i j hj
  have:=hS j v.t
  omega
theorem afw (j:Jb):mD j≤15:=by
 unfold mD
 repeat' split
 all_goals omega
theorem Sy.m0 (S:Sy K p G v0 v1):M0 p v0≤36420:=by
 obtain ⟨a,ha,hops⟩:=S.e.ops
 exact aa3 (fun j _=>afw j) (by rw [hops,List.length_map,List.length_range];exact ha) S.a0.gJ.ok S.a0.gJ.fF (by rw [S.n0];decide)
theorem Sy.m1 (S:Sy K p G v0 v1):M1 p v1≤36420:=by
 obtain ⟨a,ha,hops⟩:=S.d.ops
 exact aa3 (fun j t=>aaV j t) (by rw [hops,List.length_replicate];exact ha) S.a1.gJ.ok S.a1.gJ.fF S.nl
theorem Kz {v:Vk} {w:Wk} (hV:VW v w) (hd:v.done):w.step p=(w,p,false):=by
 unfold Wk.step
 rw [Je hV hd 199]
theorem Ot (W:Nat→Wk) (w:Wk):jN W 0 w 1=W 1:=dR _ _ (by decide)
theorem Ou (W:Nat→Wk) (w:Wk):jN W 1 w 0=W 0:=dR _ _ (by decide)
theorem afx:Ends 2 SP where
 acc:=fun k m p W ⟨K,G,v0,v1,T,h⟩ hk=>by
  rcases h with ⟨rfl,h⟩ | ⟨rfl,hd,h⟩ | ⟨rfl,-⟩
  ·obtain ⟨a,b,c,d⟩:=aa1 T.w0 T.sy (by rcases h with ⟨-,h⟩ | ⟨-,h⟩ <;> omega)
   exact ⟨_,WS _ _,a,b,c,d⟩
  ·obtain ⟨a,b,c,d⟩:=aa2 T.w1 T.sy (by rcases h with ⟨-,h⟩ | ⟨-,h⟩ <;> omega)
   exact ⟨_,WT _ _,a,b,c,d⟩
  ·omega
 step:=fun k m p W ⟨K,G,v0,v1,T,h⟩ hk=>by
  rcases h with ⟨rfl,h⟩ | ⟨rfl,hd,h⟩ | ⟨rfl,-⟩
  ·rcases h with ⟨hd,hK⟩ | ⟨hM,hK⟩
   ·exact ⟨_,_,_,Kz T.w0 hd,.inr ⟨rfl,T.w0.Ld hd,m,K,G,v0,v1,⟨by rw [bF];exact T.w0,by rw [Ot];exact T.w1,T.sy⟩,.inl ⟨rfl,.inl ⟨hd,hK⟩⟩⟩⟩
   ·obtain ⟨w',p',b,e,g⟩:=aaX T.w0 T.sy
    refine ⟨w',p',b,e,?_⟩
    rcases g with ⟨rfl,v',G',K',a1,a2,a3,a4⟩ | ⟨rfl,rfl,v',K',a1,a2,a3,a4⟩
    ·exact .inl ⟨rfl,M0 p' v',by omega,K',G',v',v1,⟨by rw [bF];exact a1,by rw [Ot];exact T.w1,a2⟩,.inl ⟨rfl,.inr ⟨Nat.le_refl _,by omega⟩⟩⟩
    ·exact .inr ⟨rfl,a1.Ld a4,m,K',G,v',v1,⟨by rw [bF];exact a1,by rw [Ot];exact T.w1,a2⟩,.inl ⟨rfl,.inl ⟨a4,by omega⟩⟩⟩
  ·rcases h with ⟨hd1,hK⟩ | ⟨hM,hK⟩
   ·exact ⟨_,_,_,Kz T.w1 hd1,.inr ⟨rfl,T.w1.Ld hd1,m,K,G,v0,v1,⟨by rw [Ou];exact T.w0,by rw [bF];exact T.w1,T.sy⟩,.inr (.inl ⟨rfl,hd,.inl ⟨hd1,hK⟩⟩)⟩⟩
   ·obtain ⟨w',p',b,e,g⟩:=aaY T.w1 T.sy
    refine ⟨w',p',b,e,?_⟩
    rcases g with ⟨rfl,v',G',K',a1,a2,a3,a4⟩ | ⟨rfl,rfl,v',G',K',a1,a2,a3,a4⟩
    ·exact .inl ⟨rfl,M1 p' v',by omega,K',G',v0,v',⟨by rw [Ou];exact T.w0,by rw [bF];exact a1,a2⟩,.inr (.inl ⟨rfl,hd,.inr ⟨Nat.le_refl _,by omega⟩⟩)⟩
    ·exact .inr ⟨rfl,a1.Ld a4,m,K',G',v0,v',⟨by rw [Ou];exact T.w0,by rw [bF];exact a1,a2⟩,.inr (.inl ⟨rfl,hd,.inl ⟨a4,by omega⟩⟩)⟩
  ·omega
 next:=fun k m p W ⟨K,G,v0,v1,T,h⟩ hk hid=>by
  rcases h with ⟨rfl,h⟩ | ⟨rfl,hd,h⟩ | ⟨rfl,-⟩
  ·have hd:=T.w0.aaW hid
   have hm:=T.sy.m1
   exact ⟨M1 p v1,by omega,K,G,v0,v1,T,.inr (.inl ⟨rfl,hd,.inr ⟨Nat.le_refl _,by rcases h with ⟨-,h⟩ | ⟨-,h⟩ <;> omega⟩⟩)⟩
  ·exact ⟨0,by decide,K,G,v0,v1,T,.inr (.inr ⟨rfl,hd,T.w1.aaW hid⟩)⟩
  ·omega
theorem Tw.rest (T:Tw K p W G v0 v1) (hK:K≤16010):∃m,m≤39999∧SP 0 m p W:=by
 have hm:=T.sy.m0
 exact ⟨M0 p v0,by omega,K,G,v0,v1,T,.inl ⟨rfl,.inr ⟨Nat.le_refl _,by omega⟩⟩⟩
theorem Tw.Zk (T:Tw K p W G v0 v1) {i:Nat} (hi:i<2):∃K' G' v0' v1',K'≤K+8∧Tw K' ((W i).step p).2.1 (jN W i ((W i).step p).1) G' v0' v1':=by
 match i,hi with
 | 0,_ =>
  obtain ⟨w',p',b,e,g⟩:=aaX T.w0 T.sy
  rw [e]
  rcases g with ⟨-,v',G',K',a1,a2,a3,-⟩ | ⟨-,rfl,v',K',a1,a2,a3,-⟩
  ·exact ⟨K',G',v',v1,a3,by rw [bF];exact a1,by rw [Ot];exact T.w1,a2⟩
  ·exact ⟨K',G,v',v1,a3,by rw [bF];exact a1,by rw [Ot];exact T.w1,a2⟩
 | 1,_ =>
  obtain ⟨w',p',b,e,g⟩:=aaY T.w1 T.sy
  rw [e]
  rcases g with ⟨-,v',G',K',a1,a2,a3,-⟩ | ⟨-,rfl,v',G',K',a1,a2,a3,-⟩
  ·exact ⟨K',G',v0,v',a3,by rw [Ou];exact T.w0,by rw [bF];exact a1,a2⟩
  ·exact ⟨K',G',v0,v',a3,by rw [Ou];exact T.w0,by rw [bF];exact a1,a2⟩
theorem Tw.acc (T:Tw K p W G v0 v1) (hK:K≤799000) {i:Nat} (hi:i<2):∃I,sH I∧I 200 (W i)∧p.OK∧p.steps≤1000000∧∀k',(W i).go 200=(k',none)→k'.r.step≠0∧∃p' x,p.act k'.r.acc=(p',some x)∧oG k'.r x∧(k'.r.aG x).2=true:=by
 match i,hi with
 | 0,_=>exact ⟨_,WS _ _,aa1 T.w0 T.sy hK⟩
 | 1,_=>exact ⟨_,WT _ _,aa2 T.w1 T.sy hK⟩
end
def G00:Gh:=⟨0,0,[],⟨1,1,0⟩,false,[],[],0⟩
theorem QR {E me N K:Int} {p:PS} {ops:List Op} (hE:1≤E∧E≤5) (hm:0≤me∧me<2) (hN:1≤N) (hp:p.OK) (hw:p.wb K) (hs:p.steps≤K) (hK:0≤K) (ho:ops.length≤100∧∀o∈ops,0≤o.val∧o.val≤3000) :
  AV K ⟨Ko E me N,.idle ⟨Wd.zero,false⟩,ops,none,false,[]⟩ p:=by
 refine ⟨⟨aeY hE hm hN,trivial,hp,⟨fun _=>Wb.zero hK,?_,?_⟩,Wb.zero hK,hw,?_,?_,hs,hK⟩,fun j hj=>(by cases hj),ho⟩
 ·show -(2000 * K+3000)≤0∧0≤2000 * K+3000
  omega
 ·show -(2000 * K+3000)≤0∧0≤2000 * K+3000
  omega
 ·show (0:Int)≤0∧0≤K
  omega
 ·show ((0:Nat):Int)≤K
  omega
theorem QS (E me N:Int) (ops:List Op):VW ⟨Ko E me N,.idle ⟨Wd.zero,false⟩,ops,none,false,[]⟩ (Wk.new E me 2 N ops):=⟨Go.Proofs.YthomdlajobnmnaaGreatDoor.ab4 E me N,rfl,rfl,rfl,rfl⟩
def kG (a:Nat):List Op:=(List.range a).map (fun i:Nat=>Dm (i:Int))
def je (b:Nat):List Op:=List.replicate b Hl
theorem Tw.new {E N:Int} {p:PS} {W:Nat→Wk} {a b:Nat} (hE:1≤E∧E≤5) (hN:1≤N) (ha:a≤12) (hb:b≤12) (h:Laid 60 p) (h0:W 0=Wk.new E 0 2 N (kG a)) (h1:W 1=Wk.new E 1 2 N (je b)) :
  Tw 10 p W G00 ⟨Ko E 0 N,.idle ⟨Wd.zero,false⟩,kG a,none,false,[]⟩ ⟨Ko E 1 N,.idle ⟨Wd.zero,false⟩,je b,none,false,[]⟩:=by
 have hst:p.steps≤10:=by rw [h.steps];decide
 have q:Qs p G00 []:=by
  refine ⟨h.nb,h.bT,by rw [h.bd];decide,by rw [h.bd];rfl,by rw [h.bd];rfl,(fun e=>by cases e),fun n hn=>?_,h.cell _ _,fun n hn=>(by cases hn),fun d hd=>(by cases hd),by decide,fun i n hi=>(by cases i <;> cases hi),fun n hn=>(by cases hn),?_,Nat.le_refl _⟩
  ·obtain rfl:n=⟨1,1,0⟩:=by simpa [G00,Gh.ns] using hn
   exact ⟨⟨by decide,by rw [h.ns];show (1:Int)≤60;decide⟩,by rw [h.used];rfl,by rw [h.gen];rfl⟩
  ·rw [h.nf]
   decide
 refine ⟨by rw [h0];exact QS _ _ _ _,by rw [h1];exact QS _ _ _ _,q,⟨⟨a,ha,rfl⟩,⟨0,rfl⟩,Nat.zero_le _,.inl ⟨rfl,rfl,rfl,rfl,(fun e=>by cases e),trivial⟩⟩,⟨⟨b,hb,rfl⟩,Nat.zero_le _,.inl ⟨rfl,rfl,(fun e=>by cases e),trivial,.nil⟩⟩,trivial,trivial,?_,?_,rfl⟩
 ·refine QR hE (by decide) hN h.ok h.wb hst (by decide) ⟨by unfold kG;rw [List.length_map,List.length_range];omega,fun o ho=>?_⟩
  obtain ⟨i,hi,rfl⟩:=List.mem_map.1 ho
  have:=List.mem_range.1 hi
  show (0:Int)≤(i:Int)∧(i:Int)≤3000
  omega
 ·refine QR hE (by decide) hN h.ok h.wb hst (by decide) ⟨by unfold je;rw [List.length_replicate];omega,fun o ho=>?_⟩
  obtain ⟨-,rfl⟩:=List.mem_replicate.1 ho
  exact ⟨by decide,by decide⟩
theorem SP.end {m:Nat} {p:PS} {W:Nat→Wk} {a b:Nat} (h:SP 2 m p W) (h0:(W 0).ops=kG a) (h1:(W 1).ops=je b):∃G N,Qs p G N∧G.hand=[]∧G.m=a∧iq (W 1).said G.d∧(W 1).said.length=b∧G.m≤12:=by
 obtain ⟨K,G,v0,v1,T,⟨h,-⟩ | ⟨h,-⟩ | ⟨-,hd0,hd1⟩⟩:=h
 ·cases h
 ·cases h
 have S:=T.sy
 refine ⟨G,_,S.q,?_⟩
 have e0:=S.e.sl
 have e1:=S.d.sl
 have l0:v0.ops.length=a:=by rw [←T.w0.ops,h0];unfold kG;rw [List.length_map,List.length_range]
 have l1:v1.ops.length=b:=by rw [←T.w1.ops,h1];unfold je;rw [List.length_replicate]
 have d0:=hd0.2.2.2
 have d1:=hd1.2.2.2
 have hlim:=S.e.ko
 rcases S.e.st with ⟨-,hm,-,hh,-⟩ | ⟨j,hj,-⟩
 ·rcases S.d.st with ⟨-,-,-,-,ha⟩ | ⟨j,hj,-⟩
  ·rw [T.w1.said]
   exact ⟨hh,by omega,ha,by omega,hlim⟩
  ·rw [hd1.2.1] at hj;cases hj
 ·rw [hd0.2.1] at hj;cases hj
end Go.Proofs.YthomdlajobnmnaaGreatDoor.Cq
namespace Go.Proofs.YthomdlajobnmnaaGreatDoor
open Go.RowKit Go.Rex
def ssE:List (Nat × TypeId × TypeId):=[(0,224,249),(1,224,249),(4,224,249),(5,224,249),(7,224,249),(6,224,249),(2,224,249)]
def ssT:List (Nat × TypeId × TypeId):=[(0,224,249),(1,224,249),(4,224,249),(5,224,249),(7,224,249),(6,224,249)]
def isE:dQ:={f:=31,nv:=1,hp:=[{t:=163,cs:=[.int .i64 (.var 0),.iface 224 (.ptr {aC:=1})],ro:=true},{t:=500000+249,cs:=[.hole],ro:=true}],args:=[.one (.iface 161 (.ptr {aC:=0})),.one (.iface 224 (.ptr {aC:=1}))],jf:=1,ret:=.w (.one (.bool (.lit true))),hp':=[ed,ed]}
end Go.Proofs.YthomdlajobnmnaaGreatDoor
