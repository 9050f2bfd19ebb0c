/- part 26 of the proof -/
import Derived.Tactics
import Derived.Tactics2
import Derived.Deep.QuietTactic
import Derived.BigQuiet
import Derived.Maps.AppendAt
import Derived.Test.YthomdlajobnmnaaGreatDoorT11
import Derived.Test.YthomdlajobnmnaaGreatDoorT20
import Derived.Test.YthomdlajobnmnaaGreatDoorT22
import Derived.Test.YthomdlajobnmnaaGreatDoorT23
import Derived.Test.YthomdlajobnmnaaGreatDoorT24
import Derived.Test.YthomdlajobnmnaaGreatDoorT25
set_option linter.unusedSimpArgs false
set_option linter.unusedVariables false
namespace Go.Proofs.YthomdlajobnmnaaGreatDoor
open Go.RowKit Go.Rex
section
variable {I:Nat→Wk→Prop} {w:World} {b base A:Nat} {k:Wk} {aP:Addr} {p:PS} {B BP:Nat→Prop} {fA:Nat→Addr}
set_option maxHeartbeats 40000000 in
set_option maxRecDepth 100000 in
theorem Oz (HI:Ai I) (hI:I 200 k) (hW:bF w b base A k B) (hP:jf w aP p BP) (hB:zu w A B BP fA) (hok:p.OK) (hst:p.steps≤1000000) (hbase:base≤w.heap.size)
  (hend:∀k',k.go 200=(k',none)→k'.r.step≠0∧∃p' x,p.act k'.r.acc=(p',some x)∧oF k'.r x∧(k'.r.bL x).2=true) :
  Calls Tryz.prog 12 #[.pointer (some ⟨b,0,none⟩),.pointer (some aP)] w fun e w'=>e=.returned (.bool (k.step p).2.2)∧bH w w' b base A aP B BP (k.step p).1 (k.step p).2.1:=by
 have A0:Aside (I 200 k∧bH w w b base A aP B BP k p):=⟨hI,bH.of hW hP hB.d⟩
 clear hI hW hP
 go_enter Tryz.func12,Tryz.ntmps12
 go_wp2
 go_loopg [5] 200 (fun kk i wr=>∃s:Nat,i=.int .i64 s∧s+kk=200∧Aside (∃k1,I kk k1∧k1.go kk=k.go 200∧bH w wr b base A aP B BP k1 p))
 case atStart=>exact ⟨0,rfl,rfl,k,A0.out.1,rfl,A0.out.2⟩
 case round =>
  obtain ⟨s,rfl,hsk,hR⟩:=hrel
  obtain ⟨k1,hI1,hgo,hW1⟩:=hR.out
  obtain ⟨rb,Vx,sv0,c0,hc0,-⟩:=hW1.cells
  have kL:=hW1.busy hc0
  clear hR
  by_cases Ib:s<200
  ·have hsl:(s:Int)<200:=by omega
   by_cases hb0:k1.r.step=0
   ·obtain ⟨n,rfl⟩:∃n,gk=n+1:=⟨gk-1,by omega⟩
    rw [show (decide (k1.r.step≠0))=false by simp [hb0]] at kL
    cases hj:k1.j with
    | none =>
     have q2:=hW1.Km hj
     by_cases hi:k1.bV=true
     ·skip
      obtain ⟨b1,b2⟩:=HI.leave _ _ hI1 hb0 hj hi
      obtain ⟨-,-,-,-,-,-,-,q3,-,q5⟩:=hW1.cells
      rw [hi] at q3
      have q53:=q5 3
      have YH:=hW1.put 3 (.bool false) k1.j false (fun h=>by cases h) (fun _=>rfl) (fun _=>rfl) (fun h=>absurd rfl h) (.inr rfl)
      obtain ⟨rb2,-,-,-,hc1,-⟩:=YH.cells
      have hr:sH k1.r:=HI.rt _ _ hI1
      have zx:=YH.begin hc1 hr hb0 (c:=Ca.of 2) (Vs (by decide))
      rw [ZV] at zx
      have A1:Aside (I n {k1 with bV:=false,r:=(k1.r.begin (Ca.of 2)).1}∧Wk.go n {k1 with bV:=false,r:=(k1.r.begin (Ca.of 2)).1}=k.go 200):=⟨b2,(TQ hb0 hj hi b1).trans hgo⟩
      clear hI1 hgo hW1 b1 b2 YH q5 hr
      go_wp2_with (first
        | (go_at_call 36;(with_reducible refine kL.mono ?_);rintro ev w1 ⟨rfl,rfl⟩)
        | (go_at_call 37;(with_reducible refine zx.mono ?_);intro ev w2 hp2;obtain ⟨rfl,hW2⟩:=hp2))
      go_roundg n
      case measure=>omega
      case rel=>exact ⟨s+1,by go_num,by omega,_,A1.out.1,A1.out.2,hW2⟩
     ·have hi':k1.bV=false:=by simpa using hi
      by_cases hl:k1.said.length≥k1.ops.length
      ·skip
       obtain ⟨-,-,-,c,-,q1,-,q3,-,-⟩:=hW1.cells
       obtain ⟨aS,cS,q4⟩:=hW1.said
       rw [hi'] at q3
       have hge:(k1.ops.length:Int)≤(k1.said.length:Int):=by omega
       have A1:Aside (bH w wr b base A aP B BP k1 p∧k1.go (n+1)=k.go 200):=⟨hW1,hgo⟩
       clear hI1 hgo hW1
       go_wp2_with (first
         | (go_at_call 36;(with_reducible refine kL.mono ?_);rintro ev w1 ⟨rfl,rfl⟩))
       go_quiet (fail)
       go_wp2
       go_ret
       have hstep:k.step p=(k1,p,false):=by
        have hgo:=(Mm (n:=n) hb0 hj hi' hl).symm.trans A1.out.2
        unfold Wk.step
        rw [←hgo]
       rw [hstep]
       exact ⟨rfl,A1.out.1.nw (Nw.drewN (bU.refl _ _) _)⟩
      ·(apply aaN <;> (try assumption)) <;> assumption
    | some j=>(apply aaO <;> (try assumption)) <;> assumption
   ·rw [show (decide (k1.r.step≠0))=true by simp [hb0]] at kL
    have hsl2:k1.go gk=(k1,none):=WK hb0
    apply Zj <;> assumption
  ·have hsl:¬(s:Int)<200:=by omega
   have hsl2:k1.go gk=(k1,none):=by
    obtain rfl:gk=0:=by omega
    rfl
   apply Zk <;> assumption
end
section
variable {w:World} {b base A:Nat} {k:Wk} {B:Nat→Prop}
theorem xu (h:k.idle→False):decide k.idle=false:=decide_eq_false h
set_option maxHeartbeats 4000000 in
set_option maxRecDepth 100000 in
theorem zz (hW:bF w b base A k B):Calls Tryz.prog 35 #[.pointer (some ⟨b,0,none⟩)] w fun e w'=>e=.returned (.bool (decide k.idle))∧Nw w w':=by
 obtain ⟨rb,hc0,-⟩:=hW.Ov
 have hbq:∀q,Calls Tryz.prog 36 #[.pointer (some ⟨rb,0,none⟩)] (w.drewN q) fun e w'=>e=.returned (.bool (decide (k.r.step≠0)))∧w'=w.drewN q:=fun q=>by
  obtain ⟨Q5,hc',hb⟩:=(hW.nw (Nw.drewN (bU.refl w _) q)).Ov
  obtain rfl:=pz hc0 hc'
  exact hb
 obtain ⟨aR,jv,sv,c,-,q1,q2,q3,-,-⟩:=hW.cells
 obtain ⟨aS,cS,q4⟩:=hW.said
 by_cases hb0:k.r.step=0
 ·rw [show (decide (k.r.step≠0))=false by simp [hb0]] at hbq
  cases hj:k.j with
  | some j =>
   obtain ⟨aJ,BJ,hcJ,-⟩:=hW.jb hj
   rw [xu fun h=>by have:=h.2.1;rw [hj] at this;cases this]
   clear hW q2
   go_enter Tryz.func35,Tryz.ntmps35
   go_wp2_with fail
   go_quiet (first | (go_at_call 36;(with_reducible exact Calls.quiet_of_same (hbq _))))
   go_wp2
   go_ret
   exact ⟨rfl,Nw.drewN (bU.refl _ _) _⟩
  | none =>
   have hcJ:=hW.Km hj
   clear q2
   by_cases hi:k.bV=true
   ·rw [hi] at q3
    rw [xu fun h=>by have:=h.2.2.1;rw [hi] at this;cases this]
    clear hW
    go_enter Tryz.func35,Tryz.ntmps35
    go_wp2_with fail
    go_quiet (first | (go_at_call 36;(with_reducible exact Calls.quiet_of_same (hbq _))))
    go_wp2
    go_ret
    exact ⟨rfl,Nw.drewN (bU.refl _ _) _⟩
   ·have hi':k.bV=false:=by simpa using hi
    rw [hi'] at q3
    by_cases hl:k.said.length≥k.ops.length
    ·have hl1:(k.ops.length:Int)≤(k.said.length:Int):=by omega
     rw [show decide k.idle=true from decide_eq_true ⟨hb0,hj,hi',hl⟩]
     clear hW
     go_enter Tryz.func35,Tryz.ntmps35
     go_wp2_with fail
     go_quiet (first | (go_at_call 36;(with_reducible exact Calls.quiet_of_same (hbq _))))
     go_wp2
     go_ret
     exact ⟨by simp,Nw.drewN (bU.refl _ _) _⟩
    ·have hl1:¬(k.ops.length:Int)≤(k.said.length:Int):=by omega
     rw [xu fun h=>hl h.2.2.2]
     clear hW
     go_enter Tryz.func35,Tryz.ntmps35
     go_wp2_with fail
     go_quiet (first | (go_at_call 36;(with_reducible exact Calls.quiet_of_same (hbq _))))
     go_wp2
     go_ret
     exact ⟨by simp,Nw.drewN (bU.refl _ _) _⟩
 ·rw [show (decide (k.r.step≠0))=true by simp [hb0]] at hbq
  rw [xu fun h=>hb0 h.1]
  clear hW
  go_enter Tryz.func35,Tryz.ntmps35
  go_wp2_with fail
  go_quiet (first | (go_at_call 36;(with_reducible exact Calls.quiet_of_same (hbq _))))
  go_wp2
  go_ret
  exact ⟨rfl,Nw.drewN (bU.refl _ _) _⟩
end
structure jg (w1 w:World) (aP:Addr) (aW A:Nat→Nat) (base g n:Nat) (p:PS) (W:Nat→Wk):Prop where
 cr:∃F:Nat→Prop,lW w aP aW A base n p W F∧∀b,F b→w1.heap.size≤b∧b≠g
 row:∀i,i<n→w.cell? ⟨g,i,none⟩=some (.pointer (some ⟨aW i,0,none⟩))
 nw:Nw w1 w
 hbase:base≤w.heap.size
section
variable {w1 w w':World} {aP:Addr} {aW A:Nat→Nat} {base g n i:Nat} {p:PS} {W:Nat→Wk} {I:Nat→Wk→Prop} {fA:Nat→Addr}
theorem jg.wk (R:jg w1 w aP aW A base g n p W) (hi:i<n):∃B,bF w (aW i) base (A i) (W i) B:=by
 obtain ⟨F,hC,-⟩:=R.cr
 obtain ⟨BP,BM,h1,h2,-⟩:=hC.ex
 exact ⟨_,h2 i hi⟩
theorem jg.more (R:jg w1 w aP aW A base g n p W) (hn:Nw w w'):jg w1 w' aP aW A base g n p W:=by
 obtain ⟨F,hC,hF⟩:=R.cr
 exact ⟨⟨F,hC.frame (fun b hb _=>hn.block b hb id) hn.size,hF⟩,fun i hi=>hn.dD (R.row i hi),R.nw.trans hn,Nat.le_trans R.hbase hn.size⟩
theorem jg.step (R:jg w1 w aP aW A base g n p W) (hi:i<n) (HI:Ai I) (hI:I 200 (W i)) (hs:nu w1 fA) (hz:∀j,j<8→(fA j).block<w1.heap.size) (hok:p.OK) (hst:p.steps≤1000000)
  (hend:∀k',(W i).go 200=(k',none)→k'.r.step≠0∧∃p' x,p.act k'.r.acc=(p',some x)∧oF k'.r x∧(k'.r.bL x).2=true) :
  Calls Tryz.prog 12 #[.pointer (some ⟨aW i,0,none⟩),.pointer (some aP)] w fun e w'=>e=.returned (.bool ((W i).step p).2.2)∧jg w1 w' aP aW A base g n ((W i).step p).2.1 (oI W i ((W i).step p).1):=by
 obtain ⟨F,hC,hF⟩:=R.cr
 have hAF:¬F (A i):=by
  obtain ⟨BP,BM,-,-,-,-,-,-,h7⟩:=hC.ex
  exact h7 i hi
 obtain ⟨BP,B,hP,hW,hd,xJ,hBl,Ra,cont⟩:=hC.aaM hi
 have hsn:nu w fA:=hs.frame R.nw.size fun j hj=>R.nw.block _ (hz j hj) id
 have hB:zu w (A i) B BP fA:=⟨hd,hBl,xJ,⟨fun q=>hAF (Ra _ (.inl q)),hW.self.2.2⟩,hsn,fun j hj=>⟨fun q=>absurd (hF _ (Ra _ (.inr q))).1 (Nat.not_le.2 (hz j hj)),fun q=>absurd (hF _ (Ra _ (.inl q))).1 (Nat.not_le.2 (hz j hj)),Nat.lt_of_lt_of_le (hz j hj) R.nw.size⟩⟩
 refine (Oz HI hI hW hP hB hok hst R.hbase hend).mono ?_
 rintro e w' ⟨he,hO⟩
 obtain ⟨B',qE,g1,g2,g3,g4,g5,g6⟩:=hO.ex
 have hg:g<w.heap.size:=World.block_lt_of_cell? _ _ (R.row i hi)
 refine ⟨he,⟨_,cont w' _ _ qE B' g1 g2 g3 g4 g5 g6,fun b hb=>?_⟩,fun j hj=>?_,QT R.nw g6 fun x hx=>(hF x (Ra x hx)).1,Nat.le_trans R.hbase g6.size⟩
 ·rcases hb with hb | hb
  ·exact hF b hb
  ·exact ⟨Nat.le_trans R.nw.size hb,by omega⟩
 ·rw [←R.row j hj]
  exact xm (g6.block g hg fun q=>(hF g (Ra g q)).2 rfl) j
end
structure Ends (n:Nat) (S:Nat→Nat→PS→(Nat→Wk)→Prop):Prop where
 acc:∀k m p W,S k m p W→k<n→∃I,Ai I∧I 200 (W k)∧p.OK∧p.steps≤1000000∧∀k',(W k).go 200=(k',none)→k'.r.step≠0∧∃p' x,p.act k'.r.acc=(p',some x)∧oF k'.r x∧(k'.r.bL x).2=true
 step:∀k m p W,S k m p W→k<n→∃w' p' b,(W k).step p=(w',p',b)∧((b=true∧∃m',m'<m∧S k m' p' (oI W k w'))∨(b=false∧w'.idle∧∃m',S k m' p' (oI W k w')))
 next:∀k m p W,S k m p W→k<n→(W k).idle→∃m',m'≤39999∧S (k+1) m' p W
section
variable {w1 w:World} {aP:Addr} {aW A:Nat→Nat} {base g n c:Nat} {p:PS} {W:Nat→Wk} {fA:Nat→Addr} {S:Nat→Nat→PS→(Nat→Wk)→Prop}
set_option maxHeartbeats 4000000 in
set_option maxRecDepth 100000 in
theorem Rb (HS:Ends n S) (R:jg w1 w aP aW A base g n p W) {m0:Nat} (h0:S 0 m0 p W) (hm:m0≤39999) (hn:n≤6) (hs:nu w1 fA) (hz:∀j,j<8→(fA j).block<w1.heap.size) :
  Calls Tryz.prog 10 #[.pointer (some aP),.slice (some ⟨g,0,none⟩) n c] w fun e w'=>e=.returned (.bool true)∧∃m p' W',S n m p' W'∧jg w1 w' aP aW A base g n p' W':=by
 have A0:Aside (S 0 m0 p W∧jg w1 w aP aW A base g n p W):=⟨h0,R⟩
 clear h0 R
 go_enter Tryz.func10,Tryz.ntmps10
 go_wp2
 go_loopg [5] n (fun kk i wr=>∃k:Nat,i=.int .i64 k∧k+kk=n∧Aside (∃m p W,S k m p W∧m≤39999∧jg w1 wr aP aW A base g n p W))
 case atStart=>exact ⟨0,rfl,by omega,m0,p,W,A0.out.1,hm,A0.out.2⟩
 case round =>
  obtain ⟨k,rfl,hkk,hR⟩:=hrel
  by_cases hkn:k<n
  ·have hk1:(k:Int)<(n:Int):=by omega
   have hk0:(0:Int)≤(k:Int):=by omega
   have A1:Aside (∃m p W,S k m p W∧m≤39999∧jg w1 wr aP aW A base g n p W):=hR.out
   clear hR
   obtain ⟨ZZ,hgk⟩:∃x,x=gk:=⟨_,rfl⟩
   go_wp2_with fail
   go_loopg [6] 40000 (fun kk i wq=>∃s:Nat,i=.int .i64 s∧s+kk=40000∧Aside (∃m p W,S k m p W∧(m+s≤39999∨(W k).idle)∧jg w1 wq aP aW A base g n p W))
   case atStart =>
    obtain ⟨m,p,W,h1,h2,h3⟩:=A1.out
    exact ⟨0,rfl,rfl,m,p,W,h1,.inl h2,h3⟩
   case round =>
    obtain ⟨s,rfl,hsk,hR⟩:=hrel
    obtain ⟨m,p,W,h1,h2,h3⟩:=hR.out
    obtain ⟨B0,hW0⟩:=h3.wk hkn
    have hrow:=h3.row k hkn
    have Ku:=zz hW0
    clear hR hW0
    by_cases hid:(W k).idle
    ·rw [decide_eq_true hid] at Ku
     obtain ⟨m',g1,g2⟩:=HS.next k m p W h1 hkn hid
     have A2:Aside (S (k+1) m' p W∧m'≤39999∧jg w1 wr aP aW A base g n p W):=⟨g2,g1,h3⟩
     have TW:∀wx,Nw wr wx→Calls Tryz.prog 35 #[.pointer (some ⟨aW k,0,none⟩)] wx fun e w'=>e=.returned (.bool true)∧Nw wx w':=fun wx hn=>by
      obtain ⟨B1,hW1⟩:=(h3.more hn).wk hkn
      have:=zz hW1
      rw [decide_eq_true hid] at this
      exact this
     clear h1 h2 h3 g1 g2 Ku
     by_cases hs4:s<40000
     ·have hs5:(s:Int)<40000:=by omega
      go_wp2_with (first
        | (go_at_call 35;(with_reducible refine (TW _ (bU.refl _ _)).mono ?_);rintro ev w3 ⟨rfl,mQ⟩;have hrow3:=mQ.dD hrow)
        | (go_at_call 35;(with_reducible refine (TW _ mQ).mono ?_);rintro ev w4 ⟨rfl,PM⟩))
      go_roundg (ZZ-1)
      case measure=>omega
      case rel=>exact ⟨k+1,by go_num,by omega,m',p,W,A2.out.1,A2.out.2.1,A2.out.2.2.more (mQ.trans PM)⟩
     ·have hs5:¬(s:Int)<40000:=by omega
      go_wp2_with (first
        | (go_at_call 35;(with_reducible refine (TW _ (bU.refl _ _)).mono ?_);rintro ev w3 ⟨rfl,mQ⟩))
      go_roundg (ZZ-1)
      case measure=>omega
      case rel=>exact ⟨k+1,by go_num,by omega,m',p,W,A2.out.1,A2.out.2.1,A2.out.2.2.more mQ⟩
    ·rw [decide_eq_false hid] at Ku
     have hms:=h2.resolve_right hid
     have hs5:(s:Int)<40000:=by omega
     obtain ⟨I,hI1,hI2,Z0,Z4,Z5⟩:=HS.acc k m p W h1 hkn
     obtain ⟨w',p',b,hstep,hcase⟩:=HS.step k m p W h1 hkn
     have YI:∀wx,Nw wr wx→Calls Tryz.prog 12 #[.pointer (some ⟨aW k,0,none⟩),.pointer (some aP)] wx fun e w2=>e=.returned (.bool b)∧jg w1 w2 aP aW A base g n p' (oI W k w'):=fun wx hn=>by
      have:=(h3.more hn).step hkn hI1 hI2 hs hz Z0 Z4 Z5
      rw [hstep] at this
      exact this
     clear h2 hI1 hI2 Z0 Z4 Z5 hstep h3 h1
     rcases hcase with ⟨rfl,m',g1,g2⟩ | ⟨rfl,g0,m',g2⟩
     ·have A2:Aside (S k m' p' (oI W k w')∧m'<m):=⟨g2,g1⟩
      clear g1 g2
      go_wp2_with (first
        | (go_at_call 35;(with_reducible refine Ku.mono ?_);rintro ev w3 ⟨rfl,mQ⟩;have hrow3:=mQ.dD hrow)
        | (go_at_call 12;(with_reducible refine (YI _ mQ).mono ?_);rintro ev w4 ⟨rfl,vz⟩))
      go_roundg (gk-1)
      case measure=>omega
      case rel=>exact ⟨s+1,by go_num,by omega,m',p',_,A2.out.1,.inl (by have:=A2.out.2;omega),vz⟩
     ·have A2:Aside (S k m' p' (oI W k w')):=g2
      have aaS:∀wx,jg w1 wx aP aW A base g n p' (oI W k w')→Calls Tryz.prog 35 #[.pointer (some ⟨aW k,0,none⟩)] wx fun e w'=>e=.returned (.bool true)∧Nw wx w':=fun wx hn=>by
       obtain ⟨B1,hW1⟩:=hn.wk hkn
       have:=zz hW1
       rw [dJ,decide_eq_true g0] at this
       exact this
      clear g2
      go_wp2_with (first
        | (go_at_call 35;(with_reducible refine Ku.mono ?_);rintro ev w3 ⟨rfl,mQ⟩;have hrow3:=mQ.dD hrow)
        | (go_at_call 12;(with_reducible refine (YI _ mQ).mono ?_);rintro ev w4 ⟨rfl,vz⟩;have hrow4:=vz.row k hkn)
        | (go_at_call 35;(with_reducible refine (aaS _ vz).mono ?_);rintro ev w5 ⟨rfl,XY⟩))
      go_roundg (gk-1)
      case measure=>omega
      case rel=>exact ⟨s+1,by go_num,by omega,m',p',_,A2.out,.inr (by rw [dJ];exact g0),vz.more XY⟩
  ·have hk1:¬(k:Int)<(n:Int):=by omega
   obtain rfl:k=n:=by omega
   obtain ⟨m,p,W,h1,h2,h3⟩:=hR.out
   have A1:Aside (S k m p W∧jg w1 wr aP aW A base g k p W):=⟨h1,h3⟩
   clear hR h1 h2 h3
   go_wp2
   go_ret
   exact ⟨rfl,m,p,W,A1.out⟩
end
theorem YJ {α:Type} (f:Nat→α) (i:Nat):oI f i (f i)=f:=by
 funext k
 by_cases h:k=i
 ·rw [h,dJ]
 ·rw [ig _ _ h]
theorem OA (w:World):Calls Tryz.prog 17 #[] w fun e w'=>e=.returned (.int .i64 85)∧w'=w:=by
 go_enter Tryz.func17,Tryz.ntmps17
 go_wp2
 go_ret
 exact ⟨rfl,rfl⟩
def sK:dX:={f:=33,nv:=0,args:=[],hp:=[],jc:=0,ret:=.w (.agg [.int .i64 (.lit 0),.int .i64 (.lit 0),.int .i64 (.lit 24)]),hp':=[]}
noncomputable def YK:Ex:={sched:=sched,loops:=[],cons:=[],fin:=sK}
theorem WS:exec tab YK 1000 [] (fB sK.f sK.nv [] sK.gl sK.hp sK.args)=.fin {lo:=0,az:=0}:=by kernel_rfl
theorem WT:bf Tryz.prog sK (fun _=>True) (fun _=>True) :=
 dw dY (E:=YK) (cs:=[]) rfl (fun k pre post h=>by cases h) bZ rfl WS (by kernel_rfl) (fun ρ _ p hp=>by cases hp) (fun ρ _=>Sat.fin trivial)
theorem TY (w:World):Calls Tryz.prog 33 #[] w fun e w'=>e=.returned (.agg #[.int .i64 0,.int .i64 0,.int .i64 24])∧Nw w w':=by
 refine Calls.mono (WT.run (Vj fun _=>0) (fun _=>⟨0,0,none⟩) w H8 ⟨fun g k _ h=>(by cases h),fun g g' k k' _ _ h=>(by cases h)⟩ trivial) ?_
 rintro e w' ⟨ρ,ν,hA,rfl,gW,hwr,how,-⟩
 exact ⟨rfl,hwr.os,hwr.tape,hwr.output,hwr.size,fun k hk _=>hwr.block k hk fun ⟨j,sb,hj,_⟩=>by
   have hj:([]:List SB)[j]?=some sb:=hj
   simp at hj⟩
def qV:Ac:=⟨2,0,0,24,⟨0,0,0,0,false⟩,⟨0,0,0,1,false⟩⟩
theorem zA {p:PS} {m:Int} (h:qU p 85 m):∃p',p.act qV=(p',some ⟨Wd.zero,true⟩)∧p'={p with steps:=p.steps+1,bd:=fun b=>if b=24 then ⟨0,0,0,1,false⟩ else p.bd b}:=by
 have hv:p.has 0 0 24:=by simp [PS.has,h.nb]
 refine ⟨_,zt hv (.inl rfl),?_⟩
 unfold PS.put
 rw [if_pos rfl]
 rfl
theorem WU:(Tryz.prog.info? 45).map (fun i=>(i.zero,i.size,i.bytes))=some (some (.pointer none),1,8):=by kernel_rfl
theorem nu.nw {w w':World} {fA:Nat→Addr} (h:nu w fA) (hz:∀k,k<8→(fA k).block<w.heap.size) (hn:Nw w w'):nu w' fA :=
 h.frame hn.size fun k hk=>hn.block _ (hz k hk) id
theorem Rc {w w':World} {base:Nat} {e:TypeId} {size:Nat} {v:Value} {n:Nat} {xs:List Value} (h:w.ownsRow base e size v n xs) (hn:Nw w w'):w'.ownsRow base e size v n xs:=by
 obtain ⟨h1,h2 | ⟨g,cap,cur,h2,h3,h4,h5⟩⟩:=h
 ·exact ⟨h1,.inl h2⟩
 ·refine ⟨h1,.inr ⟨g,cap,cur,h2,h3,?_,h5⟩⟩
  rw [hn.block g ?_ id]
  ·exact h4
  ·rcases Nat.lt_or_ge g w.heap.size with h | h
   ·exact h
   ·rw [Array.getElem?_eq_none h] at h4;cases h4
theorem Aj {w0 w w':World} {row:Option Nat} (h:Nw w0 w) (hg:w.grownBy w' row) (hr:∀g,row=some g→w0.heap.size≤g):Nw w0 w' :=
 h.step hg.os hg.tape hg.output hg.size fun k hk _=>hg.block k (Nat.lt_of_lt_of_le hk h.size) fun e=>by have:=hr k e.symm;omega
structure Ak (w:World) (gO n:Nat) (A:Nat→Nat) (L:Nat→List Op):Prop where
 ex:∀i,i<n→(∃c,w.cell? ⟨gO,i,none⟩=some (.slice (some ⟨A i,0,none⟩) (L i).length c))∧mX w (A i) (L i)∧A i<w.heap.size
theorem Ak.nw {w w':World} {gO n:Nat} {A:Nat→Nat} {L:Nat→List Op} (h:Ak w gO n A L) (hn:Nw w w'):Ak w' gO n A L :=
 ⟨fun i hi=>by
   obtain ⟨⟨c,h1⟩,h2,h3⟩:=h.ex i hi
   exact ⟨⟨c,hn.dD h1⟩,h2.frame (hn.block _ h3 id),Nat.lt_of_lt_of_le h3 hn.size⟩⟩
structure Cs (w0 w:World) (aP:Addr) (A:Nat→Nat) (L:Nat→List Op) (E N:Int) (n j:Nat) (p:PS) (s:Value):Prop where
 ex:∃aW F,lW w aP aW A w0.heap.size j p (fun i=>Wk.new E i n N (L i)) F∧w.ownsRow w0.heap.size 45 1 s j ((List.range j).map fun i=>.pointer (some ⟨aW i,0,none⟩))∧∀b,F b→w0.heap.size≤b∧b<w.heap.size∧s.ownBlock≠some b
 nw:Nw w0 w
section
variable {A:Nat→Nat} {L:Nat→List Op}
set_option maxHeartbeats 4000000 in
set_option maxRecDepth 100000 in
theorem Re (E N m:Int) (n gO cO:Nat) (h1:1≤E∧E≤5) (h3:1≤n∧n≤6) (h4:1≤N∧N≤64) (h:0≤m∧m≤1024) (w:World) (hO:Ak w gO n A L) (fA:Nat→Addr) (hs:nu w fA) (hz:∀k,k<8→(fA k).block<w.heap.size) :
  Calls Tryz.prog 9 #[.int .i64 E,.int .i64 N,.int .i64 m,.slice (some ⟨gO,0,none⟩) n cO] w fun e w'=>∃aP g c p p0,e=.returned (.tuple #[.pointer (some aP),.slice (some ⟨g,0,none⟩) n c])∧Cs w w' aP A L E N n n p (.slice (some ⟨g,0,none⟩) n c)∧qU p0 85 m∧p0.act qV=(p,some ⟨Wd.zero,true⟩):=by
 obtain ⟨i0,hi,hy0,hy1,hy2⟩:=info_parts WU
 have hc:=OA w
 have hp:=Oc m h w
 have A0:Aside ((1≤E∧E≤5)∧(1≤n∧n≤6)∧(1≤N∧N≤64)∧(0≤m∧m≤1024)∧nu w fA∧∀k,k<8→(fA k).block<w.heap.size):=⟨h1,h3,h4,h,hs,hz⟩
 have AO:Aside (Ak w gO n A L):=hO
 clear h1 h3 h4 h hs hz hO
 go_enter Tryz.func9,Tryz.ntmps9
 go_wp2_with (go_at_call 17;(with_reducible refine hc.mono ?_);rintro ev w1 ⟨rfl,rfl⟩)
 go_wp2_with (go_at_call 16;(with_reducible refine hp.mono ?_);intro ev w2 hp2;obtain ⟨aP,p0,B,rfl,xJ,hF,hB,hw⟩:=hp2)
 have he:=TY w2
 have A1:Aside (jf w2 aP p0 B∧qU p0 85 m∧(∀b,B b→w1.heap.size≤b)∧Nw w1 w2):=⟨xJ,hF,hB,hw⟩
 clear hp hc xJ hF hB hw
 go_wp2_with (go_at_call 33;(with_reducible refine he.mono ?_);rintro ev w3 ⟨rfl,hw3⟩)
 obtain ⟨xJ,hF,hB,hw⟩:=A1.out
 obtain ⟨h1,h3,h4,h,hs,hz⟩:=A0.out
 obtain ⟨p,hact,hp⟩:=zA hF
 have Kv:=(xJ.mono (B':=fun b=>B b∧b<w2.heap.size) fun b x y=>⟨x,y⟩).frame (w':=w3) fun b hb=>hw3.block b hb.2 id
 have hd:=Vl (a:=qV) (hs.nw hz (hw.trans hw3)) Kv (fun k hk hb=>absurd (hB _ hb.1) (Nat.not_le.2 (hz k hk))) (hF.ok h ⟨by decide,by decide⟩) (by rw [hF.steps];decide) hact
 rw [show oD qV=.agg #[.int .i64 2,.int .i64 0,.int .i64 0,.int .i64 24,.int .i64 0,.int .i64 0,.int .i64 0,.int .i64 0,.bool false,.int .i64 0,.int .i64 0,.int .i64 0,.int .i64 1,.bool false] from rfl] at hd
 have A2:Aside ((qU p0 85 m∧p0.act qV=(p,some ⟨Wd.zero,true⟩))∧(∀b,B b→w1.heap.size≤b)∧Nw w1 w3):=⟨⟨hF,hact⟩,hB,hw.trans hw3⟩
 clear xJ hF hB hw h1 h3 h4 h hs hz hact hp Kv hw3 A1 he
 go_wp2_with (go_at_call 32;(with_reducible refine hd.mono ?_);intro ev w4 Q9;obtain ⟨rfl,B',xJ,hB',hw4⟩:=Q9)
 have A3:Aside (jf w4 aP p B'∧(∀b,B' b→w1.heap.size≤b)∧Nw w1 w4):=by
  obtain ⟨-,q2,q3⟩:=A2.out
  refine ⟨xJ,fun b hb=>?_,QT q3 hw4 fun x hx=>q2 x hx.1⟩
  rcases hB' b hb with h | h
  ·exact Nat.le_trans q3.size h
  ·exact q2 b h.1
 clear xJ hB' hw4 hd
 go_loopg [12,13] n (fun k s i wr=>∃j:Nat,i=.int .i64 j∧j+k=n∧Aside (Cs w1 wr aP A L E N n j p s))
 case atStart =>
  obtain ⟨q1,q2,q3⟩:=A3.out
  have hn:Nw w4 (w4.alloc (.cells #[] 45)):=(bU.refl _ _).alloc _
  refine ⟨0,rfl,by omega,⟨fun _=>0,fun b=>B' b∧b<w4.heap.size,lW.nil ((q1.mono (B':=fun b=>B' b∧b<w4.heap.size) fun b x y=>⟨x,y⟩).frame fun b hb=>heap_alloc_old _ _ hb.2),⟨rfl,.inr ⟨w4.heap.size,0,#[],rfl,q3.size,sI _ _,Nat.le_refl _,Nat.zero_le _,rfl,rfl⟩⟩,fun b hb=>⟨q2 b hb.1,?_,fun e=>?_⟩⟩,q3.alloc _⟩
  ·have:=hb.2
   simp
   omega
  ·have e:=Option.some.inj e
   have:=hb.2
   simp at e
   omega
 case round =>
  obtain ⟨j,rfl,hjk,hY⟩:=hrel
  rcases Nat.lt_or_ge j n with hlt | hge
  ·have hlt':(j:Int)<(n:Int):=by omega
   obtain ⟨⟨aW,F,Ct,hown,hF⟩,hnw⟩:=hY.out
   obtain ⟨⟨cL,Z6⟩,Zl,aaT⟩:=(AO.out.nw hnw).ex j hlt
   have hr:=Od E j n N A0.out.1 ⟨by omega,by omega⟩ (by have:=A0.out.2.1;omega) A0.out.2.2.1 wr
   generalize hxs:(List.range j).map (fun i=>Value.pointer (some (⟨aW i,0,none⟩:Addr)))=xs at hown
   have A4:Aside ((j+gk=n∧j<n∧(List.range j).map (fun i=>Value.pointer (some (⟨aW i,0,none⟩:Addr)))=xs)∧lW wr aP aW A w1.heap.size j p (fun i=>Wk.new E i n N (L i)) F∧(∀b,F b→w1.heap.size≤b∧b<wr.heap.size∧u12.ownBlock≠some b)∧Nw w1 wr):=⟨⟨hjk,hlt,hxs⟩,Ct,hF,hnw⟩
   have hsz:=hnw.size
   have hj6:j<6:=by have:=A0.out.2.1;omega
   clear hjk hlt hxs Ct hF hnw hY Zl aaT
   go_wp2_with (first
     | (go_at_call 34;(with_reducible refine hr.mono ?_);intro ev w5 hp5;obtain ⟨ρ,ν,rfl,hR,sJ⟩:=hp5;have aaU:=sJ.dD Z6)
     | (at_builtin;refine wpList_append_own_at _ rfl _ _ 30 rfl w1.heap.size 45 i0 (.pointer none) 1 8 Tryz.underlying30 hi hy0 hy1 hy2 rfl (by decide) _ _ _ rfl (((Rc hown sJ).alloc _).alloc _) _ 1 1 [.pointer (some ⟨w5.heap.size,0,none⟩)] rfl rfl ?c1 ?c2 ?c3 ?c4 ?c5 ?_)
     | fail)
   case c1 =>
    intro i u hi'
    match i,hi' with
    | 0,hi'=>simp at hi';subst hi';simp [Addr.add]
    | i+1,hi'=>simp at hi'
   case c2=>intro u hu;simp at hu;subst hu;rfl
   case c3=>unfold maxLen;omega
   case c4=>omega
   case c5 =>
    have:=sJ.size
    simp
    omega
   ·intro v' w6 hown' hgrow _ hat
    obtain ⟨⟨q1,q2,q3⟩,Ct,hF,hnw⟩:=A4.out
    obtain ⟨Rf,hR2,xK,vz⟩:=hR
    have YL:=sJ.size
    have Kw:∀b,b<w5.heap.size+1→u12.ownBlock≠some b→w6.heap[b]?=(w5.alloc (.cells #[.pointer (some (ν 0)),.slice (some ⟨A j,0,none⟩) (L j).length cL,.pointer none,.bool false,.slice none 0 0] 44)).heap[b]?:=fun b hb hn=>by
     rw [hgrow.block b (by simp;omega) fun e=>hn e.symm]
     exact heap_alloc_old _ _ (by simp;omega)
    have hlt:=hown.lt
    have hold:∀b,wr.heap.size≤b→u12.ownBlock≠some b:=fun b hb e=>absurd (hlt b e).2 (Nat.not_lt.2 hb)
    have h6:w5.heap.size+2≤w6.heap.size:=by
     have:=hgrow.size
     simp at this
     omega
    have Z7:=AO.out.ex
    have Er:∀i,i<n→A i<w1.heap.size:=fun i hi=>(Z7 i hi).2.2
    have Gi:∀i,i<n→u12.ownBlock≠some (A i):=fun i hi e=>by
     have:=(hlt _ e).1
     have:=Er i hi
     omega
    have TZ:∀i,i<n→w6.heap[A i]?=wr.heap[A i]?:=fun i hi=>by
     have:=Er i hi
     have hs:=hnw.size
     rw [Kw _ (by omega) (Gi i hi),heap_alloc_old _ _ (by omega)]
     exact sJ.block _ (by omega) id
    have Vz:lW w6 aP aW A w1.heap.size j p (fun i=>Wk.new E i n N (L i)) F:=Ct.frame (fun b hb Rh=>by
      rcases Rh with Rh | ⟨i,hi,rfl⟩
      · rw [Kw b (by omega) (hF b Rh).2.2,heap_alloc_old _ _ (by omega)]
        exact sJ.block b hb id
      · exact TZ i (by omega)) (by omega)
    have Z8:aK ρ ν dB w6:=Rf.Eg xh fun b hb=>by
     have h1:=vz b hb
     have h2:=pg Rf hb
     rw [Kw b (by omega) (hold b h1),heap_alloc_old _ _ h2]
    have VA:mX w6 (A j) (L j):=((AO.out.nw hnw).ex j q2).2.1.frame (TZ j q2)
    have hs1:=hnw.size
    have Z9:=WJ (base:=w1.heap.size) (A:=A j) (c:=cL) (l:=L j) Z8 hR2 xK (fun h=>absurd (pg Rf h) (Nat.lt_irrefl _)) (by have:=Er j q2;omega) (by have:=Er j q2;omega) (fun h=>by have:=vz _ h;have:=Er j q2;omega) VA (by
      rw [Kw _ (by omega) (hold _ YL)]
      exact sI _ _)
    have hadd:=Vz.add Z9 (fun b hb Rh=>by
      have h1:=(hF b Rh).2.1
      rcases hb with rfl | hb
      · omega
      · have:=vz b hb
        omega) (fun i hi hb=>by
      have:=Er i (by omega)
      rcases hb with e | hb
      · omega
      · have:=vz _ hb
        omega) (fun hb=>by have:=(hF _ hb).1;have:=Er j q2;omega) (fun hb=>by
      have:=Er j q2
      rcases hb with e | hb
      · omega
      · have:=vz _ hb
        omega)
    have hY:Cs w1 w6 aP A L E N n (j+1) p v':=by
     refine ⟨⟨oI aW j w5.heap.size,_,cast (congrArg (fun M=>lW w6 aP (oI aW j w5.heap.size) A w1.heap.size (j+1) p M _) ?_) hadd,?_,fun b hb=>?_⟩,Aj ((hnw.trans sJ).alloc _ |>.alloc _) hgrow fun g hg=>?_⟩
     ·exact YJ (fun i:Nat=>Wk.new E i n N (L i)) j
     ·have e:(List.range (j+1)).map (fun i=>Value.pointer (some (⟨oI aW j w5.heap.size i,0,none⟩:Addr)))=xs ++ [.pointer (some ⟨w5.heap.size,0,none⟩)]:=by
       rw [List.range_succ,List.map_append,List.map_cons,List.map_nil,dJ,←q3]
       congr 1
       refine List.map_congr_left fun i hi=>?_
       rw [ig _ _ (Nat.ne_of_lt (List.mem_range.1 hi))]
      rw [e]
      exact hown'
     ·have LH:b<w5.heap.size+2→u12.ownBlock≠some b→v'.ownBlock≠some b:=fun h1 h2 h3=>by
       rcases hat with h | h
       ·exact h2 (h.symm.trans h3)
       ·rw [h,Option.some.injEq] at h3
        omega
      rcases hb with hb | rfl | hb
      ·obtain ⟨a1,a2,a3⟩:=hF b hb
       exact ⟨a1,by omega,LH (by omega) a3⟩
      ·exact ⟨by omega,by omega,LH (by omega) (hold _ YL)⟩
      ·have a1:=vz b hb
       have a2:=pg Rf hb
       exact ⟨by omega,by omega,LH (by omega) (hold _ a1)⟩
     ·exact (hlt g hg).1
    have A5:Aside (Cs w1 w6 aP A L E N n (j+1) p v'):=hY
    clear hY hadd Z9 Z8 Vz h6 hold hlt Kw YL Rf hR2 xK vz Ct hF hnw hown' hgrow hat hown hr sJ Z7 Er Gi TZ VA aaU Z6
    go_wp2
    go_roundg (gk-1)
    case measure=>omega
    case rel=>exact ⟨j+1,by go_num,by omega,A5.out⟩
  ·have hlt':¬(j:Int)<(n:Int):=by omega
   have hjn:j=n:=by omega
   subst hjn
   have A4:Aside (Cs w1 wr aP A L E N j j p u12):=hY.out
   obtain ⟨g,c,rfl⟩:∃g c,u12=.slice (some ⟨g,0,none⟩) j c:=by
    obtain ⟨⟨aM,F,-,hown,-⟩,-⟩:=hY.out
    obtain ⟨-,h2 | ⟨g,cap,cur,h2,-⟩⟩:=hown
    ·have:=A0.out.2.1
     omega
    ·exact ⟨g,cap,h2⟩
   clear hY
   go_wp2
   go_ret2
   obtain ⟨⟨q1,q2⟩,-⟩:=A2.out
   exact ⟨aP,g,c,rfl,p,A4.out,p0,q1,q2⟩
theorem Cs.run {w w':World} {aP:Addr} {E N:Int} {n g c:Nat} {p:PS} (h:Cs w w' aP A L E N n n p (.slice (some ⟨g,0,none⟩) n c)) :
  ∃aW,jg w w' aP aW A w.heap.size g n p (fun i=>Wk.new E i n N (L i)):=by
 obtain ⟨⟨aW,F,Ct,hown,hF⟩,hnw⟩:=h
 refine ⟨aW,⟨F,Ct,fun b hb=>⟨(hF b hb).1,fun e=>(hF b hb).2.2 (by rw [e];rfl)⟩⟩,fun i hi=>?_,hnw,hnw.size⟩
 have hc:=hown.cells (g:=g) rfl i (.pointer (some ⟨aW i,0,none⟩)) (by simp [hi])
 rw [←hc]
 congr 1
 unfold Addr.add
 split
 ·rename_i h;subst h;rfl
 ·simp
end
def nL:List (Nat × TypeId × TypeId):=[(0,224,249),(1,224,249),(4,224,249),(5,224,249),(7,224,249),(6,224,249)]
def sM:dX:={f:=8,nv:=1,gl:=gI nL 0,args:=[],hp:=jd 36 nL 0,jc:=1,ret:=.w (.one (.bool (.lit true))),hp':=List.replicate 12 eG}
def YM:dX:={f:=31,nv:=1,hp:=[{t:=163,cs:=[.int .i64 (.var 0),.iface 224 (.ptr {aD:=1})],ro:=true},{t:=500000+249,cs:=[.hole],ro:=true}],args:=[.one (.iface 161 (.ptr {aD:=0})),.one (.iface 224 (.ptr {aD:=1}))],jc:=1,ret:=.w (.one (.bool (.lit true))),hp':=[eG,eG]}
end Go.Proofs.YthomdlajobnmnaaGreatDoor
