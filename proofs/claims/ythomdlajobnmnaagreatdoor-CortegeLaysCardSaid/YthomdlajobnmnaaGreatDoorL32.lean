/- part 32 of the proof -/
import Derived.Tactics
import Derived.Tactics2
import Derived.Deep.QuietTactic
import Derived.BigQuiet
import Derived.Maps.AppendAt
import Derived.Test.YthomdlajobnmnaaGreatDoorL18
import Derived.Test.YthomdlajobnmnaaGreatDoorL24
import Derived.Test.YthomdlajobnmnaaGreatDoorL25
import Derived.Test.YthomdlajobnmnaaGreatDoorL26
import Derived.Test.YthomdlajobnmnaaGreatDoorL27
import Derived.Test.YthomdlajobnmnaaGreatDoorL28
import Derived.Test.YthomdlajobnmnaaGreatDoorL29
import Derived.Test.YthomdlajobnmnaaGreatDoorL30
import Derived.Test.YthomdlajobnmnaaGreatDoorL31
set_option linter.unusedSimpArgs false
set_option linter.unusedVariables false
namespace Go.Proofs.YthomdlajobnmnaaGreatDoor.Cq
open Go.RowKit Go.Rex
section
variable {I:Nat→Wk→Prop} {w:World} {b base A:Nat} {k:Wk} {aP:Addr} {p:PS} {B BP:Nat→Prop} {cZ:Nat→Addr}
set_option maxHeartbeats 40000000 in
set_option maxRecDepth 100000 in
theorem Po (HI:Bc I) (hI:I 200 k) (hW:aO w b base A k B) (hP:fu w aP p BP) (hB:zW w A B BP cZ) (hok:p.OK) (hst:p.steps≤1000000) (hbase:base≤w.heap.size)
  (hend:∀k',k.go 200=(k',none)→k'.r.step≠0∧∃p' x,p.act k'.r.acc=(p',some x)∧oZ k'.r x∧(k'.r.bM x).2=true) :
  Calls Tryz.prog 23 #[.pointer (some ⟨b,0,none⟩),.pointer (some aP)] w fun e w'=>e=.returned (.bool (k.step p).2.2)∧bz w w' b base A aP B BP (k.step p).1 (k.step p).2.1:=by
 have A0:Aside (I 200 k∧bz w w b base A aP B BP k p):=⟨hI,bz.of hW hP hB.d⟩
 clear hI hW hP
 go_enter Tryz.func23,Tryz.ntmps23
 go_wp2
 go_loopg [5] 200 (fun kk i wr=>∃s:Nat,i=.int .i64 s∧s+kk=200∧Aside (∃k1,I kk k1∧k1.go kk=k.go 200∧bz w wr b base A aP B BP k1 p))
 case atStart=>exact ⟨0,rfl,rfl,k,A0.out.1,rfl,A0.out.2⟩
 case round =>
  obtain ⟨s,rfl,hsk,hR⟩:=hrel
  obtain ⟨k1,hI1,hgo,hW1⟩:=hR.out
  obtain ⟨rb,Wj,sv0,c0,hc0,-⟩:=hW1.cells
  have lC:=hW1.busy hc0
  clear hR
  by_cases IP:s<200
  ·have hsl:(s:Int)<200:=by omega
   by_cases hb0:k1.r.step=0
   ·obtain ⟨n,rfl⟩:∃n,gk=n+1:=⟨gk-1,by omega⟩
    rw [show (decide (k1.r.step≠0))=false by simp [hb0]] at lC
    cases hj:k1.j with
    | none =>
     have q2:=hW1.K7 hj
     by_cases hi:k1.bu=true
     ·skip
      obtain ⟨b1,b2⟩:=HI.leave _ _ hI1 hb0 hj hi
      obtain ⟨-,-,-,-,-,-,-,q3,-,q5⟩:=hW1.cells
      rw [hi] at q3
      have q53:=q5 3
      have ZK:=hW1.put 3 (.bool false) k1.j false (fun h=>by cases h) (fun _=>rfl) (fun _=>rfl) (fun h=>absurd rfl h) (.inr rfl)
      obtain ⟨rb2,-,-,-,hc1,-⟩:=ZK.cells
      have hr:sU k1.r:=HI.rt _ _ hI1
      have zX:=ZK.begin hc1 hr hb0 (c:=Ca.of 2) (VU (by decide))
      rw [caV] at zX
      have A1:Aside (I n {k1 with bu:=false,r:=(k1.r.begin (Ca.of 2)).1}∧Wk.go n {k1 with bu:=false,r:=(k1.r.begin (Ca.of 2)).1}=k.go 200):=⟨b2,(UN hb0 hj hi b1).trans hgo⟩
      clear hI1 hgo hW1 b1 b2 ZK q5 hr
      go_wp2_with (first
        | (go_at_call 36;(with_reducible refine lC.mono ?_);rintro ev w1 ⟨rfl,rfl⟩)
        | (go_at_call 37;(with_reducible refine zX.mono ?_);intro ev w2 hp2;obtain ⟨rfl,hW2⟩:=hp2))
      go_roundg n
      case measure=>omega
      case rel=>exact ⟨s+1,by go_num,by omega,_,A1.out.1,A1.out.2,hW2⟩
     ·have hi':k1.bu=false:=by simpa using hi
      by_cases hl:k1.said.length≥k1.ops.length
      ·skip
       obtain ⟨-,-,-,c,-,q1,-,q3,-,-⟩:=hW1.cells
       obtain ⟨aS,cS,q4⟩:=hW1.said
       rw [hi'] at q3
       have hge:(k1.ops.length:Int)≤(k1.said.length:Int):=by omega
       have A1:Aside (bz w wr b base A aP B BP k1 p∧k1.go (n+1)=k.go 200):=⟨hW1,hgo⟩
       clear hI1 hgo hW1
       go_wp2_with (first
         | (go_at_call 36;(with_reducible refine lC.mono ?_);rintro ev w1 ⟨rfl,rfl⟩))
       go_quiet (fail)
       go_wp2
       go_ret
       have hstep:k.step p=(k1,p,false):=by
        have hgo:=(Nb (n:=n) hb0 hj hi' hl).symm.trans A1.out.2
        unfold Wk.step
        rw [←hgo]
       rw [hstep]
       exact ⟨rfl,A1.out.1.nw (Nw.drewN (bC.refl _ _) _)⟩
      ·(apply abK <;> (try assumption)) <;> assumption
    | some j=>(apply abL <;> (try assumption)) <;> assumption
   ·rw [show (decide (k1.r.step≠0))=true by simp [hb0]] at lC
    have hsl2:k1.go gk=(k1,none):=XD hb0
    apply aaf <;> assumption
  ·have hsl:¬(s:Int)<200:=by omega
   have hsl2:k1.go gk=(k1,none):=by
    obtain rfl:gk=0:=by omega
    rfl
   apply aag <;> assumption
end
end Go.Proofs.YthomdlajobnmnaaGreatDoor.Cq
namespace Go.Proofs.YthomdlajobnmnaaGreatDoor.Cq
open Go.RowKit Go.Rex
section
variable {w:World} {b base A:Nat} {k:Wk} {B:Nat→Prop}
theorem xX (h:k.idle→False):decide k.idle=false:=decide_eq_false h
set_option maxHeartbeats 4000000 in
set_option maxRecDepth 100000 in
theorem Aa (hW:aO w b base A k B):Calls Tryz.prog 50 #[.pointer (some ⟨b,0,none⟩)] w fun e w'=>e=.returned (.bool (decide k.idle))∧Nw w w':=by
 obtain ⟨rb,hc0,-⟩:=hW.Pg
 have hbq:∀q,Calls Tryz.prog 36 #[.pointer (some ⟨rb,0,none⟩)] (w.drewN q) fun e w'=>e=.returned (.bool (decide (k.r.step≠0)))∧w'=w.drewN q:=fun q=>by
  obtain ⟨R6,hc',hb⟩:=(hW.nw (Nw.drewN (bC.refl w _) q)).Pg
  obtain rfl:=pX hc0 hc'
  exact hb
 obtain ⟨aR,jv,sv,c,-,q1,q2,q3,-,-⟩:=hW.cells
 obtain ⟨aS,cS,q4⟩:=hW.said
 by_cases hb0:k.r.step=0
 ·rw [show (decide (k.r.step≠0))=false by simp [hb0]] at hbq
  cases hj:k.j with
  | some j =>
   obtain ⟨aJ,BJ,hcJ,-⟩:=hW.jb hj
   rw [xX fun h=>by have:=h.2.1;rw [hj] at this;cases this]
   clear hW q2
   go_enter Tryz.func50,Tryz.ntmps50
   go_wp2_with fail
   go_quiet (first | (go_at_call 36;(with_reducible exact Calls.quiet_of_same (hbq _))))
   go_wp2
   go_ret
   exact ⟨rfl,Nw.drewN (bC.refl _ _) _⟩
  | none =>
   have hcJ:=hW.K7 hj
   clear q2
   by_cases hi:k.bu=true
   ·rw [hi] at q3
    rw [xX fun h=>by have:=h.2.2.1;rw [hi] at this;cases this]
    clear hW
    go_enter Tryz.func50,Tryz.ntmps50
    go_wp2_with fail
    go_quiet (first | (go_at_call 36;(with_reducible exact Calls.quiet_of_same (hbq _))))
    go_wp2
    go_ret
    exact ⟨rfl,Nw.drewN (bC.refl _ _) _⟩
   ·have hi':k.bu=false:=by simpa using hi
    rw [hi'] at q3
    by_cases hl:k.said.length≥k.ops.length
    ·have hl1:(k.ops.length:Int)≤(k.said.length:Int):=by omega
     rw [show decide k.idle=true from decide_eq_true ⟨hb0,hj,hi',hl⟩]
     clear hW
     go_enter Tryz.func50,Tryz.ntmps50
     go_wp2_with fail
     go_quiet (first | (go_at_call 36;(with_reducible exact Calls.quiet_of_same (hbq _))))
     go_wp2
     go_ret
     exact ⟨by simp,Nw.drewN (bC.refl _ _) _⟩
    ·have hl1:¬(k.ops.length:Int)≤(k.said.length:Int):=by omega
     rw [xX fun h=>hl h.2.2.2]
     clear hW
     go_enter Tryz.func50,Tryz.ntmps50
     go_wp2_with fail
     go_quiet (first | (go_at_call 36;(with_reducible exact Calls.quiet_of_same (hbq _))))
     go_wp2
     go_ret
     exact ⟨by simp,Nw.drewN (bC.refl _ _) _⟩
 ·rw [show (decide (k.r.step≠0))=true by simp [hb0]] at hbq
  rw [xX fun h=>hb0 h.1]
  clear hW
  go_enter Tryz.func50,Tryz.ntmps50
  go_wp2_with fail
  go_quiet (first | (go_at_call 36;(with_reducible exact Calls.quiet_of_same (hbq _))))
  go_wp2
  go_ret
  exact ⟨rfl,Nw.drewN (bC.refl _ _) _⟩
end
end Go.Proofs.YthomdlajobnmnaaGreatDoor.Cq
namespace Go.Proofs.YthomdlajobnmnaaGreatDoor.Cq
open Go.RowKit Go.Rex
structure jC (w1 w:World) (aP:Addr) (aW A:Nat→Nat) (base g n:Nat) (p:PS) (W:Nat→Wk):Prop where
 cr:∃F:Nat→Prop,jf w aP aW A base n p W F∧∀b,F b→w1.heap.size≤b∧b≠g
 row:∀i,i<n→w.cell? ⟨g,i,none⟩=some (.pointer (some ⟨aW i,0,none⟩))
 nw:Nw w1 w
 hbase:base≤w.heap.size
section
variable {w1 w w':World} {aP:Addr} {aW A:Nat→Nat} {base g n i:Nat} {p:PS} {W:Nat→Wk} {I:Nat→Wk→Prop} {cZ:Nat→Addr}
theorem jC.wk (R:jC w1 w aP aW A base g n p W) (hi:i<n):∃B,aO w (aW i) base (A i) (W i) B:=by
 obtain ⟨F,hC,-⟩:=R.cr
 obtain ⟨BP,BM,h1,h2,-⟩:=hC.ex
 exact ⟨_,h2 i hi⟩
theorem jC.more (R:jC w1 w aP aW A base g n p W) (hn:Nw w w'):jC w1 w' aP aW A base g n p W:=by
 obtain ⟨F,hC,hF⟩:=R.cr
 exact ⟨⟨F,hC.frame (fun b hb _=>hn.block b hb id) hn.size,hF⟩,fun i hi=>hn.fw (R.row i hi),R.nw.trans hn,Nat.le_trans R.hbase hn.size⟩
theorem jC.step (R:jC w1 w aP aW A base g n p W) (hi:i<n) (HI:Bc I) (hI:I 200 (W i)) (hs:jA w1 cZ) (hz:∀j,j<8→(cZ j).block<w1.heap.size) (hok:p.OK) (hst:p.steps≤1000000)
  (hend:∀k',(W i).go 200=(k',none)→k'.r.step≠0∧∃p' x,p.act k'.r.acc=(p',some x)∧oZ k'.r x∧(k'.r.bM x).2=true) :
  Calls Tryz.prog 23 #[.pointer (some ⟨aW i,0,none⟩),.pointer (some aP)] w fun e w'=>e=.returned (.bool ((W i).step p).2.2)∧jC w1 w' aP aW A base g n ((W i).step p).2.1 (lS W i ((W i).step p).1):=by
 obtain ⟨F,hC,hF⟩:=R.cr
 have hAF:¬F (A i):=by
  obtain ⟨BP,BM,-,-,-,-,-,-,h7⟩:=hC.ex
  exact h7 i hi
 obtain ⟨BP,B,hP,hW,hd,lD,hBl,R8,cont⟩:=hC.abE hi
 have hsn:jA w cZ:=hs.frame R.nw.size fun j hj=>R.nw.block _ (hz j hj) id
 have hB:zW w (A i) B BP cZ:=⟨hd,hBl,lD,⟨fun q=>hAF (R8 _ (.inl q)),hW.self.2.2⟩,hsn,fun j hj=>⟨fun q=>absurd (hF _ (R8 _ (.inr q))).1 (Nat.not_le.2 (hz j hj)),fun q=>absurd (hF _ (R8 _ (.inl q))).1 (Nat.not_le.2 (hz j hj)),Nat.lt_of_lt_of_le (hz j hj) R.nw.size⟩⟩
 refine (Po HI hI hW hP hB hok hst R.hbase hend).mono ?_
 rintro e w' ⟨he,hO⟩
 obtain ⟨B',oq,g1,g2,g3,g4,g5,g6⟩:=hO.ex
 have hg:g<w.heap.size:=World.block_lt_of_cell? _ _ (R.row i hi)
 refine ⟨he,⟨_,cont w' _ _ oq B' g1 g2 g3 g4 g5 g6,fun b hb=>?_⟩,fun j hj=>?_,vQ R.nw g6 fun x hx=>(hF x (R8 x hx)).1,Nat.le_trans R.hbase g6.size⟩
 ·rcases hb with hb | hb
  ·exact hF b hb
  ·exact ⟨Nat.le_trans R.nw.size hb,by omega⟩
 ·rw [←R.row j hj]
  exact mr (g6.block g hg fun q=>(hF g (R8 g q)).2 rfl) j
end
structure Ends (n:Nat) (S:Nat→Nat→PS→(Nat→Wk)→Prop):Prop where
 acc:∀k m p W,S k m p W→k<n→∃I,Bc I∧I 200 (W k)∧p.OK∧p.steps≤1000000∧∀k',(W k).go 200=(k',none)→k'.r.step≠0∧∃p' x,p.act k'.r.acc=(p',some x)∧oZ k'.r x∧(k'.r.bM x).2=true
 step:∀k m p W,S k m p W→k<n→∃w' p' b,(W k).step p=(w',p',b)∧((b=true∧∃m',m'<m∧S k m' p' (lS W k w'))∨(b=false∧w'.idle∧∃m',S k m' p' (lS W k w')))
 next:∀k m p W,S k m p W→k<n→(W k).idle→∃m',m'≤39999∧S (k+1) m' p W
section
variable {w1 w:World} {aP:Addr} {aW A:Nat→Nat} {base g n c:Nat} {p:PS} {W:Nat→Wk} {cZ:Nat→Addr} {S:Nat→Nat→PS→(Nat→Wk)→Prop}
set_option maxHeartbeats 4000000 in
set_option maxRecDepth 100000 in
theorem R9 (HS:Ends n S) (R:jC w1 w aP aW A base g n p W) {m0:Nat} (h0:S 0 m0 p W) (hm:m0≤39999) (hn:n≤6) (hs:jA w1 cZ) (hz:∀j,j<8→(cZ j).block<w1.heap.size) :
  Calls Tryz.prog 22 #[.pointer (some aP),.slice (some ⟨g,0,none⟩) n c] w fun e w'=>e=.returned (.bool true)∧∃m p' W',S n m p' W'∧jC w1 w' aP aW A base g n p' W':=by
 have A0:Aside (S 0 m0 p W∧jC w1 w aP aW A base g n p W):=⟨h0,R⟩
 clear h0 R
 go_enter Tryz.func22,Tryz.ntmps22
 go_wp2
 go_loopg [5] n (fun kk i wr=>∃k:Nat,i=.int .i64 k∧k+kk=n∧Aside (∃m p W,S k m p W∧m≤39999∧jC w1 wr aP aW A base g n p W))
 case atStart=>exact ⟨0,rfl,by omega,m0,p,W,A0.out.1,hm,A0.out.2⟩
 case round =>
  obtain ⟨k,rfl,hkk,hR⟩:=hrel
  by_cases hkn:k<n
  ·have hk1:(k:Int)<(n:Int):=by omega
   have hk0:(0:Int)≤(k:Int):=by omega
   have A1:Aside (∃m p W,S k m p W∧m≤39999∧jC w1 wr aP aW A base g n p W):=hR.out
   clear hR
   obtain ⟨gk0,hgk⟩:∃x,x=gk:=⟨_,rfl⟩
   go_wp2_with fail
   go_loopg [6] 40000 (fun kk i wq=>∃s:Nat,i=.int .i64 s∧s+kk=40000∧Aside (∃m p W,S k m p W∧(m+s≤39999∨(W k).idle)∧jC w1 wq aP aW A base g n p W))
   case atStart =>
    obtain ⟨m,p,W,h1,h2,h3⟩:=A1.out
    exact ⟨0,rfl,rfl,m,p,W,h1,.inl h2,h3⟩
   case round =>
    obtain ⟨s,rfl,hsk,hR⟩:=hrel
    obtain ⟨m,p,W,h1,h2,h3⟩:=hR.out
    obtain ⟨B0,hW0⟩:=h3.wk hkn
    have hrow:=h3.row k hkn
    have Ll:=Aa hW0
    clear hR hW0
    by_cases hid:(W k).idle
    ·rw [decide_eq_true hid] at Ll
     obtain ⟨m',g1,g2⟩:=HS.next k m p W h1 hkn hid
     have A2:Aside (S (k+1) m' p W∧m'≤39999∧jC w1 wr aP aW A base g n p W):=⟨g2,g1,h3⟩
     have U5:∀wx,Nw wr wx→Calls Tryz.prog 50 #[.pointer (some ⟨aW k,0,none⟩)] wx fun e w'=>e=.returned (.bool true)∧Nw wx w':=fun wx hn=>by
      obtain ⟨B1,hW1⟩:=(h3.more hn).wk hkn
      have:=Aa hW1
      rw [decide_eq_true hid] at this
      exact this
     clear h1 h2 h3 g1 g2 Ll
     by_cases hs4:s<40000
     ·have hs5:(s:Int)<40000:=by omega
      go_wp2_with (first
        | (go_at_call 50;(with_reducible refine (U5 _ (bC.refl _ _)).mono ?_);rintro ev w3 ⟨rfl,nG⟩;have hrow3:=nG.fw hrow)
        | (go_at_call 50;(with_reducible refine (U5 _ nG).mono ?_);rintro ev w4 ⟨rfl,Qk⟩))
      go_roundg (gk0-1)
      case measure=>omega
      case rel=>exact ⟨k+1,by go_num,by omega,m',p,W,A2.out.1,A2.out.2.1,A2.out.2.2.more (nG.trans Qk)⟩
     ·have hs5:¬(s:Int)<40000:=by omega
      go_wp2_with (first
        | (go_at_call 50;(with_reducible refine (U5 _ (bC.refl _ _)).mono ?_);rintro ev w3 ⟨rfl,nG⟩))
      go_roundg (gk0-1)
      case measure=>omega
      case rel=>exact ⟨k+1,by go_num,by omega,m',p,W,A2.out.1,A2.out.2.1,A2.out.2.2.more nG⟩
    ·rw [decide_eq_false hid] at Ll
     have hms:=h2.resolve_right hid
     have hs5:(s:Int)<40000:=by omega
     obtain ⟨I,hI1,hI2,hI3,hI4,hI5⟩:=HS.acc k m p W h1 hkn
     obtain ⟨w',p',b,hstep,hcase⟩:=HS.step k m p W h1 hkn
     have ZL:∀wx,Nw wr wx→Calls Tryz.prog 23 #[.pointer (some ⟨aW k,0,none⟩),.pointer (some aP)] wx fun e w2=>e=.returned (.bool b)∧jC w1 w2 aP aW A base g n p' (lS W k w'):=fun wx hn=>by
      have:=(h3.more hn).step hkn hI1 hI2 hs hz hI3 hI4 hI5
      rw [hstep] at this
      exact this
     clear h2 hI1 hI2 hI3 hI4 hI5 hstep h3 h1
     rcases hcase with ⟨rfl,m',g1,g2⟩ | ⟨rfl,g0,m',g2⟩
     ·have A2:Aside (S k m' p' (lS W k w')∧m'<m):=⟨g2,g1⟩
      clear g1 g2
      go_wp2_with (first
        | (go_at_call 50;(with_reducible refine Ll.mono ?_);rintro ev w3 ⟨rfl,nG⟩;have hrow3:=nG.fw hrow)
        | (go_at_call 23;(with_reducible refine (ZL _ nG).mono ?_);rintro ev w4 ⟨rfl,vW⟩))
      go_roundg (gk-1)
      case measure=>omega
      case rel=>exact ⟨s+1,by go_num,by omega,m',p',_,A2.out.1,.inl (by have:=A2.out.2;omega),vW⟩
     ·have A2:Aside (S k m' p' (lS W k w')):=g2
      have abP:∀wx,jC w1 wx aP aW A base g n p' (lS W k w')→Calls Tryz.prog 50 #[.pointer (some ⟨aW k,0,none⟩)] wx fun e w'=>e=.returned (.bool true)∧Nw wx w':=fun wx hn=>by
       obtain ⟨B1,hW1⟩:=hn.wk hkn
       have:=Aa hW1
       rw [df,decide_eq_true g0] at this
       exact this
      clear g2
      go_wp2_with (first
        | (go_at_call 50;(with_reducible refine Ll.mono ?_);rintro ev w3 ⟨rfl,nG⟩;have hrow3:=nG.fw hrow)
        | (go_at_call 23;(with_reducible refine (ZL _ nG).mono ?_);rintro ev w4 ⟨rfl,vW⟩;have hrow4:=vW.row k hkn)
        | (go_at_call 50;(with_reducible refine (abP _ vW).mono ?_);rintro ev w5 ⟨rfl,YC⟩))
      go_roundg (gk-1)
      case measure=>omega
      case rel=>exact ⟨s+1,by go_num,by omega,m',p',_,A2.out,.inr (by rw [df];exact g0),vW.more YC⟩
  ·have hk1:¬(k:Int)<(n:Int):=by omega
   obtain rfl:k=n:=by omega
   obtain ⟨m,p,W,h1,h2,h3⟩:=hR.out
   have A1:Aside (S k m p W∧jC w1 wr aP aW A base g k p W):=⟨h1,h3⟩
   clear hR h1 h2 h3
   go_wp2
   go_ret
   exact ⟨rfl,m,p,W,A1.out⟩
end
end Go.Proofs.YthomdlajobnmnaaGreatDoor.Cq
namespace Go.Proofs.YthomdlajobnmnaaGreatDoor.Cq
open Go.RowKit Go.Rex
theorem XL:(Tryz.prog.info? 63).map (fun i=>(i.zero,i.size,i.bytes))=some (some (.pointer none),1,8):=by kernel_rfl
structure Bd (w:World) (gO n:Nat) (A:Nat→Nat) (L:Nat→List Op):Prop where
 ex:∀i,i<n→(∃c,w.cell? ⟨gO,i,none⟩=some (.slice (some ⟨A i,0,none⟩) (L i).length c))∧lq w (A i) (L i)∧A i<w.heap.size
theorem Bd.nw {w w':World} {gO n:Nat} {A:Nat→Nat} {L:Nat→List Op} (h:Bd w gO n A L) (hn:Nw w w'):Bd w' gO n A L :=
 ⟨fun i hi=>by
   obtain ⟨⟨c,h1⟩,h2,h3⟩:=h.ex i hi
   exact ⟨⟨c,hn.fw h1⟩,h2.frame (hn.block _ h3 id),Nat.lt_of_lt_of_le h3 hn.size⟩⟩
structure Dg (w0 w:World) (aP:Addr) (A:Nat→Nat) (L:Nat→List Op) (E N:Int) (n j:Nat) (p:PS) (s:Value):Prop where
 ex:∃aW F,jf w aP aW A w0.heap.size j p (fun i=>Wk.new E i n N (L i)) F∧w.ownsRow w0.heap.size 63 1 s j ((List.range j).map fun i=>.pointer (some ⟨aW i,0,none⟩))∧∀b,F b→w0.heap.size≤b∧b<w.heap.size∧s.ownBlock≠some b
 nw:Nw w0 w
section
variable {A:Nat→Nat} {L:Nat→List Op}
set_option maxHeartbeats 4000000 in
set_option maxRecDepth 100000 in
theorem Sa (E N m:Int) (n gO cO:Nat) (h1:1≤E∧E≤5) (h3:1≤n∧n≤6) (h4:1≤N∧N≤64) (h:0<m∧m≤1024) (w:World) (hO:Bd w gO n A L) (cZ:Nat→Addr) (hs:jA w cZ) (hz:∀k,k<8→(cZ k).block<w.heap.size) :
  Calls Tryz.prog 21 #[.int .i64 E,.int .i64 N,.int .i64 m,.slice (some ⟨gO,0,none⟩) n cO] w fun e w'=>∃aP g c p,e=.returned (.tuple #[.pointer (some aP),.slice (some ⟨g,0,none⟩) n c])∧Dg w w' aP A L E N n n p (.slice (some ⟨g,0,none⟩) n c)∧Laid m p:=by
 obtain ⟨i0,hi,hy0,hy1,hy2⟩:=info_parts XL
 have hc:=EO w
 have hp:=xM m ⟨by omega,h.2⟩ w
 have A0:Aside ((1≤E∧E≤5)∧(1≤n∧n≤6)∧(1≤N∧N≤64)∧(0<m∧m≤1024)∧jA w cZ∧∀k,k<8→(cZ k).block<w.heap.size):=⟨h1,h3,h4,h,hs,hz⟩
 have AO:Aside (Bd w gO n A L):=hO
 clear h1 h3 h4 h hs hz hO
 go_enter Tryz.func21,Tryz.ntmps21
 go_wp2_with (go_at_call 17;(with_reducible refine hc.mono ?_);rintro ev w1 ⟨rfl,rfl⟩)
 go_wp2_with (go_at_call 16;(with_reducible refine hp.mono ?_);intro ev w2 hp2;obtain ⟨aP,p0,B,rfl,lD,hF,hB,hw⟩:=hp2)
 have he:=UF w2
 have A1:Aside (fu w2 aP p0 B∧xL p0 85 m∧(∀b,B b→w1.heap.size≤b)∧Nw w1 w2):=⟨lD,hF,hB,hw⟩
 clear hp hc lD hF hB hw
 go_wp2_with (go_at_call 33;(with_reducible refine he.mono ?_);rintro ev w3 ⟨rfl,hw3⟩)
 obtain ⟨lD,hF,hB,hw⟩:=A1.out
 obtain ⟨h1,h3,h4,h,hs,hz⟩:=A0.out
 obtain ⟨p1,p2,p3,p,⟨hact,x2,x3,x4⟩,⟨o1,o2,o3⟩,⟨t1,t2,t3⟩,hL⟩:=UU hF h
 have ZM:=(lD.mono (B':=fun b=>B b∧b<w2.heap.size) fun b x y=>⟨x,y⟩).frame (w':=w3) fun b hb=>hw3.block b hb.2 id
 have hd:=EI (a:=EP) (hs.nw hz (hw.trans hw3)) ZM (fun k hk hb=>absurd (hB _ hb.1) (Nat.not_le.2 (hz k hk))) (hF.ok ⟨by omega,h.2⟩ ⟨by decide,by decide⟩) (by rw [hF.steps];decide) hact
 rw [show mX EP=.agg #[.int .i64 2,.int .i64 0,.int .i64 0,.int .i64 24,.int .i64 0,.int .i64 0,.int .i64 0,.int .i64 0,.bool false,.int .i64 0,.int .i64 0,.int .i64 0,.int .i64 1,.bool false] from rfl] at hd
 have AX:Aside ((p1.OK∧p2.OK∧p3.OK)∧(p1.steps=1∧p2.steps=2∧p3.steps=3)∧p1.act ⟨4,0,0,0,Wd.zero,Wd.zero⟩=(p2,some ⟨⟨1,1,0,0,false⟩,true⟩)∧p2.act (Ac.store 0 0 0 ⟨1,1,0,0,false⟩)=(p3,some ⟨Wd.zero,true⟩)∧p3.act (Ac.store 0 0 1 ⟨1,1,0,0,false⟩)=(p,some ⟨Wd.zero,true⟩)):=⟨⟨o1,o2,o3⟩,⟨t1,t2,t3⟩,x2,x3,x4⟩
 have A2:Aside (Laid m p∧(∀b,B b→w1.heap.size≤b)∧Nw w1 w3):=⟨hL,hB,hw.trans hw3⟩
 clear lD hF hB hw h1 h3 h4 h hs hz hact ZM hw3 A1 he hL x2 x3 x4 o1 o2 o3 t1 t2 t3
 go_wp2_with (go_at_call 32;(with_reducible refine hd.mono ?_);intro ev Sb zZ;obtain ⟨rfl,B1,lD,hB',hw4⟩:=zZ)
 have A3':Aside (fu Sb aP p1 B1∧(∀b,B1 b→w1.heap.size≤b)∧Nw w1 Sb):=by
  obtain ⟨-,q2,q3⟩:=A2.out
  refine ⟨lD,fun b hb=>?_,vQ q3 hw4 fun x hx=>q2 x hx.1⟩
  rcases hB' b hb with h | h
  ·exact Nat.le_trans q3.size h
  ·exact q2 b h.1
 clear lD hB' hw4 hd
 have hl:Calls Tryz.prog 18 #[.pointer (some aP)] Sb fun e w'=>e=.returned .nilIface∧∃B',fu w' aP p B'∧(∀b,B' b→Sb.heap.size≤b∨B1 b)∧bC Sb B1 w':=by
  obtain ⟨q1,q2,q3⟩:=A3'.out
  obtain ⟨-,-,-,-,hs,hz⟩:=A0.out
  obtain ⟨⟨o1,o2,o3⟩,⟨t1,t2,t3⟩,x2,x3,x4⟩:=AX.out
  exact RX (hs.nw hz q3) q1 (fun k hk hb=>absurd (q2 _ hb) (Nat.not_le.2 (hz k hk))) (fun k hk=>Nat.lt_of_lt_of_le (hz k hk) q3.size) ⟨o1,o2,o3⟩ ⟨by omega,by omega,by omega⟩ x2 x3 x4
 go_wp2_with (go_at_call 18;(with_reducible refine hl.mono ?_);intro ev w4 zZ;obtain ⟨rfl,B',lD,hB',hw4⟩:=zZ)
 have A3:Aside (fu w4 aP p B'∧(∀b,B' b→w1.heap.size≤b)∧Nw w1 w4):=by
  obtain ⟨-,q2,q3⟩:=A3'.out
  refine ⟨lD,fun b hb=>?_,vQ q3 hw4 fun x hx=>q2 x hx⟩
  rcases hB' b hb with h | h
  ·exact Nat.le_trans q3.size h
  ·exact q2 b h
 clear lD hB' hw4 hl
 go_loopg [12,13] n (fun k s i wr=>∃j:Nat,i=.int .i64 j∧j+k=n∧Aside (Dg w1 wr aP A L E N n j p s))
 case atStart =>
  obtain ⟨q1,q2,q3⟩:=A3.out
  have hn:Nw w4 (w4.alloc (.cells #[] 63)):=(bC.refl _ _).alloc _
  refine ⟨0,rfl,by omega,⟨fun _=>0,fun b=>B' b∧b<w4.heap.size,jf.nil ((q1.mono (B':=fun b=>B' b∧b<w4.heap.size) fun b x y=>⟨x,y⟩).frame fun b hb=>heap_alloc_old _ _ hb.2),⟨rfl,.inr ⟨w4.heap.size,0,#[],rfl,q3.size,mD _ _,Nat.le_refl _,Nat.zero_le _,rfl,rfl⟩⟩,fun b hb=>⟨q2 b hb.1,?_,fun e=>?_⟩⟩,q3.alloc _⟩
  ·have:=hb.2
   simp
   omega
  ·have e:=Option.some.inj e
   have:=hb.2
   simp at e
   omega
 case round =>
  obtain ⟨j,rfl,hjk,hY⟩:=hrel
  rcases Nat.lt_or_ge j n with hlt | hge
  ·have hlt':(j:Int)<(n:Int):=by omega
   obtain ⟨⟨aW,F,Dh,hown,hF⟩,hnw⟩:=hY.out
   obtain ⟨⟨cL,hcO⟩,aah,abQ⟩:=(AO.out.nw hnw).ex j hlt
   have hr:=OU E j n N A0.out.1 ⟨by omega,by omega⟩ (by have:=A0.out.2.1;omega) A0.out.2.2.1 wr
   generalize hxs:(List.range j).map (fun i=>Value.pointer (some (⟨aW i,0,none⟩:Addr)))=xs at hown
   have A4:Aside ((j+gk=n∧j<n∧(List.range j).map (fun i=>Value.pointer (some (⟨aW i,0,none⟩:Addr)))=xs)∧jf wr aP aW A w1.heap.size j p (fun i=>Wk.new E i n N (L i)) F∧(∀b,F b→w1.heap.size≤b∧b<wr.heap.size∧u12.ownBlock≠some b)∧Nw w1 wr):=⟨⟨hjk,hlt,hxs⟩,Dh,hF,hnw⟩
   have hsz:=hnw.size
   have hj6:j<6:=by have:=A0.out.2.1;omega
   clear hjk hlt hxs Dh hF hnw hY aah abQ
   go_wp2_with (first
     | (go_at_call 34;(with_reducible refine hr.mono ?_);intro ev w5 hp5;obtain ⟨ρ,ν,rfl,hR,gM⟩:=hp5;have abR:=gM.fw hcO)
     | (at_builtin;refine wpList_append_own_at _ rfl _ _ 56 rfl w1.heap.size 63 i0 (.pointer none) 1 8 Tryz.underlying56 hi hy0 hy1 hy2 rfl (by decide) _ _ _ rfl (((Za hown gM).alloc _).alloc _) _ 1 1 [.pointer (some ⟨w5.heap.size,0,none⟩)] rfl rfl ?c1 ?c2 ?c3 ?c4 ?c5 ?_)
     | fail)
   case c1 =>
    intro i u hi'
    match i,hi' with
    | 0,hi'=>simp at hi';subst hi';simp [Addr.add]
    | i+1,hi'=>simp at hi'
   case c2=>intro u hu;simp at hu;subst hu;rfl
   case c3=>unfold maxLen;omega
   case c4=>omega
   case c5 =>
    have:=gM.size
    simp
    omega
   ·intro v' w6 hown' hgrow _ hat
    obtain ⟨⟨q1,q2,q3⟩,Dh,hF,hnw⟩:=A4.out
    obtain ⟨Sc,hR2,Lm,vW⟩:=hR
    have ZN:=gM.size
    have Lp:∀b,b<w5.heap.size+1→u12.ownBlock≠some b→w6.heap[b]?=(w5.alloc (.cells #[.pointer (some (ν 0)),.slice (some ⟨A j,0,none⟩) (L j).length cL,.pointer none,.bool false,.slice none 0 0] 62)).heap[b]?:=fun b hb hn=>by
     rw [hgrow.block b (by simp;omega) fun e=>hn e.symm]
     exact heap_alloc_old _ _ (by simp;omega)
    have hlt:=hown.lt
    have hold:∀b,wr.heap.size≤b→u12.ownBlock≠some b:=fun b hb e=>absurd (hlt b e).2 (Nat.not_lt.2 hb)
    have h6:w5.heap.size+2≤w6.heap.size:=by
     have:=hgrow.size
     simp at this
     omega
    have hAO:=AO.out.ex
    have Fa:∀i,i<n→A i<w1.heap.size:=fun i hi=>(hAO i hi).2.2
    have GN:∀i,i<n→u12.ownBlock≠some (A i):=fun i hi e=>by
     have:=(hlt _ e).1
     have:=Fa i hi
     omega
    have U6:∀i,i<n→w6.heap[A i]?=wr.heap[A i]?:=fun i hi=>by
     have:=Fa i hi
     have hs:=hnw.size
     rw [Lp _ (by omega) (GN i hi),heap_alloc_old _ _ (by omega)]
     exact gM.block _ (by omega) id
    have Wm:jf w6 aP aW A w1.heap.size j p (fun i=>Wk.new E i n N (L i)) F:=Dh.frame (fun b hb Sd=>by
      rcases Sd with Sd | ⟨i,hi,rfl⟩
      · rw [Lp b (by omega) (hF b Sd).2.2,heap_alloc_old _ _ (by omega)]
        exact gM.block b hb id
      · exact U6 i (by omega)) (by omega)
    have hR6:aH ρ ν dG w6:=Sc.zR xN fun b hb=>by
     have h1:=vW b hb
     have h2:=nP Sc hb
     rw [Lp b (by omega) (hold b h1),heap_alloc_old _ _ h2]
    have Wn:lq w6 (A j) (L j):=((AO.out.nw hnw).ex j q2).2.1.frame (U6 j q2)
    have hs1:=hnw.size
    have hmn:=XC (base:=w1.heap.size) (A:=A j) (c:=cL) (l:=L j) hR6 hR2 Lm (fun h=>absurd (nP Sc h) (Nat.lt_irrefl _)) (by have:=Fa j q2;omega) (by have:=Fa j q2;omega) (fun h=>by have:=vW _ h;have:=Fa j q2;omega) Wn (by
      rw [Lp _ (by omega) (hold _ ZN)]
      exact mD _ _)
    have hadd:=Wm.add hmn (fun b hb Sd=>by
      have h1:=(hF b Sd).2.1
      rcases hb with rfl | hb
      · omega
      · have:=vW b hb
        omega) (fun i hi hb=>by
      have:=Fa i (by omega)
      rcases hb with e | hb
      · omega
      · have:=vW _ hb
        omega) (fun hb=>by have:=(hF _ hb).1;have:=Fa j q2;omega) (fun hb=>by
      have:=Fa j q2
      rcases hb with e | hb
      · omega
      · have:=vW _ hb
        omega)
    have hY:Dg w1 w6 aP A L E N n (j+1) p v':=by
     refine ⟨⟨lS aW j w5.heap.size,_,cast (congrArg (fun M=>jf w6 aP (lS aW j w5.heap.size) A w1.heap.size (j+1) p M _) ?_) hadd,?_,fun b hb=>?_⟩,M0 ((hnw.trans gM).alloc _ |>.alloc _) hgrow fun g hg=>?_⟩
     ·exact Y8 (fun i:Nat=>Wk.new E i n N (L i)) j
     ·have e:(List.range (j+1)).map (fun i=>Value.pointer (some (⟨lS aW j w5.heap.size i,0,none⟩:Addr)))=xs ++ [.pointer (some ⟨w5.heap.size,0,none⟩)]:=by
       rw [List.range_succ,List.map_append,List.map_cons,List.map_nil,df,←q3]
       congr 1
       refine List.map_congr_left fun i hi=>?_
       rw [eY _ _ (Nat.ne_of_lt (List.mem_range.1 hi))]
      rw [e]
      exact hown'
     ·have Mr:b<w5.heap.size+2→u12.ownBlock≠some b→v'.ownBlock≠some b:=fun h1 h2 h3=>by
       rcases hat with h | h
       ·exact h2 (h.symm.trans h3)
       ·rw [h,Option.some.injEq] at h3
        omega
      rcases hb with hb | rfl | hb
      ·obtain ⟨a1,a2,a3⟩:=hF b hb
       exact ⟨a1,by omega,Mr (by omega) a3⟩
      ·exact ⟨by omega,by omega,Mr (by omega) (hold _ ZN)⟩
      ·have a1:=vW b hb
       have a2:=nP Sc hb
       exact ⟨by omega,by omega,Mr (by omega) (hold _ a1)⟩
     ·exact (hlt g hg).1
    have A5:Aside (Dg w1 w6 aP A L E N n (j+1) p v'):=hY
    clear hY hadd hmn hR6 Wm h6 hold hlt Lp ZN Sc hR2 Lm vW Dh hF hnw hown' hgrow hat hown hr gM hAO Fa GN U6 Wn abR hcO
    go_wp2
    go_roundg (gk-1)
    case measure=>omega
    case rel=>exact ⟨j+1,by go_num,by omega,A5.out⟩
  ·have hlt':¬(j:Int)<(n:Int):=by omega
   have hjn:j=n:=by omega
   subst hjn
   have A4:Aside (Dg w1 wr aP A L E N j j p u12):=hY.out
   obtain ⟨g,c,rfl⟩:∃g c,u12=.slice (some ⟨g,0,none⟩) j c:=by
    obtain ⟨⟨aM,F,-,hown,-⟩,-⟩:=hY.out
    obtain ⟨-,h2 | ⟨g,cap,cur,h2,-⟩⟩:=hown
    ·have:=A0.out.2.1
     omega
    ·exact ⟨g,cap,h2⟩
   clear hY
   go_wp2
   go_ret2
   obtain ⟨q1,-⟩:=A2.out
   exact ⟨aP,g,c,rfl,p,A4.out,q1⟩
theorem Dg.run {w w':World} {aP:Addr} {E N:Int} {n g c:Nat} {p:PS} (h:Dg w w' aP A L E N n n p (.slice (some ⟨g,0,none⟩) n c)) :
  ∃aW,jC w w' aP aW A w.heap.size g n p (fun i=>Wk.new E i n N (L i)):=by
 obtain ⟨⟨aW,F,Dh,hown,hF⟩,hnw⟩:=h
 refine ⟨aW,⟨F,Dh,fun b hb=>⟨(hF b hb).1,fun e=>(hF b hb).2.2 (by rw [e];rfl)⟩⟩,fun i hi=>?_,hnw,hnw.size⟩
 have hc:=hown.cells (g:=g) rfl i (.pointer (some ⟨aW i,0,none⟩)) (by simp [hi])
 rw [←hc]
 congr 1
 unfold Addr.add
 split
 ·rename_i h;subst h;rfl
 ·simp
end
end Go.Proofs.YthomdlajobnmnaaGreatDoor.Cq
namespace Go.Proofs.YthomdlajobnmnaaGreatDoor.Cq
open Go.RowKit Go.Rex
theorem ZO:Ends 1 SL where
 acc:=fun k m p W h hk=>by
  rcases h with ⟨rfl,h | h⟩ | ⟨rfl,h⟩
  ·obtain ⟨a,b,c,d⟩:=Zm h (by decide)
   exact ⟨_,RU _ _,a,b,c,d⟩
  ·obtain ⟨a,b,c,d⟩:=h.acc (by decide)
   exact ⟨_,RU _ _,a,b,c,d⟩
  ·omega
 step:=fun k m p W h hk=>by
  rcases h with ⟨rfl,h | h⟩ | ⟨rfl,h⟩
  ·obtain ⟨w',p',b,e,g⟩:=h.step
   refine ⟨w',p',b,e,?_⟩
   rcases g with ⟨rfl,m',g1,g2⟩ | ⟨rfl,rfl,g⟩
   ·exact .inl ⟨rfl,m',g1,.inl ⟨rfl,.inl (by rw [df];exact g2)⟩⟩
   ·exact .inr ⟨rfl,g.idle,0,.inl ⟨rfl,.inr (by rw [df];exact g)⟩⟩
  ·exact ⟨_,_,_,h.stay.1,.inr ⟨rfl,h.idle,0,.inl ⟨rfl,.inr (by rw [df];exact h)⟩⟩⟩
  ·omega
 next:=fun k m p W h hk hid=>by
  rcases h with ⟨rfl,h⟩ | ⟨rfl,h⟩
  ·exact ⟨0,by decide,.inr ⟨rfl,h.elim (fun h=>h.idle hid) id⟩⟩
  ·omega
end Go.Proofs.YthomdlajobnmnaaGreatDoor.Cq
namespace Go.Proofs.YthomdlajobnmnaaGreatDoor
open Go.RowKit Go.Rex
theorem tmP (x n:Int) (h:0<n) (hx:0≤x):0≤x.tmod n∧x.tmod n<n:=by
 rw [Int.tmod_eq_emod_of_nonneg hx]
 exact ⟨Int.emod_nonneg _ (by omega),Int.emod_lt_of_pos _ h⟩
theorem wrP (x:Int):0≤IntKind.u64.wrap x:=by
 simp only [IntKind.wrap,IntKind.bits,IntKind.signed]
 exact Int.emod_nonneg _ (by decide)
theorem w64 {n:Int} (h0:0≤n) (h1:n<9223372036854775808):wrap64 n=n:=by unfold wrap64;omega
theorem aai (a k:Int) (h0:0<k) (h1:k≤1000):∃n:Nat,wrap64 (1+wrap64 ((IntKind.u64.wrap a).tmod k))=(n:Int)∧1≤n∧(n:Int)≤k:=by
 have h:=tmP (IntKind.u64.wrap a) k h0 (wrP a)
 have e1:wrap64 ((IntKind.u64.wrap a).tmod k)=(IntKind.u64.wrap a).tmod k:=w64 (by omega) (by omega)
 rw [e1,w64 (by omega) (by omega)]
 exact ⟨(1+(IntKind.u64.wrap a).tmod k).toNat,by omega,by omega,by omega⟩
structure abS (n:Nat) (p:PS) (W:Nat→Wk):Prop where
 bare:abB p
 pe:∀i,i<n→∃l t,Pe (W i) l t
structure SE (n k m:Nat) (p:PS) (W:Nat→Wk):Prop where
 all:abS n p W
 few:m≤300
 now:k<n→∃l t,Pe (W k) l t∧wM (W k) l t≤m
 past:∀i,i<k→(W i).idle
 st:p.steps+(m:Int)≤501+300 * ((k:Int)+1)
theorem SE.said {n m:Nat} {p:PS} {W:Nat→Wk} (h:SE n n m p W) {i:Nat} (hi:i<n):(W i).said=[(2,0),(2,0),(2,0)]:=by
 obtain ⟨l,t,H⟩:=h.all.pe i hi
 exact H.end (h.past i hi)
end Go.Proofs.YthomdlajobnmnaaGreatDoor
