/- part of the proof -/
import Derived.Tactics
import Derived.Tactics2
import Derived.Deep.LoopGhost
import Derived.Deep.QuietTactic
import Derived.BigQuiet
import Derived.Deep.CutRange
import Derived.StillTailTactics
import Derived.Deep.RegionHeld3
import Derived.Test.YthomdlajobnmnaaGreatDoorV24
set_option linter.unusedSimpArgs false
set_option linter.unusedVariables false
namespace Go.Proofs.YthomdlajobnmnaaGreatDoor
open Go.RowKit Go.Rex
set_option maxHeartbeats 40000000 in
set_option maxRecDepth 100000 in
theorem YC
  (I:Nat→Wk→Prop)
  (w:World)
  (b base A:Nat)
  (k:Wk)
  (aP:Addr)
  (p:PS)
  (B BP:Nat→Prop)
  (dV:Nat→Addr)
  (hB:zq w A B BP dV)
  (hok:p.OK)
  (hst:p.steps≤1000000)
  (hend:∀(k':Wk),
  Wk.go 200 k=(k',none) →
    k'.r.step≠0∧∃p' x,p.act k'.r.acc=(p',some x)∧mq k'.r x∧(k'.r.bG x).snd=true)
  (D8:Act→World→Prop)
  (X8:∀(a:Act) (wz:World),
  Code.wp Tryz.prog
      D7
      (bodyPost Tryz.prog Tryz.f12 fun e w' =>
  e=Ending.returned (Value.bool (k.step p).snd.snd)∧bE w w' b base A aP B BP (k.step p).fst (k.step p).snd.fst) a wz →
    D8 a wz)
  (gk:Nat)
  (wr:World)
  (u4 u6 u7 u8 u13 u14 u15 u16 u17 u18 u19 u20 u21 u22 u23 u24 u25 u26 u27 u28 u29 u30 u31 u32 u33 u34 u35 u36 u37 u38 u39 u40 u41 u42 u43 u44 u45 u46 u47 u48 u49 u50 u51 u52 u53 u54 u55 u56 u57 u58 u59 u60 u61 u62 u63 u64 u65 u66 u67 u68 u69 u70 u71 u72 u73 u74 u75 u76 u77 u78 u79 u80 u81 u82 u83 u84 u85 u86 u87 u88 u89 u90 u91 u92 u93 u94 u95 u96 u97 u98 u99 u100 u101 u102 u103 u104 u105 u106 u107 u108 u109 u110 u111 u112 u113 u114 u115 u116 u117 u118 u119 u120 u121 u122 u123 u124 u125 u126 u127 u128 u129 u130 u131 u132 u133 u134 u135 u136:Value)
  (J8:Nat→Act→World→Prop)
  (D9:Act→World→Prop)
  (s:Nat)
  (hsk:s+gk=200)
  (k1:Wk)
  (hI1:I gk k1)
  (hgo:Wk.go gk k1=Wk.go 200 k)
  (hW1:bE w wr b base A aP B BP k1 p)
  (rb:Nat)
  (UU sv0:Value)
  (c0:Nat)
  (hc0:wr.cell? {block:=b,off:=0}=some (Value.pointer (some {block:=rb,off:=0})))
  (kF:Calls Tryz.prog 36 #[Value.pointer (some {block:=rb,off:=0})] wr fun e w' =>
  e=Ending.returned (Value.bool true)∧w'=wr)
  (Hg:s<200)
  (hsl:↑s<200)
  (hb0:¬k1.r.step=0)
  (hsl2:Wk.go gk k1=(k1,none))
  :
  Code.wp Tryz.prog
    tQ
    (Exit.then D9 (Exit.inBlock 0 (Exit.then D8 (bodyPost Tryz.prog Tryz.f12 fun e w' =>
    e=Ending.returned (Value.bool (k.step p).snd.snd)∧bE w w' b base A aP B BP (k.step p).fst (k.step p).snd.fst))))
    {
      tmps :=
        #[Value.pointer (some {block:=b,off:=0}),Value.pointer (some aP),undef,undef,u4,
          Value.int IntKind.i64 ↑s,u6,u7,u8,undef,undef,undef,undef,u13,u14,u15,u16,u17,u18,u19,u20,u21,
          u22,u23,u24,u25,u26,u27,u28,u29,u30,u31,u32,u33,u34,u35,u36,u37,u38,u39,u40,u41,u42,u43,
          u44,u45,u46,u47,u48,u49,u50,u51,u52,u53,u54,u55,u56,u57,u58,u59,u60,u61,u62,u63,u64,u65,
          u66,u67,u68,u69,u70,u71,u72,u73,u74,u75,u76,u77,u78,u79,u80,u81,u82,u83,u84,u85,u86,u87,
          u88,u89,u90,u91,u92,u93,u94,u95,u96,u97,u98,u99,u100,u101,u102,u103,u104,u105,u106,u107,
          u108,u109,u110,u111,u112,u113,u114,u115,u116,u117,u118,u119,u120,u121,u122,u123,u124,u125,
          u126,u127,u128,u129,u130,u131,u132,u133,u134,u135,u136,undef,undef,undef,undef,undef,undef,
          undef,undef,undef,undef,undef,undef,undef,undef,undef,undef,undef,undef,undef,undef,undef,
          undef,undef,undef,undef,undef,undef],
      defers:=[]}
    wr
  := by
 unfold tQ
 unfold D7 at X8
 replace hgo:k.go 200=(k1,none):=hgo.symm.trans hsl2
 obtain ⟨Ce,p',x,hact,htk,F5⟩:=hend k1 hgo
 have hnext:=hW1.next hc0 Ce
 have hstep:k.step p=({k1 with r:=(k1.r.bG x).1},p',true):=by
  unfold Wk.step
  rw [hgo]
  simp only
  rw [if_neg Ce,hact]
  simp only
  rw [F5]
 generalize k1.r.acc=ac at hnext hact
 unfold oz at hnext
 have A1:Aside (zq w A B BP dV∧p.OK∧p.steps≤1000000∧p.act ac=(p',some x)∧mq k1.r x∧k.step p=({k1 with r:=(k1.r.bG x).1},p',true)):=⟨hB,hok,hst,hact,htk,hstep⟩
 clear hstep hW1 hact htk F5 hgo Ce hI1 hend hsl2 hok hst hB
 go_wp2_with (first
   | (go_at_call 36;(with_reducible refine kF.mono ?_);rintro ev w1 ⟨rfl,rfl⟩)
   | (go_at_call 39;(with_reducible refine hnext.mono ?_);intro ev w2 hp2;obtain ⟨rfl,hW2⟩:=hp2;
      have hdo:∀wx,Nw w2 wx→_:=fun wx hn=>(hW2.nw hn).Zg A1.out.1 A1.out.2.1 A1.out.2.2.1 A1.out.2.2.2.1;
      unfold oz iA at hdo)
   | (go_at_call 32;(with_reducible refine (hdo _ ((bX.refl _ _).alloc _)).mono ?_);intro ev w4 QR;obtain ⟨rfl,Az⟩:=QR;
      obtain ⟨rb4,-,-,-,hc4,-⟩:=Az.cells;
      have xe:∀wx,Nw w4 wx→_:=fun wx hn=>(Az.nw hn).bG (hn.gY hc4) A1.out.2.2.2.2.1;
      unfold iA at xe;clear hdo))
 have h5:Nw w4 ((w4.alloc (.cells #[.int .i64 x.word.slot,.int .i64 x.word.gen,.int .i64 x.word.tag,.int .i64 x.word.num,.bool x.word.mark,.bool x.ok] 86)).drew):=Nw.drew ((bX.refl _ _).alloc _)
 have Ty:=xe _ h5
 have hc5:=h5.gY hc4
 clear xe h5 hc4 hc0
 go_region_with (first
   | (go_at_call 40;(with_reducible refine Ty.mono ?_);rintro ev w6 ⟨rfl,QQ⟩))
 all_goals (
   go_wp2
   go_ret
   rw [A1.out.2.2.2.2.2]
   exact ⟨rfl,QQ⟩)
end Go.Proofs.YthomdlajobnmnaaGreatDoor
namespace Go.Proofs.YthomdlajobnmnaaGreatDoor
open Go.RowKit Go.Rex
set_option maxHeartbeats 40000000 in
set_option maxRecDepth 100000 in
theorem YD
  (I:Nat→Wk→Prop)
  (w:World)
  (b base A:Nat)
  (k:Wk)
  (aP:Addr)
  (p:PS)
  (B BP:Nat→Prop)
  (dV:Nat→Addr)
  (hB:zq w A B BP dV)
  (hok:p.OK)
  (hst:p.steps≤1000000)
  (hend:∀(k':Wk),
  Wk.go 200 k=(k',none) →
    k'.r.step≠0∧∃p' x,p.act k'.r.acc=(p',some x)∧mq k'.r x∧(k'.r.bG x).snd=true)
  (D8:Act→World→Prop)
  (X8:∀(a:Act) (wz:World),
  Code.wp Tryz.prog
      D7
      (bodyPost Tryz.prog Tryz.f12 fun e w' =>
  e=Ending.returned (Value.bool (k.step p).snd.snd)∧bE w w' b base A aP B BP (k.step p).fst (k.step p).snd.fst) a wz →
    D8 a wz)
  (gk:Nat)
  (wr:World)
  (u4 u6 u7 u8 u13 u14 u15 u16 u17 u18 u19 u20 u21 u22 u23 u24 u25 u26 u27 u28 u29 u30 u31 u32 u33 u34 u35 u36 u37 u38 u39 u40 u41 u42 u43 u44 u45 u46 u47 u48 u49 u50 u51 u52 u53 u54 u55 u56 u57 u58 u59 u60 u61 u62 u63 u64 u65 u66 u67 u68 u69 u70 u71 u72 u73 u74 u75 u76 u77 u78 u79 u80 u81 u82 u83 u84 u85 u86 u87 u88 u89 u90 u91 u92 u93 u94 u95 u96 u97 u98 u99 u100 u101 u102 u103 u104 u105 u106 u107 u108 u109 u110 u111 u112 u113 u114 u115 u116 u117 u118 u119 u120 u121 u122 u123 u124 u125 u126 u127 u128 u129 u130 u131 u132 u133 u134 u135 u136:Value)
  (J8:Nat→Act→World→Prop)
  (D9:Act→World→Prop)
  (s:Nat)
  (hsk:s+gk=200)
  (k1:Wk)
  (hI1:I gk k1)
  (hgo:Wk.go gk k1=Wk.go 200 k)
  (hW1:bE w wr b base A aP B BP k1 p)
  (rb:Nat)
  (UU sv0:Value)
  (c0:Nat)
  (hc0:wr.cell? {block:=b,off:=0}=some (Value.pointer (some {block:=rb,off:=0})))
  (kF:Calls Tryz.prog 36 #[Value.pointer (some {block:=rb,off:=0})] wr fun e w' =>
  e=Ending.returned (Value.bool (decide (k1.r.step≠0)))∧w'=wr)
  (Hg:¬s<200)
  (hsl:¬↑s<200)
  (hsl2:Wk.go gk k1=(k1,none))
  :
  Code.wp Tryz.prog
    tQ
    (Exit.then D9 (Exit.inBlock 0 (Exit.then D8 (bodyPost Tryz.prog Tryz.f12 fun e w' =>
    e=Ending.returned (Value.bool (k.step p).snd.snd)∧bE w w' b base A aP B BP (k.step p).fst (k.step p).snd.fst))))
    {
      tmps :=
        #[Value.pointer (some {block:=b,off:=0}),Value.pointer (some aP),undef,undef,u4,
          Value.int IntKind.i64 ↑s,u6,u7,u8,undef,undef,undef,undef,u13,u14,u15,u16,u17,u18,u19,u20,u21,
          u22,u23,u24,u25,u26,u27,u28,u29,u30,u31,u32,u33,u34,u35,u36,u37,u38,u39,u40,u41,u42,u43,
          u44,u45,u46,u47,u48,u49,u50,u51,u52,u53,u54,u55,u56,u57,u58,u59,u60,u61,u62,u63,u64,u65,
          u66,u67,u68,u69,u70,u71,u72,u73,u74,u75,u76,u77,u78,u79,u80,u81,u82,u83,u84,u85,u86,u87,
          u88,u89,u90,u91,u92,u93,u94,u95,u96,u97,u98,u99,u100,u101,u102,u103,u104,u105,u106,u107,
          u108,u109,u110,u111,u112,u113,u114,u115,u116,u117,u118,u119,u120,u121,u122,u123,u124,u125,
          u126,u127,u128,u129,u130,u131,u132,u133,u134,u135,u136,undef,undef,undef,undef,undef,undef,
          undef,undef,undef,undef,undef,undef,undef,undef,undef,undef,undef,undef,undef,undef,undef,
          undef,undef,undef,undef,undef,undef],
      defers:=[]}
    wr
  := by
 unfold tQ
 unfold D7 at X8
 replace hgo:k.go 200=(k1,none):=hgo.symm.trans hsl2
 obtain ⟨Ce,p',x,hact,htk,F5⟩:=hend k1 hgo
 have hnext:=hW1.next hc0 Ce
 have hstep:k.step p=({k1 with r:=(k1.r.bG x).1},p',true):=by
  unfold Wk.step
  rw [hgo]
  simp only
  rw [if_neg Ce,hact]
  simp only
  rw [F5]
 generalize k1.r.acc=ac at hnext hact
 unfold oz at hnext
 have A1:Aside (zq w A B BP dV∧p.OK∧p.steps≤1000000∧p.act ac=(p',some x)∧mq k1.r x∧k.step p=({k1 with r:=(k1.r.bG x).1},p',true)):=⟨hB,hok,hst,hact,htk,hstep⟩
 clear hstep hW1 hact htk F5 hgo Ce hI1 hend hsl2 hok hst hB
 go_wp2_with (first
   | (go_at_call 36;(with_reducible refine kF.mono ?_);rintro ev w1 ⟨rfl,rfl⟩)
   | (go_at_call 39;(with_reducible refine hnext.mono ?_);intro ev w2 hp2;obtain ⟨rfl,hW2⟩:=hp2;
      have hdo:∀wx,Nw w2 wx→_:=fun wx hn=>(hW2.nw hn).Zg A1.out.1 A1.out.2.1 A1.out.2.2.1 A1.out.2.2.2.1;
      unfold oz iA at hdo)
   | (go_at_call 32;(with_reducible refine (hdo _ ((bX.refl _ _).alloc _)).mono ?_);intro ev w4 QR;obtain ⟨rfl,Az⟩:=QR;
      obtain ⟨rb4,-,-,-,hc4,-⟩:=Az.cells;
      have xe:∀wx,Nw w4 wx→_:=fun wx hn=>(Az.nw hn).bG (hn.gY hc4) A1.out.2.2.2.2.1;
      unfold iA at xe;clear hdo))
 have h5:Nw w4 ((w4.alloc (.cells #[.int .i64 x.word.slot,.int .i64 x.word.gen,.int .i64 x.word.tag,.int .i64 x.word.num,.bool x.word.mark,.bool x.ok] 86)).drew):=Nw.drew ((bX.refl _ _).alloc _)
 have Ty:=xe _ h5
 have hc5:=h5.gY hc4
 clear xe h5 hc4 hc0
 go_region_with (first
   | (go_at_call 40;(with_reducible refine Ty.mono ?_);rintro ev w6 ⟨rfl,QQ⟩))
 all_goals (
   go_wp2
   go_ret
   rw [A1.out.2.2.2.2.2]
   exact ⟨rfl,QQ⟩)
end Go.Proofs.YthomdlajobnmnaaGreatDoor
namespace Go.Proofs.YthomdlajobnmnaaGreatDoor
open Go.RowKit Go.Rex
section
variable {I:Nat→Wk→Prop} {w:World} {b base A:Nat} {k:Wk} {aP:Addr} {p:PS} {B BP:Nat→Prop} {dV:Nat→Addr}
set_option maxHeartbeats 40000000 in
set_option maxRecDepth 100000 in
theorem Od (HI:Ae I) (hI:I 200 k) (hW:bD w b base A k B) (hP:iK w aP p BP) (hB:zq w A B BP dV) (hok:p.OK) (hst:p.steps≤1000000) (hbase:base≤w.heap.size)
  (hend:∀k',k.go 200=(k',none)→k'.r.step≠0∧∃p' x,p.act k'.r.acc=(p',some x)∧mq k'.r x∧(k'.r.bG x).2=true) :
  Calls Tryz.prog 12 #[.pointer (some ⟨b,0,none⟩),.pointer (some aP)] w fun e w'=>e=.returned (.bool (k.step p).2.2)∧bE w w' b base A aP B BP (k.step p).1 (k.step p).2.1:=by
 have A0:Aside (I 200 k∧bE w w b base A aP B BP k p):=⟨hI,bE.of hW hP hB.d⟩
 clear hI hW hP
 go_enter Tryz.func12,Tryz.ntmps12
 go_wp2
 go_loopg [5] 200 (fun kk i wr=>∃s:Nat,i=.int .i64 s∧s+kk=200∧Aside (∃k1,I kk k1∧k1.go kk=k.go 200∧bE w wr b base A aP B BP k1 p))
 case atStart=>exact ⟨0,rfl,rfl,k,A0.out.1,rfl,A0.out.2⟩
 case round =>
  obtain ⟨s,rfl,hsk,hR⟩:=hrel
  obtain ⟨k1,hI1,hgo,hW1⟩:=hR.out
  obtain ⟨rb,UU,sv0,c0,hc0,-⟩:=hW1.cells
  have kF:=hW1.busy hc0
  clear hR
  by_cases Hg:s<200
  ·have hsl:(s:Int)<200:=by omega
   by_cases hb0:k1.r.step=0
   ·obtain ⟨n,rfl⟩:∃n,gk=n+1:=⟨gk-1,by omega⟩
    rw [show (decide (k1.r.step≠0))=false by simp [hb0]] at kF
    cases hj:k1.j with
    | none =>
     have q2:=hW1.J6 hj
     by_cases hi:k1.fK=true
     ·skip
      obtain ⟨b1,b2⟩:=HI.leave _ _ hI1 hb0 hj hi
      obtain ⟨-,-,-,-,-,-,-,q3,-,q5⟩:=hW1.cells
      rw [hi] at q3
      have q53:=q5 3
      have X9:=hW1.put 3 (.bool false) k1.j false (fun h=>by cases h) (fun _=>rfl) (fun _=>rfl) (fun h=>absurd rfl h) (.inr rfl)
      obtain ⟨rb2,-,-,-,hc1,-⟩:=X9.cells
      have hr:qm k1.r:=HI.rt _ _ hI1
      have zt:=X9.begin hc1 hr hb0 (c:=Ca.of 2) (qJ (by decide))
      rw [Zi] at zt
      have A1:Aside (I n {k1 with fK:=false,r:=(k1.r.begin (Ca.of 2)).1}∧Wk.go n {k1 with fK:=false,r:=(k1.r.begin (Ca.of 2)).1}=k.go 200):=⟨b2,(Tt hb0 hj hi b1).trans hgo⟩
      clear hI1 hgo hW1 b1 b2 X9 q5 hr
      go_wp2_with (first
        | (go_at_call 36;(with_reducible refine kF.mono ?_);rintro ev w1 ⟨rfl,rfl⟩)
        | (go_at_call 37;(with_reducible refine zt.mono ?_);intro ev w2 hp2;obtain ⟨rfl,hW2⟩:=hp2))
      go_roundg n
      case measure=>omega
      case rel=>exact ⟨s+1,by go_num,by omega,_,A1.out.1,A1.out.2,hW2⟩
     ·have hi':k1.fK=false:=by simpa using hi
      by_cases hl:k1.said.length≥k1.ops.length
      ·skip
       obtain ⟨-,-,-,c,-,q1,-,q3,-,-⟩:=hW1.cells
       obtain ⟨aS,cS,q4⟩:=hW1.said
       rw [hi'] at q3
       have hge:(k1.ops.length:Int)≤(k1.said.length:Int):=by omega
       have A1:Aside (bE w wr b base A aP B BP k1 p∧k1.go (n+1)=k.go 200):=⟨hW1,hgo⟩
       clear hI1 hgo hW1
       go_wp2_with (first
         | (go_at_call 36;(with_reducible refine kF.mono ?_);rintro ev w1 ⟨rfl,rfl⟩))
       go_quiet (fail)
       go_wp2
       go_ret
       have hstep:k.step p=(k1,p,false):=by
        have hgo:=(VR (n:=n) hb0 hj hi' hl).symm.trans A1.out.2
        unfold Wk.step
        rw [←hgo]
       rw [hstep]
       exact ⟨rfl,A1.out.1.nw (Nw.drewN (bX.refl _ _) _)⟩
      ·(apply ZZ <;> (try assumption)) <;> assumption
    | some j=>(apply Z0 <;> (try assumption)) <;> assumption
   ·rw [show (decide (k1.r.step≠0))=true by simp [hb0]] at kF
    have hsl2:k1.go gk=(k1,none):=Fe hb0
    apply YC <;> assumption
  ·have hsl:¬(s:Int)<200:=by omega
   have hsl2:k1.go gk=(k1,none):=by
    obtain rfl:gk=0:=by omega
    rfl
   apply YD <;> assumption
end
end Go.Proofs.YthomdlajobnmnaaGreatDoor
namespace Go.Proofs.YthomdlajobnmnaaGreatDoor
open Go.RowKit Go.Rex
section
variable {w:World} {b base A:Nat} {k:Wk} {B:Nat→Prop}
theorem xg (h:k.idle→False):decide k.idle=false:=decide_eq_false h
set_option maxHeartbeats 4000000 in
set_option maxRecDepth 100000 in
theorem zw (hW:bD w b base A k B):Calls Tryz.prog 35 #[.pointer (some ⟨b,0,none⟩)] w fun e w'=>e=.returned (.bool (decide k.idle))∧Nw w w':=by
 obtain ⟨rb,hc0,-⟩:=hW.N9
 have hbq:∀q,Calls Tryz.prog 36 #[.pointer (some ⟨rb,0,none⟩)] (w.drewN q) fun e w'=>e=.returned (.bool (decide (k.r.step≠0)))∧w'=w.drewN q:=fun q=>by
  obtain ⟨LV,hc',hb⟩:=(hW.nw (Nw.drewN (bX.refl w _) q)).N9
  obtain rfl:=nz hc0 hc'
  exact hb
 obtain ⟨aR,jv,sv,c,-,q1,q2,q3,-,-⟩:=hW.cells
 obtain ⟨aS,cS,q4⟩:=hW.said
 by_cases hb0:k.r.step=0
 ·rw [show (decide (k.r.step≠0))=false by simp [hb0]] at hbq
  cases hj:k.j with
  | some j =>
   obtain ⟨aJ,BJ,hcJ,-⟩:=hW.jb hj
   rw [xg fun h=>by have:=h.2.1;rw [hj] at this;cases this]
   clear hW q2
   go_enter Tryz.func35,Tryz.ntmps35
   go_wp2_with fail
   go_quiet (first | (go_at_call 36;(with_reducible exact Calls.quiet_of_same (hbq _))))
   go_wp2
   go_ret
   exact ⟨rfl,Nw.drewN (bX.refl _ _) _⟩
  | none =>
   have hcJ:=hW.J6 hj
   clear q2
   by_cases hi:k.fK=true
   ·rw [hi] at q3
    rw [xg fun h=>by have:=h.2.2.1;rw [hi] at this;cases this]
    clear hW
    go_enter Tryz.func35,Tryz.ntmps35
    go_wp2_with fail
    go_quiet (first | (go_at_call 36;(with_reducible exact Calls.quiet_of_same (hbq _))))
    go_wp2
    go_ret
    exact ⟨rfl,Nw.drewN (bX.refl _ _) _⟩
   ·have hi':k.fK=false:=by simpa using hi
    rw [hi'] at q3
    by_cases hl:k.said.length≥k.ops.length
    ·have hl1:(k.ops.length:Int)≤(k.said.length:Int):=by omega
     rw [show decide k.idle=true from decide_eq_true ⟨hb0,hj,hi',hl⟩]
     clear hW
     go_enter Tryz.func35,Tryz.ntmps35
     go_wp2_with fail
     go_quiet (first | (go_at_call 36;(with_reducible exact Calls.quiet_of_same (hbq _))))
     go_wp2
     go_ret
     exact ⟨by simp,Nw.drewN (bX.refl _ _) _⟩
    ·have hl1:¬(k.ops.length:Int)≤(k.said.length:Int):=by omega
     rw [xg fun h=>hl h.2.2.2]
     clear hW
     go_enter Tryz.func35,Tryz.ntmps35
     go_wp2_with fail
     go_quiet (first | (go_at_call 36;(with_reducible exact Calls.quiet_of_same (hbq _))))
     go_wp2
     go_ret
     exact ⟨by simp,Nw.drewN (bX.refl _ _) _⟩
 ·rw [show (decide (k.r.step≠0))=true by simp [hb0]] at hbq
  rw [xg fun h=>hb0 h.1]
  clear hW
  go_enter Tryz.func35,Tryz.ntmps35
  go_wp2_with fail
  go_quiet (first | (go_at_call 36;(with_reducible exact Calls.quiet_of_same (hbq _))))
  go_wp2
  go_ret
  exact ⟨rfl,Nw.drewN (bX.refl _ _) _⟩
end
end Go.Proofs.YthomdlajobnmnaaGreatDoor
namespace Go.Proofs.YthomdlajobnmnaaGreatDoor
open Go.RowKit Go.Rex
structure iT (w1 w:World) (aP:Addr) (aW A:Nat→Nat) (base g n:Nat) (p:PS) (W:Nat→Wk):Prop where
 cr:∃F:Nat→Prop,jW w aP aW A base n p W F∧∀b,F b→w1.heap.size≤b∧b≠g
 row:∀i,i<n→w.cell? ⟨g,i,none⟩=some (.pointer (some ⟨aW i,0,none⟩))
 nw:Nw w1 w
 hbase:base≤w.heap.size
section
variable {w1 w w':World} {aP:Addr} {aW A:Nat→Nat} {base g n i:Nat} {p:PS} {W:Nat→Wk} {I:Nat→Wk→Prop} {dV:Nat→Addr}
theorem iT.wk (R:iT w1 w aP aW A base g n p W) (hi:i<n):∃B,bD w (aW i) base (A i) (W i) B:=by
 obtain ⟨F,hC,-⟩:=R.cr
 obtain ⟨BP,BM,h1,h2,-⟩:=hC.ex
 exact ⟨_,h2 i hi⟩
theorem iT.more (R:iT w1 w aP aW A base g n p W) (hn:Nw w w'):iT w1 w' aP aW A base g n p W:=by
 obtain ⟨F,hC,hF⟩:=R.cr
 exact ⟨⟨F,hC.frame (fun b hb _=>hn.block b hb id) hn.size,hF⟩,fun i hi=>hn.gY (R.row i hi),R.nw.trans hn,Nat.le_trans R.hbase hn.size⟩
theorem iT.step (R:iT w1 w aP aW A base g n p W) (hi:i<n) (HI:Ae I) (hI:I 200 (W i)) (hs:kU w1 dV) (hz:∀j,j<8→(dV j).block<w1.heap.size) (hok:p.OK) (hst:p.steps≤1000000)
  (hend:∀k',(W i).go 200=(k',none)→k'.r.step≠0∧∃p' x,p.act k'.r.acc=(p',some x)∧mq k'.r x∧(k'.r.bG x).2=true) :
  Calls Tryz.prog 12 #[.pointer (some ⟨aW i,0,none⟩),.pointer (some aP)] w fun e w'=>e=.returned (.bool ((W i).step p).2.2)∧iT w1 w' aP aW A base g n ((W i).step p).2.1 (lS W i ((W i).step p).1):=by
 obtain ⟨F,hC,hF⟩:=R.cr
 have hAF:¬F (A i):=by
  obtain ⟨BP,BM,-,-,-,-,-,-,h7⟩:=hC.ex
  exact h7 i hi
 obtain ⟨BP,B,hP,hW,hd,vk,hBl,QS,cont⟩:=hC.ZY hi
 have hsn:kU w dV:=hs.frame R.nw.size fun j hj=>R.nw.block _ (hz j hj) id
 have hB:zq w (A i) B BP dV:=⟨hd,hBl,vk,⟨fun q=>hAF (QS _ (.inl q)),hW.self.2.2⟩,hsn,fun j hj=>⟨fun q=>absurd (hF _ (QS _ (.inr q))).1 (Nat.not_le.2 (hz j hj)),fun q=>absurd (hF _ (QS _ (.inl q))).1 (Nat.not_le.2 (hz j hj)),Nat.lt_of_lt_of_le (hz j hj) R.nw.size⟩⟩
 refine (Od HI hI hW hP hB hok hst R.hbase hend).mono ?_
 rintro e w' ⟨he,hO⟩
 obtain ⟨B',qx,g1,g2,g3,g4,g5,g6⟩:=hO.ex
 have hg:g<w.heap.size:=World.block_lt_of_cell? _ _ (R.row i hi)
 refine ⟨he,⟨_,cont w' _ _ qx B' g1 g2 g3 g4 g5 g6,fun b hb=>?_⟩,fun j hj=>?_,Qz R.nw g6 fun x hx=>(hF x (QS x hx)).1,Nat.le_trans R.hbase g6.size⟩
 ·rcases hb with hb | hb
  ·exact hF b hb
  ·exact ⟨Nat.le_trans R.nw.size hb,by omega⟩
 ·rw [←R.row j hj]
  exact J7 (g6.block g hg fun q=>(hF g (QS g q)).2 rfl) j
end
structure Ends (n:Nat) (S:Nat→Nat→PS→(Nat→Wk)→Prop):Prop where
 acc:∀k m p W,S k m p W→k<n→∃I,Ae I∧I 200 (W k)∧p.OK∧p.steps≤1000000∧∀k',(W k).go 200=(k',none)→k'.r.step≠0∧∃p' x,p.act k'.r.acc=(p',some x)∧mq k'.r x∧(k'.r.bG x).2=true
 step:∀k m p W,S k m p W→k<n→∃w' p' b,(W k).step p=(w',p',b)∧((b=true∧∃m',m'<m∧S k m' p' (lS W k w'))∨(b=false∧w'.idle∧∃m',S k m' p' (lS W k w')))
 next:∀k m p W,S k m p W→k<n→(W k).idle→∃m',m'≤39999∧S (k+1) m' p W
section
variable {w1 w:World} {aP:Addr} {aW A:Nat→Nat} {base g n c:Nat} {p:PS} {W:Nat→Wk} {dV:Nat→Addr} {S:Nat→Nat→PS→(Nat→Wk)→Prop}
set_option maxHeartbeats 4000000 in
set_option maxRecDepth 100000 in
theorem QT (HS:Ends n S) (R:iT w1 w aP aW A base g n p W) {m0:Nat} (h0:S 0 m0 p W) (hm:m0≤39999) (hn:n≤6) (hs:kU w1 dV) (hz:∀j,j<8→(dV j).block<w1.heap.size) :
  Calls Tryz.prog 10 #[.pointer (some aP),.slice (some ⟨g,0,none⟩) n c] w fun e w'=>e=.returned (.bool true)∧∃m p' W',S n m p' W'∧iT w1 w' aP aW A base g n p' W':=by
 have A0:Aside (S 0 m0 p W∧iT w1 w aP aW A base g n p W):=⟨h0,R⟩
 clear h0 R
 go_enter Tryz.func10,Tryz.ntmps10
 go_wp2
 go_loopg [5] n (fun kk i wr=>∃k:Nat,i=.int .i64 k∧k+kk=n∧Aside (∃m p W,S k m p W∧m≤39999∧iT w1 wr aP aW A base g n p W))
 case atStart=>exact ⟨0,rfl,by omega,m0,p,W,A0.out.1,hm,A0.out.2⟩
 case round =>
  obtain ⟨k,rfl,hkk,hR⟩:=hrel
  by_cases hkn:k<n
  ·have hk1:(k:Int)<(n:Int):=by omega
   have hk0:(0:Int)≤(k:Int):=by omega
   have A1:Aside (∃m p W,S k m p W∧m≤39999∧iT w1 wr aP aW A base g n p W):=hR.out
   clear hR
   obtain ⟨QU,hgk⟩:∃x,x=gk:=⟨_,rfl⟩
   go_wp2_with fail
   go_loopg [6] 40000 (fun kk i wq=>∃s:Nat,i=.int .i64 s∧s+kk=40000∧Aside (∃m p W,S k m p W∧(m+s≤39999∨(W k).idle)∧iT w1 wq aP aW A base g n p W))
   case atStart =>
    obtain ⟨m,p,W,h1,h2,h3⟩:=A1.out
    exact ⟨0,rfl,rfl,m,p,W,h1,.inl h2,h3⟩
   case round =>
    obtain ⟨s,rfl,hsk,hR⟩:=hrel
    obtain ⟨m,p,W,h1,h2,h3⟩:=hR.out
    obtain ⟨B0,hW0⟩:=h3.wk hkn
    have hrow:=h3.row k hkn
    have Kb:=zw hW0
    clear hR hW0
    by_cases hid:(W k).idle
    ·rw [decide_eq_true hid] at Kb
     obtain ⟨m',g1,g2⟩:=HS.next k m p W h1 hkn hid
     have A2:Aside (S (k+1) m' p W∧m'≤39999∧iT w1 wr aP aW A base g n p W):=⟨g2,g1,h3⟩
     have Tz:∀wx,Nw wr wx→Calls Tryz.prog 35 #[.pointer (some ⟨aW k,0,none⟩)] wx fun e w'=>e=.returned (.bool true)∧Nw wx w':=fun wx hn=>by
      obtain ⟨B1,hW1⟩:=(h3.more hn).wk hkn
      have:=zw hW1
      rw [decide_eq_true hid] at this
      exact this
     clear h1 h2 h3 g1 g2 Kb
     by_cases hs4:s<40000
     ·have hs5:(s:Int)<40000:=by omega
      go_wp2_with (first
        | (go_at_call 35;(with_reducible refine (Tz _ (bX.refl _ _)).mono ?_);rintro ev w3 ⟨rfl,mM⟩;have hrow3:=mM.gY hrow)
        | (go_at_call 35;(with_reducible refine (Tz _ mM).mono ?_);rintro ev w4 ⟨rfl,Pn⟩))
      go_roundg (QU-1)
      case measure=>omega
      case rel=>exact ⟨k+1,by go_num,by omega,m',p,W,A2.out.1,A2.out.2.1,A2.out.2.2.more (mM.trans Pn)⟩
     ·have hs5:¬(s:Int)<40000:=by omega
      go_wp2_with (first
        | (go_at_call 35;(with_reducible refine (Tz _ (bX.refl _ _)).mono ?_);rintro ev w3 ⟨rfl,mM⟩))
      go_roundg (QU-1)
      case measure=>omega
      case rel=>exact ⟨k+1,by go_num,by omega,m',p,W,A2.out.1,A2.out.2.1,A2.out.2.2.more mM⟩
    ·rw [decide_eq_false hid] at Kb
     have hms:=h2.resolve_right hid
     have hs5:(s:Int)<40000:=by omega
     obtain ⟨I,hI1,hI2,Zl,Zm,Zn⟩:=HS.acc k m p W h1 hkn
     obtain ⟨w',p',b,hstep,hcase⟩:=HS.step k m p W h1 hkn
     have Ya:∀wx,Nw wr wx→Calls Tryz.prog 12 #[.pointer (some ⟨aW k,0,none⟩),.pointer (some aP)] wx fun e w2=>e=.returned (.bool b)∧iT w1 w2 aP aW A base g n p' (lS W k w'):=fun wx hn=>by
      have:=(h3.more hn).step hkn hI1 hI2 hs hz Zl Zm Zn
      rw [hstep] at this
      exact this
     clear h2 hI1 hI2 Zl Zm Zn hstep h3 h1
     rcases hcase with ⟨rfl,m',g1,g2⟩ | ⟨rfl,g0,m',g2⟩
     ·have A2:Aside (S k m' p' (lS W k w')∧m'<m):=⟨g2,g1⟩
      clear g1 g2
      go_wp2_with (first
        | (go_at_call 35;(with_reducible refine Kb.mono ?_);rintro ev w3 ⟨rfl,mM⟩;have hrow3:=mM.gY hrow)
        | (go_at_call 12;(with_reducible refine (Ya _ mM).mono ?_);rintro ev w4 ⟨rfl,vo⟩))
      go_roundg (gk-1)
      case measure=>omega
      case rel=>exact ⟨s+1,by go_num,by omega,m',p',_,A2.out.1,.inl (by have:=A2.out.2;omega),vo⟩
     ·have A2:Aside (S k m' p' (lS W k w')):=g2
      have Z7:∀wx,iT w1 wx aP aW A base g n p' (lS W k w')→Calls Tryz.prog 35 #[.pointer (some ⟨aW k,0,none⟩)] wx fun e w'=>e=.returned (.bool true)∧Nw wx w':=fun wx hn=>by
       obtain ⟨B1,hW1⟩:=hn.wk hkn
       have:=zw hW1
       rw [dC,decide_eq_true g0] at this
       exact this
      clear g2
      go_wp2_with (first
        | (go_at_call 35;(with_reducible refine Kb.mono ?_);rintro ev w3 ⟨rfl,mM⟩;have hrow3:=mM.gY hrow)
        | (go_at_call 12;(with_reducible refine (Ya _ mM).mono ?_);rintro ev w4 ⟨rfl,vo⟩;have hrow4:=vo.row k hkn)
        | (go_at_call 35;(with_reducible refine (Z7 _ vo).mono ?_);rintro ev w5 ⟨rfl,Xk⟩))
      go_roundg (gk-1)
      case measure=>omega
      case rel=>exact ⟨s+1,by go_num,by omega,m',p',_,A2.out,.inr (by rw [dC];exact g0),vo.more Xk⟩
  ·have hk1:¬(k:Int)<(n:Int):=by omega
   obtain rfl:k=n:=by omega
   obtain ⟨m,p,W,h1,h2,h3⟩:=hR.out
   have A1:Aside (S k m p W∧iT w1 wr aP aW A base g k p W):=⟨h1,h3⟩
   clear hR h1 h2 h3
   go_wp2
   go_ret
   exact ⟨rfl,m,p,W,A1.out⟩
end
end Go.Proofs.YthomdlajobnmnaaGreatDoor
