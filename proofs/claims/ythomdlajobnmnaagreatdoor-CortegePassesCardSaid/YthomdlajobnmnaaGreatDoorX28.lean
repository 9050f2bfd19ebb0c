/- part 28 of the proof -/
import Derived.Test.YthomdlajobnmnaaGreatDoorX25
set_option linter.unusedSimpArgs false
set_option linter.unusedVariables false
namespace Go.Proofs.YthomdlajobnmnaaGreatDoor.Cq
open Go.RowKit Go.Rex
set_option maxHeartbeats 40000000 in
set_option maxRecDepth 100000 in
theorem agk
  (I:Nat→Wk→Prop)
  (w:World)
  (b base A:Nat)
  (k:Wk)
  (aP:Addr)
  (p:PS)
  (B BP:Nat→Prop)
  (dC:Nat→Addr)
  (hB:Cm w A B BP dC)
  (hok:p.OK)
  (hst:p.steps≤1000000)
  (hend:∀(k':Wk),
  Wk.go 200 k=(k',none) →
    k'.r.step≠0∧∃p' x,p.act k'.r.acc=(p',some x)∧oG k'.r x∧(k'.r.aG x).snd=true)
  (Ht:Act→World→Prop)
  (ax1:∀(a:Act) (wz:World),
  Code.wp Tryz.prog
      Hr
      (bodyPost Tryz.prog Tryz.f23 fun e w' =>
  e=Ending.returned (Value.bool (k.step p).snd.snd)∧bu w w' b base A aP B BP (k.step p).fst (k.step p).snd.fst) a wz →
    Ht a wz)
  (gk:Nat)
  (wr:World)
  (u4 u6 u7 u8 u13 u14 u15 u16 u17 u18 u19 u20 u21 u22 u23 u24 u25 u26 u27 u28 u29 u30 u31 u32 u33 u34 u35 u36 u37 u38 u39 u40 u41 u42 u43 u44 u45 u46 u47 u48 u49 u50 u51 u52 u53 u54 u55 u56 u57 u58 u59 u60 u61 u62 u63 u64 u65 u66 u67 u68 u69 u70 u71 u72 u73 u74 u75 u76 u77 u78 u79 u80 u81 u82 u83 u84 u85 u86 u87 u88 u89 u90 u91 u92 u93 u94 u95 u96 u97 u98 u99 u100 u101 u102 u103 u104 u105 u106 u107 u108 u109 u110 u111 u112 u113 u114 u115 u116 u117 u118 u119 u120 u121 u122 u123 u124 u125 u126 u127 u128 u129 u130 u131 u132 u133 u134 u135 u136:Value)
  (Oj:Nat→Act→World→Prop)
  (Hu:Act→World→Prop)
  (s:Nat)
  (hsk:s+gk=200)
  (k1:Wk)
  (hI1:I gk k1)
  (hgo:Wk.go gk k1=Wk.go 200 k)
  (hW1:bu w wr b base A aP B BP k1 p)
  (rb:Nat)
  (jv0 sv0:Value)
  (c0:Nat)
  (hc0:wr.cell? {block:=b,off:=0}=some (Value.pointer (some {block:=rb,off:=0})))
  (l7:Calls Tryz.prog 36 #[Value.pointer (some {block:=rb,off:=0})] wr fun e w' =>
  e=Ending.returned (Value.bool true)∧w'=wr)
  (Le:s<200)
  (hsl:↑s<200)
  (hb0:¬k1.r.step=0)
  (hsl2:Wk.go gk k1=(k1,none))
  :
  Code.wp Tryz.prog
    vR
    (Exit.then Hu (Exit.inBlock 0 (Exit.then Ht (bodyPost Tryz.prog Tryz.f23 fun e w' =>
    e=Ending.returned (Value.bool (k.step p).snd.snd)∧bu w w' b base A aP B BP (k.step p).fst (k.step p).snd.fst))))
    {
      tmps :=
        #[Value.pointer (some {block:=b,off:=0}),Value.pointer (some aP),undef,undef,u4,
          Value.int IntKind.i64 ↑s,u6,u7,u8,undef,undef,undef,undef,u13,u14,u15,u16,u17,u18,u19,u20,u21,
          u22,u23,u24,u25,u26,u27,u28,u29,u30,u31,u32,u33,u34,u35,u36,u37,u38,u39,u40,u41,u42,u43,
          u44,u45,u46,u47,u48,u49,u50,u51,u52,u53,u54,u55,u56,u57,u58,u59,u60,u61,u62,u63,u64,u65,
          u66,u67,u68,u69,u70,u71,u72,u73,u74,u75,u76,u77,u78,u79,u80,u81,u82,u83,u84,u85,u86,u87,
          u88,u89,u90,u91,u92,u93,u94,u95,u96,u97,u98,u99,u100,u101,u102,u103,u104,u105,u106,u107,
          u108,u109,u110,u111,u112,u113,u114,u115,u116,u117,u118,u119,u120,u121,u122,u123,u124,u125,
          u126,u127,u128,u129,u130,u131,u132,u133,u134,u135,u136,undef,undef,undef,undef,undef,undef,
          undef,undef,undef,undef,undef,undef,undef,undef,undef,undef,undef,undef,undef,undef,undef,
          undef,undef,undef,undef,undef,undef],
      defers:=[]}
    wr
  := by
 unfold vR
 unfold Hr at ax1
 replace hgo:k.go 200=(k1,none):=hgo.symm.trans hsl2
 obtain ⟨Fb,p',x,hact,htk,JS⟩:=hend k1 hgo
 have hnext:=hW1.next hc0 Fb
 have hstep:k.step p=({k1 with r:=(k1.r.aG x).1},p',true):=by
  unfold Wk.step
  rw [hgo]
  simp only
  rw [if_neg Fb,hact]
  simp only
  rw [JS]
 generalize k1.r.acc=ac at hnext hact
 unfold oq at hnext
 have A1:Aside (Cm w A B BP dC∧p.OK∧p.steps≤1000000∧p.act ac=(p',some x)∧oG k1.r x∧k.step p=({k1 with r:=(k1.r.aG x).1},p',true)):=⟨hB,hok,hst,hact,htk,hstep⟩
 clear hstep hW1 hact htk JS hgo Fb hI1 hend hsl2 hok hst hB
 go_wp2_with (first
   | (go_at_call 36;(with_reducible refine l7.mono ?_);rintro ev w1 ⟨rfl,rfl⟩)
   | (go_at_call 39;(with_reducible refine hnext.mono ?_);intro ev w2 hp2;obtain ⟨rfl,hW2⟩:=hp2;
      have hdo:∀wx,Nw w2 wx→_:=fun wx hn=>(hW2.nw hn).doA A1.out.1 A1.out.2.1 A1.out.2.2.1 A1.out.2.2.2.1;
      unfold oq jl at hdo)
   | (go_at_call 32;(with_reducible refine (hdo _ ((bA.refl _ _).alloc _)).mono ?_);intro ev w4 Oo;obtain ⟨rfl,DU⟩:=Oo;
      obtain ⟨rb4,-,-,-,hc4,-⟩:=DU.cells;
      have zI:∀wx,Nw w4 wx→_:=fun wx hn=>(DU.nw hn).aG (hn.bJ hc4) A1.out.2.2.2.2.1;
      unfold jl at zI;clear hdo))
 have h5:Nw w4 ((w4.alloc (.cells #[.int .i64 x.word.slot,.int .i64 x.word.gen,.int .i64 x.word.tag,.int .i64 x.word.num,.bool x.word.mark,.bool x.ok] 86)).drew):=Nw.drew ((bA.refl _ _).alloc _)
 have Zu:=zI _ h5
 have hc5:=h5.bJ hc4
 clear zI h5 hc4 hc0
 go_region_with (first
   | (go_at_call 40;(with_reducible refine Zu.mono ?_);rintro ev w6 ⟨rfl,WN⟩))
 all_goals (
   go_wp2
   go_ret
   rw [A1.out.2.2.2.2.2]
   exact ⟨rfl,WN⟩)
end Go.Proofs.YthomdlajobnmnaaGreatDoor.Cq
