/- part 26 of the proof -/
import Derived.Test.YthomdlajobnmnaaGreatDoorX25
set_option linter.unusedSimpArgs false
set_option linter.unusedVariables false
namespace Go.Proofs.YthomdlajobnmnaaGreatDoor.Cq
open Go.RowKit Go.Rex
set_option maxHeartbeats 40000000 in
set_option maxRecDepth 100000 in
theorem ah4
  (I:Nat→Wk→Prop)
  (w:World)
  (b base A:Nat)
  (k:Wk)
  (aP:Addr)
  (p:PS)
  (B BP:Nat→Prop)
  (dC:Nat→Addr)
  (HI:sH I)
  (hbase:base≤w.heap.size)
  (Ht:Act→World→Prop)
  (wr:World)
  (u4 u6 u7 u8 u13 u14 u15 u16 u17 u18 u19 u20 u21 u22 u23 u24 u25 u26 u27 u28 u29 u30 u31 u32 u33 u34 u35 u36 u37 u38 u39 u40 u41 u42 u43 u44 u45 u46 u47 u48 u49 u50 u51 u52 u53 u54 u55 u56 u57 u58 u59 u60 u61 u62 u63 u64 u65 u66 u67 u68 u69 u70 u71 u72 u73 u74 u75 u76 u77 u78 u79 u80 u81 u82 u83 u84 u85 u86 u87 u88 u89 u90 u91 u92 u93 u94 u95 u96 u97 u98 u99 u100 u101 u102 u103 u104 u105 u106 u107 u108 u109 u110 u111 u112 u113 u114 u115 u116 u117 u118 u119 u120 u121 u122 u123 u124 u125 u126 u127 u128 u129 u130 u131 u132 u133 u134 u135 u136:Value)
  (Oj:Nat→Act→World→Prop)
  (Hu:Act→World→Prop)
  (ax2:∀(Hw:Nat) (a':Act) (w':World),
  (∃u4 u5 u6 u7 u8 u13 u14 u15 u16 u17 u18 u19 u20 u21 u22 u23 u24 u25 u26 u27 u28 u29 u30 u31 u32 u33 u34 u35 u36
      u37 u38 u39 u40 u41 u42 u43 u44 u45 u46 u47 u48 u49 u50 u51 u52 u53 u54 u55 u56 u57 u58 u59 u60 u61 u62 u63 u64
      u65 u66 u67 u68 u69 u70 u71 u72 u73 u74 u75 u76 u77 u78 u79 u80 u81 u82 u83 u84 u85 u86 u87 u88 u89 u90 u91 u92
      u93 u94 u95 u96 u97 u98 u99 u100 u101 u102 u103 u104 u105 u106 u107 u108 u109 u110 u111 u112 u113 u114 u115 u116
      u117 u118 u119 u120 u121 u122 u123 u124 u125 u126 u127 u128 u129 u130 u131 u132 u133 u134 u135 u136,
      (∃(s:Nat),
          u5=Value.int IntKind.i64 ↑s ∧
            s+Hw=200∧Aside (∃k1,I Hw k1∧Wk.go Hw k1=Wk.go 200 k∧bu w w' b base A aP B BP k1 p)) ∧
        a' =
          {
            tmps :=
              #[Value.pointer (some {block:=b,off:=0}),Value.pointer (some aP),undef,undef,u4,u5,u6,u7,
                u8,undef,undef,undef,undef,u13,u14,u15,u16,u17,u18,u19,u20,u21,u22,u23,u24,u25,u26,
                u27,u28,u29,u30,u31,u32,u33,u34,u35,u36,u37,u38,u39,u40,u41,u42,u43,u44,u45,u46,
                u47,u48,u49,u50,u51,u52,u53,u54,u55,u56,u57,u58,u59,u60,u61,u62,u63,u64,u65,u66,
                u67,u68,u69,u70,u71,u72,u73,u74,u75,u76,u77,u78,u79,u80,u81,u82,u83,u84,u85,u86,
                u87,u88,u89,u90,u91,u92,u93,u94,u95,u96,u97,u98,u99,u100,u101,u102,u103,u104,u105,
                u106,u107,u108,u109,u110,u111,u112,u113,u114,u115,u116,u117,u118,u119,u120,u121,u122,
                u123,u124,u125,u126,u127,u128,u129,u130,u131,u132,u133,u134,u135,u136,undef,undef,
                undef,undef,undef,undef,undef,undef,undef,undef,undef,undef,undef,undef,undef,undef,
                undef,undef,undef,undef,undef,undef,undef,undef,undef,undef,undef],
            defers:=[]}) →
    Oj Hw a' w')
  (s:Nat)
  (k1:Wk)
  (hW1:bu w wr b base A aP B BP k1 p)
  (rb:Nat)
  (jv0 sv0:Value)
  (c0:Nat)
  (hc0:wr.cell? {block:=b,off:=0}=some (Value.pointer (some {block:=rb,off:=0})))
  (l7:Calls Tryz.prog 36 #[Value.pointer (some {block:=rb,off:=0})] wr fun e w' =>
  e=Ending.returned (Value.bool false)∧w'=wr)
  (Le:s<200)
  (hsl:↑s<200)
  (hb0:k1.r.step=0)
  (n:Nat)
  (ax3:∀(a':Act) (w':World),Handed Oj (n+1) a' w'→Hu a' w')
  (hsk:s+(n+1)=200)
  (hI1:I (n+1) k1)
  (hgo:Wk.go (n+1) k1=Wk.go 200 k)
  (hj:k1.j=none)
  (q2:wr.cell? {block:=b,off:=2}=some (Value.pointer none))
  (hi:¬k1.aV=true)
  (hi':k1.aV=false)
  (hl:¬k1.said.length≥k1.ops.length)
  :
  Code.wp Tryz.prog
    vR
    (Exit.then Hu (Exit.inBlock 0 (Exit.then Ht (bodyPost Tryz.prog Tryz.f23 fun e w' =>
    e=Ending.returned (Value.bool (k.step p).snd.snd)∧bu w w' b base A aP B BP (k.step p).fst (k.step p).snd.fst))))
    {
      tmps :=
        #[Value.pointer (some {block:=b,off:=0}),Value.pointer (some aP),undef,undef,u4,
          Value.int IntKind.i64 ↑s,u6,u7,u8,undef,undef,undef,undef,u13,u14,u15,u16,u17,u18,u19,u20,u21,
          u22,u23,u24,u25,u26,u27,u28,u29,u30,u31,u32,u33,u34,u35,u36,u37,u38,u39,u40,u41,u42,u43,
          u44,u45,u46,u47,u48,u49,u50,u51,u52,u53,u54,u55,u56,u57,u58,u59,u60,u61,u62,u63,u64,u65,
          u66,u67,u68,u69,u70,u71,u72,u73,u74,u75,u76,u77,u78,u79,u80,u81,u82,u83,u84,u85,u86,u87,
          u88,u89,u90,u91,u92,u93,u94,u95,u96,u97,u98,u99,u100,u101,u102,u103,u104,u105,u106,u107,
          u108,u109,u110,u111,u112,u113,u114,u115,u116,u117,u118,u119,u120,u121,u122,u123,u124,u125,
          u126,u127,u128,u129,u130,u131,u132,u133,u134,u135,u136,undef,undef,undef,undef,undef,undef,
          undef,undef,undef,undef,undef,undef,undef,undef,undef,undef,undef,undef,undef,undef,undef,
          undef,undef,undef,undef,undef,undef],
      defers:=[]}
    wr
  := by
 unfold vR
 have hl':k1.said.length<k1.ops.length:=by omega
 obtain ⟨hg,b1,b2⟩:=HI.start _ _ hI1 hb0 hj hi' hl'
 have hr:uD k1.r:=HI.rt _ _ hI1
 obtain ⟨-,-,-,c,-,q1,-,q3,-,-⟩:=hW1.cells
 obtain ⟨aS,cS,q4⟩:=hW1.said
 rw [hi'] at q3
 have hops:=hW1.Zn.ex k1.said.length _ (List.getElem?_eq_getElem hl')
 have MM:∀o:Op,k1.ops[k1.said.length]=o→k1.ops.getD k1.said.length ⟨0,0,0,0⟩=o:=fun o h=>by
  rw [List.getD_eq_getElem?_getD,List.getElem?_eq_getElem hl']
  exact h
 generalize ho:k1.ops[k1.said.length]=o at hops
 have TN:=MM o ho
 rw [TN] at hg b2
 rw [Nat.mul_comm 4 k1.said.length] at hops
 obtain ⟨o1,o2,o3,o4⟩:=hops
 have hlt:(k1.said.length:Int)<(k1.ops.length:Int):=by omega
 have hstart:=fun wx=>Zi (w:=wx) hg
 unfold aaO at hstart
 have A1:Aside (bu w wr b base A aP B BP k1 p∧I n {k1 with j:=some (Jb.new o),aV:=true,r:=(k1.r.begin (Ca.of 1)).1}∧Wk.go n {k1 with j:=some (Jb.new o),aV:=true,r:=(k1.r.begin (Ca.of 1)).1}=k.go 200∧uD k1.r):=⟨hW1,b2,by rw [←TN];exact (Zm hb0 hj hi' hl' (by rw [TN];exact hg) b1).trans hgo,hr⟩
 clear hI1 hgo hW1 b1 b2 hg MM TN ho hr
 go_wp2_with (first
   | (go_at_call 36;(with_reducible refine l7.mono ?_);rintro ev w1 ⟨rfl,rfl⟩))
 go_quiet (fail)
 go_wp2_with fail
 go_region_with (first
   | (go_at_call 47;(with_reducible refine (hstart _).mono ?_);rintro ev w3 ⟨aJ,BJ,rfl,hJ,Wt,og⟩))
 all_goals (
   have hn:Nw w1 w3:=⟨og.os,og.tape,og.output,og.size,og.block⟩
   have hWo:=A1.out.1.nw hn
   have f2:=hWo.N9 hj
   obtain ⟨-,-,-,-,-,-,-,f3,-,ff⟩:=hWo.cells
   have ff2:=ff 2
   have ff3:=ff 3
   have hW3:=(A1.out.1.Zj hn hJ Wt).put 3 (.bool true) (some (Jb.new o)) true (fun h=>by cases h) (fun _=>rfl) (fun _=>rfl) (fun h=>absurd rfl h) (.inr rfl)
   obtain ⟨rb3,-,-,-,hc3,-⟩:=hW3.cells
   have Cn:=hW3.begin hc3 A1.out.2.2.2 hb0 (c:=Ca.of 1) (aaE (by decide))
   rw [caV] at Cn
   clear og hn hWo ff hW3 hJ Wt hstart l7
   go_wp2_with (first
     | (go_at_call 37;(with_reducible refine Cn.mono ?_);intro ev w2 hp2;obtain ⟨rfl,hW2⟩:=hp2))
   go_roundg n
   case measure=>omega
   case rel=>exact ⟨s+1,by go_num,by omega,_,A1.out.2.1,A1.out.2.2.1,hW2⟩)
end Go.Proofs.YthomdlajobnmnaaGreatDoor.Cq
