/- part 29 of the proof -/
import Derived.Test.YthomdlajobnmnaaGreatDoorX25
set_option linter.unusedSimpArgs false
set_option linter.unusedVariables false
namespace Go.Proofs.YthomdlajobnmnaaGreatDoor.Sk
open Go.RowKit Go.Rex
set_option maxHeartbeats 40000000 in
set_option maxRecDepth 100000 in
theorem aly
  (I:Nat->Wk->Prop)
  (w:World)
  (b base A:Nat)
  (k:Wk)
  (aP:Addr)
  (p:PS)
  (B BP:Nat->Prop)
  (dU:Nat->Addr)
  (hB:EF w A B BP dU)
  (D:p.OK)
  (J:p.steps<=1000000)
  (j:∀(k':Wk),
  Wk.go 200 k=(k',none) ->
    k'.r.step≠0/\∃p' x,p.act k'.r.acc=(p',some x)/\uM k'.r x/\(k'.r.aB x).snd=true)
  (EG:Act->World->Prop)
  (ax1:∀(a:Act) (wz:World),
  Code.wp Tryz.prog
      Zb
      (bodyPost Tryz.prog Tryz.f26 λe w' =>
  e=Ending.returned (Value.bool (k.step p).snd.snd)/\bO w w' b base A aP B BP (k.step p).fst (k.step p).snd.fst) a wz ->
    EG a wz)
  (gk:Nat)
  (wr:World)
  (u4 u6 u7 u8 u13 u14 u15 u16 u17 u18 u19 u20 u21 u22 u23 u24 u25 u26 u27 u28 u29 u30 u31 u32 u33 u34 u35 u36 u37 u38 u39 u40 u41 u42 u43 u44 u45 u46 u47 u48 u49 u50 u51 u52 u53 u54 u55 u56 u57 u58 u59 u60 u61 u62 u63 u64 u65 u66 u67 u68 u69 u70 u71 u72 u73 u74 u75 u76 u77 u78 u79 u80 u81 u82 u83 u84 u85 u86 u87 u88 u89 u90 u91 u92 u93 u94 u95 u96 u97 u98 u99 Z T u102 N U Q F u107 q R o Y z P u114 u115 H t u118 O L u G S u124 u125 K X M C u130 u131 u132 E u134 u135 u136:Value)
  (Gf:Nat->Act->World->Prop)
  (Cx:Act->World->Prop)
  (s:Nat)
  (hsk:s+gk=200)
  (f:Wk)
  (hI1:I gk f)
  (h:Wk.go gk f=Wk.go 200 k)
  (W:bO w wr b base A aP B BP f p)
  (rb:Nat)
  (Zc sv0:Value)
  (c0:Nat)
  (V:wr.cell? {block:=b,off:=0}=some (Value.pointer (some {block:=rb,off:=0})))
  (kZ:Calls Tryz.prog 36 #[Value.pointer (some {block:=rb,off:=0})] wr λe w' =>
  e=Ending.returned (Value.bool true)/\w'=wr)
  (Kc:s<200)
  (hsl:↑s<200)
  (hb0:¬f.r.step=0)
  (i:Wk.go gk f=(f,none))
  :
  Code.wp Tryz.prog
    Kb
    (Exit.then Cx (Exit.inBlock 0 (Exit.then EG (bodyPost Tryz.prog Tryz.f26 λe w' =>
    e=Ending.returned (Value.bool (k.step p).snd.snd)/\bO w w' b base A aP B BP (k.step p).fst (k.step p).snd.fst))))
    {
      tmps :=
        #[Value.pointer (some {block:=b,off:=0}),Value.pointer (some aP),undef,undef,u4,
          Value.int IntKind.i64 ↑s,u6,u7,u8,undef,undef,undef,undef,u13,u14,u15,u16,u17,u18,u19,u20,u21,
          u22,u23,u24,u25,u26,u27,u28,u29,u30,u31,u32,u33,u34,u35,u36,u37,u38,u39,u40,u41,u42,u43,
          u44,u45,u46,u47,u48,u49,u50,u51,u52,u53,u54,u55,u56,u57,u58,u59,u60,u61,u62,u63,u64,u65,
          u66,u67,u68,u69,u70,u71,u72,u73,u74,u75,u76,u77,u78,u79,u80,u81,u82,u83,u84,u85,u86,u87,
          u88,u89,u90,u91,u92,u93,u94,u95,u96,u97,u98,u99,Z,T,u102,N,U,Q,F,u107,
          q,R,o,Y,z,P,u114,u115,H,t,u118,O,L,u,G,S,u124,u125,
          K,X,M,C,u130,u131,u132,E,u134,u135,u136,undef,undef,undef,undef,undef,undef,
          undef,undef,undef,undef,undef,undef,undef,undef,undef,undef,undef,undef,undef,undef,undef,
          undef,undef,undef,undef,undef,undef],
      defers:=[]}
    wr
  := by
 conv=>arg 2;whnf
 conv at ax1=>enter [a,wz,1,2];whnf
 replace h:k.go 200=(f,none):=h.symm.trans i
 obtain ⟨Ih,p',x,d,htk,Ze⟩:=j f h
 have c:=W.next V Ih
 have g:k.step p=({f with r:=(f.r.aB x).1},p',true):=by
  unfold Wk.step
  rw [h]
  simp only
  rw [if_neg Ih,d]
  simp only
  rw [Ze]
 generalize f.r.acc=ac at c d
 unfold rZ at c
 have n:Aside (EF w A B BP dU/\p.OK/\p.steps<=1000000/\p.act ac=(p',some x)/\uM f.r x/\k.step p=({f with r:=(f.r.aB x).1},p',true)):=⟨hB,D,J,d,htk,g⟩
 clear g W d htk Ze h Ih hI1 j i D J hB
 go_wp2_with (first
   | (go_at_call 36;(with_reducible refine kZ.mono ?_);rintro ev w1 ⟨rfl,rfl⟩)
   | (go_at_call 39;(with_reducible refine c.mono ?_);intro ev w2 hp2;obtain ⟨rfl,hW2⟩:=hp2;
      have l:∀y,Nw w2 y->_:=λy hn=>(hW2.nw hn).doA n.out.1 n.out.2.1 n.out.2.2.1 n.out.2.2.2.1;
      unfold rZ iy at l)
   | (go_at_call 32;(with_reducible refine (l _ ((cK.refl _ _).alloc _)).mono ?_);intro ev w4 Zf;obtain ⟨rfl,Cz⟩:=Zf;
      obtain ⟨rb4,-,-,-,m,-⟩:=Cz.cells;
      have Cg:∀y,Nw w4 y->_:=λy hn=>(Cz.nw hn).aB (hn.iM m) n.out.2.2.2.2.1;
      unfold iy at Cg;clear l))
 have h5:Nw w4 ((w4.alloc (.cells #[.int .i64 x.word.slot,.int .i64 x.word.gen,.int .i64 x.word.tag,.int .i64 x.word.num,.bool x.word.mark,.bool x.ok] 86)).drew):=Nw.drew ((cK.refl _ _).alloc _)
 have abM:=Cg _ h5
 have hc5:=h5.iM m
 clear Cg h5 m V
 go_region_with (first
   | (go_at_call 40;(with_reducible refine abM.mono ?_);rintro ev w6 ⟨rfl,Zd⟩))
 all_goals (
   go_wp2
   go_ret
   rw [n.out.2.2.2.2.2]
   exact ⟨rfl,Zd⟩)
end Go.Proofs.YthomdlajobnmnaaGreatDoor.Sk
