/- part 26 of the proof -/
import Derived.Test.YthomdlajobnmnaaGreatDoorX25
set_option linter.unusedSimpArgs false
set_option linter.unusedVariables false
namespace Go.Proofs.YthomdlajobnmnaaGreatDoor.Sk
open Go.RowKit Go.Rex
set_option maxHeartbeats 40000000 in
set_option maxRecDepth 100000 in
theorem anW
  (I:Nat->Wk->Prop)
  (w:World)
  (b base A:Nat)
  (k:Wk)
  (aP:Addr)
  (p:PS)
  (B BP:Nat->Prop)
  (dU:Nat->Addr)
  (HI:Ce I)
  (hbase:base<=w.heap.size)
  (EG:Act->World->Prop)
  (wr:World)
  (u4 u6 u7 u8 u13 u14 u15 u16 u17 u18 u19 u20 u21 u22 u23 u24 u25 u26 u27 u28 u29 u30 u31 u32 u33 u34 u35 u36 u37 u38 u39 u40 u41 u42 u43 u44 u45 u46 u47 u48 u49 u50 u51 u52 u53 u54 u55 u56 u57 u58 u59 u60 u61 u62 u63 u64 u65 u66 u67 u68 u69 u70 u71 u72 u73 u74 u75 u76 u77 u78 u79 u80 u81 u82 u83 u84 u85 u86 u87 u88 u89 u90 u91 u92 u93 u94 u95 u96 u97 u98 u99 R L U E M H u T g J f Q m G u114 u115 y i X F C l x K Y V z P D q u130 S u132 t u134 W Z:Value)
  (Gf:Nat->Act->World->Prop)
  (Cx:Act->World->Prop)
  (ax2:∀(ym:Nat) (a':Act) (w':World),
  (∃u4 u5 u6 u7 u8 u13 u14 u15 u16 u17 u18 u19 u20 u21 u22 u23 u24 u25 u26 u27 u28 u29 u30 u31 u32 u33 u34 u35 u36
      u37 u38 u39 u40 u41 u42 u43 u44 u45 u46 u47 u48 u49 u50 u51 u52 u53 u54 u55 u56 u57 u58 u59 u60 u61 u62 u63 u64
      u65 u66 u67 u68 u69 u70 u71 u72 u73 u74 u75 u76 u77 u78 u79 u80 u81 u82 u83 u84 u85 u86 u87 u88 u89 u90 u91 u92
      u93 u94 u95 u96 u97 u98 u99 R L U E M H u T g J f Q m G u114 u115 y
      i X F C l x K Y V z P D q u130 S u132 t u134 W Z,
      (∃(s:Nat),
          u5=Value.int IntKind.i64 ↑s /\
            s+ym=200/\Aside (∃a,I ym a/\Wk.go ym a=Wk.go 200 k/\bO w w' b base A aP B BP a p)) /\
        a' =
          {
            tmps :=
              #[Value.pointer (some {block:=b,off:=0}),Value.pointer (some aP),undef,undef,u4,u5,u6,u7,
                u8,undef,undef,undef,undef,u13,u14,u15,u16,u17,u18,u19,u20,u21,u22,u23,u24,u25,u26,
                u27,u28,u29,u30,u31,u32,u33,u34,u35,u36,u37,u38,u39,u40,u41,u42,u43,u44,u45,u46,
                u47,u48,u49,u50,u51,u52,u53,u54,u55,u56,u57,u58,u59,u60,u61,u62,u63,u64,u65,u66,
                u67,u68,u69,u70,u71,u72,u73,u74,u75,u76,u77,u78,u79,u80,u81,u82,u83,u84,u85,u86,
                u87,u88,u89,u90,u91,u92,u93,u94,u95,u96,u97,u98,u99,R,L,U,E,M,H,
                u,T,g,J,f,Q,m,G,u114,u115,y,i,X,F,C,l,x,
                K,Y,V,z,P,D,q,u130,S,u132,t,u134,W,Z,undef,undef,
                undef,undef,undef,undef,undef,undef,undef,undef,undef,undef,undef,undef,undef,undef,
                undef,undef,undef,undef,undef,undef,undef,undef,undef,undef,undef],
            defers:=[]}) ->
    Gf ym a' w')
  (s:Nat)
  (a:Wk)
  (N:bO w wr b base A aP B BP a p)
  (rb:Nat)
  (Zc sv0:Value)
  (c0:Nat)
  (hc0:wr.cell? {block:=b,off:=0}=some (Value.pointer (some {block:=rb,off:=0})))
  (kZ:Calls Tryz.prog 36 #[Value.pointer (some {block:=rb,off:=0})] wr λe w' =>
  e=Ending.returned (Value.bool false)/\w'=wr)
  (Kc:s<200)
  (hsl:↑s<200)
  (hb0:a.r.step=0)
  (n:Nat)
  (ax3:∀(a':Act) (w':World),Handed Gf (n+1) a' w'->Cx a' w')
  (hsk:s+(n+1)=200)
  (hI1:I (n+1) a)
  (hgo:Wk.go (n+1) a=Wk.go 200 k)
  (hj:a.j=none)
  (q2:wr.cell? {block:=b,off:=2}=some (Value.pointer none))
  (hi:¬a.aj=true)
  (hi':a.aj=false)
  (hl:¬a.said.length>=a.ops.length)
  (hg0:(a.ops.getD a.said.length ⟨0,0,0,0⟩).bP)
  :
  Code.wp Tryz.prog
    Kb
    (Exit.then Cx (Exit.inBlock 0 (Exit.then EG (bodyPost Tryz.prog Tryz.f26 λe w' =>
    e=Ending.returned (Value.bool (k.step p).snd.snd)/\bO w w' b base A aP B BP (k.step p).fst (k.step p).snd.fst))))
    {
      tmps :=
        #[Value.pointer (some {block:=b,off:=0}),Value.pointer (some aP),undef,undef,u4,
          Value.int IntKind.i64 ↑s,u6,u7,u8,undef,undef,undef,undef,u13,u14,u15,u16,u17,u18,u19,u20,u21,
          u22,u23,u24,u25,u26,u27,u28,u29,u30,u31,u32,u33,u34,u35,u36,u37,u38,u39,u40,u41,u42,u43,
          u44,u45,u46,u47,u48,u49,u50,u51,u52,u53,u54,u55,u56,u57,u58,u59,u60,u61,u62,u63,u64,u65,
          u66,u67,u68,u69,u70,u71,u72,u73,u74,u75,u76,u77,u78,u79,u80,u81,u82,u83,u84,u85,u86,u87,
          u88,u89,u90,u91,u92,u93,u94,u95,u96,u97,u98,u99,R,L,U,E,M,H,u,T,
          g,J,f,Q,m,G,u114,u115,y,i,X,F,C,l,x,K,Y,V,
          z,P,D,q,u130,S,u132,t,u134,W,Z,undef,undef,undef,undef,undef,undef,
          undef,undef,undef,undef,undef,undef,undef,undef,undef,undef,undef,undef,undef,undef,undef,
          undef,undef,undef,undef,undef,undef],
      defers:=[]}
    wr
  := by
 conv=>arg 2;whnf
 have hl':a.said.length<a.ops.length:=by omega
 obtain ⟨b1,b2⟩:=HI.start _ _ hI1 hb0 hj hi' hl' hg0
 have hg:=hg0
 clear hg0
 have hr:uL a.r:=HI.rt _ _ hI1
 obtain ⟨-,-,-,-,-,-,-,q3,-,-⟩:=N.cells
 obtain ⟨⟨⟨ad,c⟩,hcc⟩,q1,Cf⟩:=N.Wh
 replace q1:wr.cell? ⟨b,1,none⟩=some (.slice ad a.ops.length c):=q1
 replace Cf:pV wr ad a.ops:=Cf
 clear hcc
 obtain ⟨aS,cS,q4⟩:=N.said
 rw [hi'] at q3
 obtain ⟨ao,rfl,O⟩:=Cf.ex a.said.length _ (List.getElem?_eq_getElem hl')
 clear Cf
 have KJ:∀o:Op,a.ops[a.said.length]=o->a.ops.getD a.said.length ⟨0,0,0,0⟩=o:=λo h=>by
  rw [List.getD_eq_getElem?_getD,List.getElem?_eq_getElem hl']
  exact h
 generalize ho:a.ops[a.said.length]=o at O
 have Ig:=KJ o ho
 rw [Ig] at hg b2
 rw [Nat.mul_comm 4 a.said.length] at O
 obtain ⟨o1,o2,o3,o4⟩:=O
 rw [<-Addr.add_add,Addr.add_succ'] at o2 o3 o4
 have hlt:(a.said.length:Int)<(a.ops.length:Int):=by omega
 have d:=λwx=>abj (w:=wx) hg
 unfold NW at d
 have A1:Aside (bO w wr b base A aP B BP a p/\I n {a with j:=some (Jb.new o),aj:=true,r:=(a.r.begin (Ca.of 1)).1}/\Wk.go n {a with j:=some (Jb.new o),aj:=true,r:=(a.r.begin (Ca.of 1)).1}=k.go 200/\uL a.r):=⟨N,b2,by rw [<-Ig];exact (abK hb0 hj hi' hl' (by rw [Ig];exact hg) b1).trans hgo,hr⟩
 clear hI1 hgo N b1 b2 hg KJ Ig ho hr
 go_wp2_with (first
   | (go_at_call 36;(with_reducible refine kZ.mono ?_);rintro ev w1 ⟨rfl,rfl⟩))
 go_quiet (fail)
 go_wp2_with fail
 go_region_with (first
   | (go_at_call 54;(with_reducible refine (d _).mono ?_);rintro ev w3 ⟨aJ,BJ,rfl,hJ,Y5,Cy⟩))
 all_goals (
   have hn:Nw w1 w3:=⟨Cy.os,Cy.tape,Cy.output,Cy.size,Cy.block⟩
   have hWo:=A1.out.1.nw hn
   have f2:=hWo.We hj
   obtain ⟨-,-,-,-,-,-,-,f3,-,ff⟩:=hWo.cells
   have ff2:=ff 2
   have ff3:=ff 3
   have hW3:=(A1.out.1.abI hn hJ Y5).put 3 (.bool true) (some (Jb.new o)) true (λh=>by cases h) (λ_=>rfl) (λ_=>rfl) (λh=>absurd rfl h) (.inr rfl)
   obtain ⟨rb3,-,-,-,hc3,-⟩:=hW3.cells
   have EH:=hW3.begin hc3 A1.out.2.2.2 hb0 (c:=Ca.of 1) (adb (by decide))
   rw [caV] at EH
   clear Cy hn hWo ff hW3 hJ Y5 d kZ
   go_wp2_with (first
     | (go_at_call 37;(with_reducible refine EH.mono ?_);intro ev w2 hp2;obtain ⟨rfl,hW2⟩:=hp2))
   go_roundg n
   case measure=>omega
   case rel=>exact ⟨s+1,by go_num,by omega,_,A1.out.2.1,A1.out.2.2.1,hW2⟩)
end Go.Proofs.YthomdlajobnmnaaGreatDoor.Sk
