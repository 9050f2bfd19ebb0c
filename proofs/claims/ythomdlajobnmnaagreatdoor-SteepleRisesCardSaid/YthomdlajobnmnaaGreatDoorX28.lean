/- part 28 of the proof -/
import Derived.Test.YthomdlajobnmnaaGreatDoorX25
set_option linter.unusedSimpArgs false
set_option linter.unusedVariables false
namespace Go.Proofs.YthomdlajobnmnaaGreatDoor.Sk
open Go.RowKit Go.Rex
theorem abL (w:World) (x y:Value) (t:TypeId):∀j u,[x,y][j]?=some u->(w.alloc (.cells #[x,y] t)).cell? ((⟨w.heap.size,0,none⟩:Addr).add j)=some u:=by
 intro j u a
 match j,a with
 | 0,a =>
  simp at a
  subst a
  simp [Addr.add]
 | 1,a =>
  simp at a
  subst a
  simp [Addr.add]
 | j+2,a=>simp at a
set_option maxHeartbeats 40000000 in
set_option maxRecDepth 100000 in
theorem an1
  (I:Nat->Wk->Prop)
  (w:World)
  (b base A:Nat)
  (k:Wk)
  (aP:Addr)
  (p:PS)
  (B BP:Nat->Prop)
  (dU:Nat->Addr)
  (HI:Ce I)
  (hbase:base<=w.heap.size)
  (EG:Act->World->Prop)
  (wr:World)
  (u4 u6 u7 u8 u13 u14 u15 u16 u17 u18 u19 u20 u21 u22 u23 u24 u25 u26 u27 u28 u29 u30 u31 u32 u33 u34 u35 u36 u37 u38 u39 u40 u41 u42 u43 u44 u45 u46 u47 u48 u49 u50 u51 u52 u53 u54 u55 u56 u57 u58 u59 u60 u61 u62 u63 u64 u65 u66 u67 u68 u69 u70 u71 u72 u73 u74 u75 u76 u77 u78 u79 u80 u81 u82 u83 u84 u85 u86 u87 u88 u89 u90 u91 u92 u93 u94 u95 u96 u97 u98 u99 R L U E M H t T g J f Q m G u114 u115 y i X F C l u K Y V z P D q u130 S u132 r u134 W Z:Value)
  (Gf:Nat->Act->World->Prop)
  (Cx:Act->World->Prop)
  (ax2:∀(ym:Nat) (a':Act) (w':World),
  (∃u4 u5 u6 u7 u8 u13 u14 u15 u16 u17 u18 u19 u20 u21 u22 u23 u24 u25 u26 u27 u28 u29 u30 u31 u32 u33 u34 u35 u36
      u37 u38 u39 u40 u41 u42 u43 u44 u45 u46 u47 u48 u49 u50 u51 u52 u53 u54 u55 u56 u57 u58 u59 u60 u61 u62 u63 u64
      u65 u66 u67 u68 u69 u70 u71 u72 u73 u74 u75 u76 u77 u78 u79 u80 u81 u82 u83 u84 u85 u86 u87 u88 u89 u90 u91 u92
      u93 u94 u95 u96 u97 u98 u99 R L U E M H t T g J f Q m G u114 u115 y
      i X F C l u K Y V z P D q u130 S u132 r u134 W Z,
      (∃(s:Nat),
          u5=Value.int IntKind.i64 ↑s /\
            s+ym=200/\Aside (∃a,I ym a/\Wk.go ym a=Wk.go 200 k/\bO w w' b base A aP B BP a p)) /\
        a' =
          {
            tmps :=
              #[Value.pointer (some {block:=b,off:=0}),Value.pointer (some aP),undef,undef,u4,u5,u6,u7,
                u8,undef,undef,undef,undef,u13,u14,u15,u16,u17,u18,u19,u20,u21,u22,u23,u24,u25,u26,
                u27,u28,u29,u30,u31,u32,u33,u34,u35,u36,u37,u38,u39,u40,u41,u42,u43,u44,u45,u46,
                u47,u48,u49,u50,u51,u52,u53,u54,u55,u56,u57,u58,u59,u60,u61,u62,u63,u64,u65,u66,
                u67,u68,u69,u70,u71,u72,u73,u74,u75,u76,u77,u78,u79,u80,u81,u82,u83,u84,u85,u86,
                u87,u88,u89,u90,u91,u92,u93,u94,u95,u96,u97,u98,u99,R,L,U,E,M,H,
                t,T,g,J,f,Q,m,G,u114,u115,y,i,X,F,C,l,u,
                K,Y,V,z,P,D,q,u130,S,u132,r,u134,W,Z,undef,undef,
                undef,undef,undef,undef,undef,undef,undef,undef,undef,undef,undef,undef,undef,undef,
                undef,undef,undef,undef,undef,undef,undef,undef,undef,undef,undef],
            defers:=[]}) ->
    Gf ym a' w')
  (s:Nat)
  (a:Wk)
  (N:bO w wr b base A aP B BP a p)
  (rb:Nat)
  (Zc sv0:Value)
  (c0:Nat)
  (hc0:wr.cell? {block:=b,off:=0}=some (Value.pointer (some {block:=rb,off:=0})))
  (kZ:Calls Tryz.prog 36 #[Value.pointer (some {block:=rb,off:=0})] wr λe w' =>
  e=Ending.returned (Value.bool false)/\w'=wr)
  (Kc:s<200)
  (hsl:↑s<200)
  (hb0:a.r.step=0)
  (n:Nat)
  (ax3:∀(a':Act) (w':World),Handed Gf (n+1) a' w'->Cx a' w')
  (hsk:s+(n+1)=200)
  (hI1:I (n+1) a)
  (hgo:Wk.go (n+1) a=Wk.go 200 k)
  (hj:a.j=none)
  (q2:wr.cell? {block:=b,off:=2}=some (Value.pointer none))
  (hi:¬a.aj=true)
  (hi':a.aj=false)
  (hl:¬a.said.length>=a.ops.length)
  (hg0:¬(a.ops.getD a.said.length ⟨0,0,0,0⟩).bP)
  (hsn:oz wr dU)
  (hz:∀j,j<8->(dU j).block<wr.heap.size)
  :
  Code.wp Tryz.prog
    Kb
    (Exit.then Cx (Exit.inBlock 0 (Exit.then EG (bodyPost Tryz.prog Tryz.f26 λe w' =>
    e=Ending.returned (Value.bool (k.step p).snd.snd)/\bO w w' b base A aP B BP (k.step p).fst (k.step p).snd.fst))))
    {
      tmps :=
        #[Value.pointer (some {block:=b,off:=0}),Value.pointer (some aP),undef,undef,u4,
          Value.int IntKind.i64 ↑s,u6,u7,u8,undef,undef,undef,undef,u13,u14,u15,u16,u17,u18,u19,u20,u21,
          u22,u23,u24,u25,u26,u27,u28,u29,u30,u31,u32,u33,u34,u35,u36,u37,u38,u39,u40,u41,u42,u43,
          u44,u45,u46,u47,u48,u49,u50,u51,u52,u53,u54,u55,u56,u57,u58,u59,u60,u61,u62,u63,u64,u65,
          u66,u67,u68,u69,u70,u71,u72,u73,u74,u75,u76,u77,u78,u79,u80,u81,u82,u83,u84,u85,u86,u87,
          u88,u89,u90,u91,u92,u93,u94,u95,u96,u97,u98,u99,R,L,U,E,M,H,t,T,
          g,J,f,Q,m,G,u114,u115,y,i,X,F,C,l,u,K,Y,V,
          z,P,D,q,u130,S,u132,r,u134,W,Z,undef,undef,undef,undef,undef,undef,
          undef,undef,undef,undef,undef,undef,undef,undef,undef,undef,undef,undef,undef,undef,undef,
          undef,undef,undef,undef,undef,undef],
      defers:=[]}
    wr
  := by
 conv=>arg 2;whnf
 have hl':a.said.length<a.ops.length:=by omega
 have hI2:=HI.bad _ _ hI1 hb0 hj hi' hl' hg0
 have hr:uL a.r:=HI.rt _ _ hI1
 have hlen:=HI.len _ _ hI1
 obtain ⟨-,-,-,-,-,-,-,q3,-,-⟩:=N.cells
 obtain ⟨⟨⟨ad,c⟩,hcc⟩,q1,Cf⟩:=N.Wh
 replace q1:wr.cell? ⟨b,1,none⟩=some (.slice ad a.ops.length c):=q1
 replace Cf:pV wr ad a.ops:=Cf
 clear hcc
 obtain ⟨aS,cS,q4⟩:=N.said
 rw [hi'] at q3
 obtain ⟨ao,rfl,O⟩:=Cf.ex a.said.length _ (List.getElem?_eq_getElem hl')
 clear Cf
 have KJ:∀o:Op,a.ops[a.said.length]=o->a.ops.getD a.said.length ⟨0,0,0,0⟩=o:=λo h=>by
  rw [List.getD_eq_getElem?_getD,List.getElem?_eq_getElem hl']
  exact h
 generalize ho:a.ops[a.said.length]=o at O
 have Ig:=KJ o ho
 have hg:¬o.bP:=by rw [<-Ig];exact hg0
 rw [Nat.mul_comm 4 a.said.length] at O
 obtain ⟨o1,o2,o3,o4⟩:=O
 rw [<-Addr.add_add,Addr.add_succ'] at o2 o3 o4
 have hlt:(a.said.length:Int)<(a.ops.length:Int):=by omega
 have d:=λwx (h:Nw wr wx)=>ajc (hsn.frame h.size λj hj=>h.block _ (hz j hj) id) hg
 unfold NW at d
 have A1:Aside (bO w wr b base A aP B BP a p/\I n {a with said:=a.said ++ [(0,0)]}/\Wk.go n {a with said:=a.said ++ [(0,0)]}=k.go 200/\a.ops.length<=100):=⟨N,hI2,(aje hb0 hj hi' hl' hg0).trans hgo,hlen⟩
 clear hI1 hgo N hI2 hg hg0 KJ Ig ho hr hlen
 go_wp2_with (first
   | (go_at_call 36;(with_reducible refine kZ.mono ?_);rintro ev w1 ⟨rfl,rfl⟩))
 go_quiet (fail)
 go_wp2_with fail
 go_region_with (first
   | (go_at_call 54;(with_reducible refine (d _ (by first | exact Nw.drewN (cK.refl _ _) _ | exact cK.refl _ _ | exact Nw.drew (cK.refl _ _) | exact (cK.refl _ _).alloc _ | exact Nw.drew ((cK.refl _ _).alloc _) | exact (Nw.drew (cK.refl _ _)).alloc _)).mono ?_);rintro ev w3 ⟨aJ,rfl,Cy⟩))
 all_goals (
   have hn:Nw w1 w3:=(Nw.drewN (cK.refl _ _) _).trans Cy
   have hWc:=A1.out.1.nw hn
   obtain ⟨sv,s1,s2,s3⟩:=hWc.J9
   have hbw:base<=w3.heap.size:=Nat.le_trans hbase hWc.ge
   have hz1:a.said.length<=100:=by have:=A1.out.2.2.2;omega
   obtain ⟨i0,hi,hy0,hy1,hy2⟩:=info_parts Ua
   have A5:Aside (∀w1 w2 v' (x:Int × Int),Nw w3 w1->w1.grownBy w2 sv.ownBlock->w2.ownsRow base 39 2 v' (a.said.length+1) (qH a.said ++ [.int .i64 x.1,.int .i64 x.2])->(v'.ownBlock=sv.ownBlock\/v'.ownBlock=some w1.heap.size)->w2.frozen? ⟨b,4,none⟩=false/\w2.cell? ⟨b,4,none⟩=some sv/\bO w (w2.setCell ⟨b,4,none⟩ v') b base A aP B BP {a with said:=a.said ++ [x]} p):=s3
   have Ka:∀o,Nw w3 (w3.alloc o):=λo=>(cK.refl _ _).alloc o
   have hm1:a.said.length+1<=maxLen:=by unfold maxLen;omega
   have hm2:(a.said.length+1) * 16<=140737488355328:=by omega
   have hbA:∀o,base<=(w3.alloc o).heap.size:=λo=>by
     have:=(Ka o).size
     omega
   clear hWc s3 hn Cy d kZ q1 q2 q3 q4
   go_wp2_with (first
     | (at_builtin;refine wpList_append_own_at _ rfl _ _ 42 rfl base 39 i0 (.agg #[.int .i64 0,.int .i64 0]) 2 16 Tryz.underlying42 hi hy0 hy1 hy2 rfl (by decide) _ _ _ rfl (s2.alloc _) _ 1 1 [.int .i64 0,.int .i64 0] rfl rfl (abL _ _ _ _) (T9 _ _) hm1 hm2 (hbA _) ?_;intro v' w4 e1 e2 _ e3;obtain ⟨gA,cA,rfl⟩:=M5 e1;obtain ⟨f1,f2,Cz⟩:=A5.out _ _ _ (0,0) (Ka _) e2 e1 e3)
     | fail)
   all_goals (
     go_wp2_with fail
     go_roundg n
     case measure=>omega
     case rel=>exact ⟨s+1,by go_num,by omega,_,A1.out.2.1,A1.out.2.2.1,Cz⟩))
end Go.Proofs.YthomdlajobnmnaaGreatDoor.Sk
