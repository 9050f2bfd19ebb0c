/- part 27 of the proof -/
import Derived.Test.YthomdlajobnmnaaGreatDoorX25
set_option linter.unusedSimpArgs false
set_option linter.unusedVariables false
namespace Go.Proofs.YthomdlajobnmnaaGreatDoor.Sk
open Go.RowKit Go.Rex
set_option maxHeartbeats 40000000 in
set_option maxRecDepth 100000 in
theorem anX
  (I:Nat->Wk->Prop)
  (w:World)
  (b base A:Nat)
  (k:Wk)
  (aP:Addr)
  (p:PS)
  (B BP:Nat->Prop)
  (dU:Nat->Addr)
  (HI:Ce I)
  (hbase:base<=w.heap.size)
  (EG:Act->World->Prop)
  (wr:World)
  (u4 u6 u7 u8 u13 u14 u15 u16 u17 u18 u19 u20 u21 u22 u23 u24 u25 u26 u27 u28 u29 u30 u31 u32 u33 u34 u35 u36 u37 u38 u39 u40 u41 u42 u43 u44 u45 u46 u47 u48 u49 u50 u51 u52 u53 u54 u55 u56 u57 u58 u59 u60 u61 u62 u63 u64 u65 u66 u67 u68 u69 u70 u71 u72 u73 u74 u75 u76 u77 u78 u79 u80 u81 u82 u83 u84 u85 u86 u87 u88 u89 u90 u91 u92 u93 u94 u95 u96 u97 u98 u99 u100 O u102 L u104 u105 E R z u109 u Q C u113 Y u115 G u117 T M J u121 F u123 u124 u125 H u127 K u129 u130 u131 V D W S U:Value)
  (Gf:Nat->Act->World->Prop)
  (Cx:Act->World->Prop)
  (ax2:∀(ym:Nat) (a':Act) (w':World),
  (∃u4 u5 u6 u7 u8 u13 u14 u15 u16 u17 u18 u19 u20 u21 u22 u23 u24 u25 u26 u27 u28 u29 u30 u31 u32 u33 u34 u35 u36
      u37 u38 u39 u40 u41 u42 u43 u44 u45 u46 u47 u48 u49 u50 u51 u52 u53 u54 u55 u56 u57 u58 u59 u60 u61 u62 u63 u64
      u65 u66 u67 u68 u69 u70 u71 u72 u73 u74 u75 u76 u77 u78 u79 u80 u81 u82 u83 u84 u85 u86 u87 u88 u89 u90 u91 u92
      u93 u94 u95 u96 u97 u98 u99 u100 O u102 L u104 u105 E R z u109 u Q C u113 Y u115 G
      u117 T M J u121 F u123 u124 u125 H u127 K u129 u130 u131 V D W S U,
      (∃(s:Nat),
          u5=Value.int IntKind.i64 ↑s /\
            s+ym=200/\Aside (∃a,I ym a/\Wk.go ym a=Wk.go 200 k/\bO w w' b base A aP B BP a p)) /\
        a' =
          {
            tmps :=
              #[Value.pointer (some {block:=b,off:=0}),Value.pointer (some aP),undef,undef,u4,u5,u6,u7,
                u8,undef,undef,undef,undef,u13,u14,u15,u16,u17,u18,u19,u20,u21,u22,u23,u24,u25,u26,
                u27,u28,u29,u30,u31,u32,u33,u34,u35,u36,u37,u38,u39,u40,u41,u42,u43,u44,u45,u46,
                u47,u48,u49,u50,u51,u52,u53,u54,u55,u56,u57,u58,u59,u60,u61,u62,u63,u64,u65,u66,
                u67,u68,u69,u70,u71,u72,u73,u74,u75,u76,u77,u78,u79,u80,u81,u82,u83,u84,u85,u86,
                u87,u88,u89,u90,u91,u92,u93,u94,u95,u96,u97,u98,u99,u100,O,u102,L,u104,u105,
                E,R,z,u109,u,Q,C,u113,Y,u115,G,u117,T,M,J,u121,F,
                u123,u124,u125,H,u127,K,u129,u130,u131,V,D,W,S,U,undef,undef,
                undef,undef,undef,undef,undef,undef,undef,undef,undef,undef,undef,undef,undef,undef,
                undef,undef,undef,undef,undef,undef,undef,undef,undef,undef,undef],
            defers:=[]}) ->
    Gf ym a' w')
  (s:Nat)
  (a:Wk)
  (hW1:bO w wr b base A aP B BP a p)
  (rb:Nat)
  (Zc sv0:Value)
  (c0:Nat)
  (q:wr.cell? {block:=b,off:=0}=some (Value.pointer (some {block:=rb,off:=0})))
  (kZ:Calls Tryz.prog 36 #[Value.pointer (some {block:=rb,off:=0})] wr λe w' ↦
  e=Ending.returned (Value.bool false)/\w'=wr)
  (Kc:s<200)
  (hsl:↑s<200)
  (hb0:a.r.step=0)
  (n:Nat)
  (ax3:∀(a':Act) (w':World),Handed Gf (n+1) a' w'->Cx a' w')
  (hsk:s+(n+1)=200)
  (hI1:I (n+1) a)
  (hgo:Wk.go (n+1) a=Wk.go 200 k)
  (j:Jb)
  (hj:a.j=some j)
  :
  Code.wp Tryz.prog
    Kb
    (Exit.then Cx (Exit.inBlock 0 (Exit.then EG (bodyPost Tryz.prog Tryz.f26 λe w' ↦
    e=Ending.returned (Value.bool (k.step p).snd.snd)/\bO w w' b base A aP B BP (k.step p).fst (k.step p).snd.fst))))
    {
      tmps :=
        #[Value.pointer (some {block:=b,off:=0}),Value.pointer (some aP),undef,undef,u4,
          Value.int IntKind.i64 ↑s,u6,u7,u8,undef,undef,undef,undef,u13,u14,u15,u16,u17,u18,u19,u20,u21,
          u22,u23,u24,u25,u26,u27,u28,u29,u30,u31,u32,u33,u34,u35,u36,u37,u38,u39,u40,u41,u42,u43,
          u44,u45,u46,u47,u48,u49,u50,u51,u52,u53,u54,u55,u56,u57,u58,u59,u60,u61,u62,u63,u64,u65,
          u66,u67,u68,u69,u70,u71,u72,u73,u74,u75,u76,u77,u78,u79,u80,u81,u82,u83,u84,u85,u86,u87,
          u88,u89,u90,u91,u92,u93,u94,u95,u96,u97,u98,u99,u100,O,u102,L,u104,u105,E,R,
          z,u109,u,Q,C,u113,Y,u115,G,u117,T,M,J,u121,F,u123,u124,u125,
          H,u127,K,u129,u130,u131,V,D,W,S,U,undef,undef,undef,undef,undef,undef,
          undef,undef,undef,undef,undef,undef,undef,undef,undef,undef,undef,undef,undef,undef,undef,
          undef,undef,undef,undef,undef,undef],
      defers:=[]}
    wr
  := by
 conv=>arg 2;whnf
 obtain ⟨aJ,hcJ⟩:=hW1.ED hj
 obtain ⟨htag,N⟩:=HI.next _ _ _ hI1 hb0 hj
 have hr:uL a.r:=HI.rt _ _ hI1
 have hlen:=HI.len _ _ hI1
 obtain ⟨Ba,hWa,hBa,hout⟩:=hW1.wk
 have hX1:=Wx.of hWa hBa
 have EJ:∀wx X,Wx wr wx X b base A Ba a->wx.cell? ⟨b,0,none⟩=some (.pointer (some ⟨rb,0,none⟩))->_:=λwx X h hc=>h.bS hc
 generalize hrp:a.r.bS=rp at EJ N htag
 obtain ⟨P,f,Wi⟩:∃P f,j.next rp=(P,f):=⟨_,_,rfl⟩
 have hnj:∀wx X,Wx wr wx X b base A Ba a->wx.cell? ⟨b,2,none⟩=some (.pointer (some aJ))->_:=λwx X h hc=>h.next (x:=rp) hc hj htag Wi
 rw [Wi] at N
 simp only at N
 unfold iy at EJ
 unfold iy oG at hnj
 have A1:Aside (bO w wr b base A aP B BP a p/\a.go (n+1)=k.go 200/\uL a.r/\a.r.bS=rp/\a.ops.length<=100/\j.next rp=(P,f)):=⟨hW1,hgo,hr,hrp,hlen,Wi⟩
 have A2:Aside ((f.kind=12/\a.said.length<a.ops.length/\I n {a with said:=a.said ++ [(f.code,f.val)],j:=none})\/(f.kind≠12/\f.OK/\(a.r.begin f).2=true/\I n {a with j:=some P,r:=(a.r.begin f).1})):=N
 have A3:Aside (∀wb k' B',bV wb b base A k' B'->(∀x,B' x->Ba x\/wr.heap.size<=x)->cK wr Ba wb->bO w wb b base A aP B BP k' p):=hout
 clear hI1 hgo hW1 hr htag hrp hlen N Wi hWa hBa hout
 go_wp2_with (first
   | (go_at_call 36;(with_reducible refine kZ.mono ?_);rintro ev m ⟨rfl,rfl⟩))
 go_cut [8] from 13 to 136 (λs8 wx=>∃x,s8=.pointer (some ⟨x,0,none⟩)/\Aside (bO w wx b base A aP B BP {a with j:=some P} p/\wx.heap[x]?=some (.cells (Q5 f).toArray 83 (0,0))))
 case first =>
  as_aux_lemma =>
   have hdc:∀i,m.drew.cell? ⟨b,i,none⟩=m.cell? ⟨b,i,none⟩:=λ_=>rfl
   have Z:∀o,Nw m (m.alloc o).drew:=λo=>Nw.drew ((cK.refl _ _).alloc o)
   have anY:∀o,(m.alloc o).cell? ⟨b,0,none⟩=some (.pointer (some ⟨rb,0,none⟩)):=λo=>(Z o).iM q
   have anZ:∀o,(m.alloc o).cell? ⟨b,2,none⟩=some (.pointer (some aJ)):=λo=>(Z o).iM hcJ
   have hz1:∀o,(m.alloc o).drew.heap[m.heap.size]?=some o:=λo=>by show (m.heap.push o)[m.heap.size]?=some o;simp
   clear A1 A2 kZ
   have hbl:b<m.heap.size:=World.block_lt_of_cell? _ _ q
   have l:True:=trivial
   have Ch:True:=trivial
   have hS5:True:=trivial
   have Rb:Obj->True:=λ_=>trivial
   have ajl:Obj->True:=λ_=>trivial
   have hS1:m.cell? ⟨b,0,none⟩=some (.pointer (some ⟨rb,0,none⟩))/\m.cell? ⟨b,2,none⟩=some (.pointer (some aJ)):=⟨q,hcJ⟩
   go_region_held3 (λw'=>w'.cell? ⟨b,0,none⟩=some (.pointer (some ⟨rb,0,none⟩))/\w'.cell? ⟨b,2,none⟩=some (.pointer (some aJ)))
    (first | exact hS1 | exact ⟨anY _,anZ _⟩ | exact hS5 | exact l | exact Ch | exact Rb _ | exact ajl _)
    (first
    | (go_at_call 38;(with_reducible refine (EJ _ _ hX1.drew ((hdc 0).trans q)).mono ?_);rintro ev g ⟨rfl,hX2,-,d⟩;have l:g.cell? ⟨b,0,none⟩=some (.pointer (some ⟨rb,0,none⟩))/\g.cell? ⟨b,2,none⟩=some (.pointer (some aJ)):=⟨(d 0).trans ((hdc 0).trans q),(d 2).trans ((hdc 2).trans hcJ)⟩;have hz2:∀o,(g.alloc o).heap[g.heap.size]?=some o:=(λo=>by show (g.heap.push o)[g.heap.size]?=some o;simp);have hn2:∀o,Nw g (g.alloc o):=(λo=>(cK.refl _ _).alloc o);have Rb:∀o,(g.alloc o).cell? ⟨b,0,none⟩=some (.pointer (some ⟨rb,0,none⟩))/\(g.alloc o).cell? ⟨b,2,none⟩=some (.pointer (some aJ)):=(λo=>⟨(hn2 o).iM l.1,(hn2 o).iM l.2⟩);clear d)
    | (go_at_call 38;(with_reducible refine (EJ _ _ (hX1.alloc _).drew ((Z _).iM q)).mono ?_);rintro ev g ⟨rfl,hX2,hk2,d⟩;have l:g.cell? ⟨b,0,none⟩=some (.pointer (some ⟨rb,0,none⟩))/\g.cell? ⟨b,2,none⟩=some (.pointer (some aJ)):=⟨(d 0).trans ((Z _).iM q),(d 2).trans ((Z _).iM hcJ)⟩;have hz2:=(hk2 _ (.inr rfl)).trans (hz1 _);clear d hk2)
    | (go_at_call 56;(with_reducible refine (hnj _ _ hX2 l.2).mono ?_);rintro ev w3 ⟨rfl,hX3,hk3,d⟩;have Ch:w3.cell? ⟨b,0,none⟩=some (.pointer (some ⟨rb,0,none⟩))/\w3.cell? ⟨b,2,none⟩=some (.pointer (some aJ)):=⟨(d 0).trans l.1,(d 2).trans l.2⟩;have Cy:∀o,Nw w3 (w3.alloc o):=(λo=>(cK.refl _ _).alloc o);have ajl:∀o,(w3.alloc o).cell? ⟨b,0,none⟩=some (.pointer (some ⟨rb,0,none⟩))/\(w3.alloc o).cell? ⟨b,2,none⟩=some (.pointer (some aJ)):=(λo=>⟨(Cy o).iM Ch.1,(Cy o).iM Ch.2⟩);clear d;try (have hz3:=(hk3 _ (.inr rfl)).trans hz2;have hxb:b≠m.heap.size:=Nat.ne_of_lt hbl))
    | (go_at_call 56;(with_reducible refine (hnj _ _ (hX2.alloc _) (Rb _).2).mono ?_);rintro ev w3 ⟨rfl,hX3,hk3,d⟩;have Ch:w3.cell? ⟨b,0,none⟩=some (.pointer (some ⟨rb,0,none⟩))/\w3.cell? ⟨b,2,none⟩=some (.pointer (some aJ)):=⟨(d 0).trans (Rb _).1,(d 2).trans (Rb _).2⟩;clear d;have hz3:=(hk3 _ (.inr rfl)).trans (hz2 _);have hxb:b≠g.heap.size:=Nat.ne_of_lt (World.block_lt_of_cell? _ _ l.1))
    | ((with_reducible change Oper.upon _ _ _ _ _ _);refine abE (Q5 f) hz3 rfl ?_;intro w5 uD hh5;have hb5:=Q4 (uD.block b (World.block_lt_of_cell? _ _ Ch.1) hxb);have hS5:w5.cell? ⟨b,0,none⟩=some (.pointer (some ⟨rb,0,none⟩))/\w5.cell? ⟨b,2,none⟩=some (.pointer (some aJ)):=⟨(hb5 0).trans Ch.1,(hb5 2).trans Ch.2⟩;clear hb5))
   all_goals (
     go_wp2_with fail
     go_meet
     first
       | exact ⟨_,rfl,(hX3.alloc _).out A3.out,(Ie _ _).trans rfl⟩
       | exact ⟨_,rfl,(hX3.afj ⟨uD.os,uD.tape,uD.output,uD.size,λy hy hn=>uD.block y hy λe=>hn (.inr e)⟩).out A3.out,hh5⟩)
 case rest =>
  obtain ⟨xc,rfl,YM⟩:=hcut
  obtain ⟨t,hhc⟩:=YM.out
  obtain ⟨⟨y0,y1,y2,y3,y4,y5,y6,y7,y8⟩,y9,y10,y11,y12,y13,y14,y15,y16,y17⟩:=abF hhc
  have A6:=YM
  clear hhc hnj EJ hX1 kZ
  rcases A2.out with ⟨h12,hl12,Rc⟩ | ⟨h12,ajn,hbt,Rc⟩
  ·as_aux_lemma =>
    have an0:(f.kind == 12)=true:=by simp [h12]
    obtain ⟨sv,s1,s2,s3⟩:=t.J9
    have hbw:base<=wc.heap.size:=Nat.le_trans hbase t.ge
    have hz1:a.said.length<=100:=by have:=A1.out.2.2.2.2.1;omega
    obtain ⟨i0,hi,hy0,hy1,hy2⟩:=info_parts Ua
    have A4:Aside (I n {a with said:=a.said ++ [(f.code,f.val)],j:=none}/\Wk.go n {a with said:=a.said ++ [(f.code,f.val)],j:=none}=k.go 200):=by
     obtain ⟨-,q2,-,q4,-,q6⟩:=A1.out
     refine ⟨Rc,Eq.trans ?_ q2⟩
     have hq:j.next a.r.bS=(P,f):=by rw [q4];exact q6
     have:=Y6 (n:=n) hb0 hj (by rw [hq];exact h12)
     rw [hq] at this
     exact this
    have A5:Aside (∀m g v' (x:Int × Int),Nw wc m->m.grownBy g sv.ownBlock->g.ownsRow base 39 2 v' (a.said.length+1) (qH a.said ++ [.int .i64 x.1,.int .i64 x.2])->(v'.ownBlock=sv.ownBlock\/v'.ownBlock=some m.heap.size)->g.frozen? ⟨b,4,none⟩=false/\g.cell? ⟨b,4,none⟩=some sv/\bO w (g.setCell ⟨b,4,none⟩ v') b base A aP B BP {a with said:=a.said ++ [x],j:=some P} p):=s3
    clear t Rc s3
    go_wp2_with fail
    have Ka:∀o,Nw wc (wc.alloc o).drew:=λo=>Nw.drew ((cK.refl _ _).alloc o)
    have alx:∀o,(wc.alloc o).drew.ownsRow base 39 2 sv a.said.length (qH a.said):=λo=>nD s2 λx hx _=>(Ka o).block x hx id
    have s1a:∀o,(wc.alloc o).cell? ⟨b,4,none⟩=some sv:=λo=>(Ka o).iM s1
    have hm1:a.said.length+1<=maxLen:=by unfold maxLen;omega
    have hm2:(a.said.length+1) * 16<=140737488355328:=by omega
    have hbA:∀o,base<=((wc.alloc o).drew).heap.size:=λo=>by
     have:=(Ka o).size
     omega
    go_region_law (refine J7 rfl (.tmp 120) (.tmp 123) 42 rfl base 39 i0 (.agg #[.int .i64 0,.int .i64 0]) 2 16 Tryz.underlying42 hi hy0 hy1 hy2 rfl (by decide) _ _ _ rfl (alx _) _ 1 1 [.int .i64 f.code,.int .i64 f.val] rfl rfl (afb _ _ _ _) (T9 _ _) hm1 hm2 (hbA _) ?_;intro v' w4 e1 e2 e3;obtain ⟨gA,cA,rfl⟩:=M5 e1;obtain ⟨f1,f2,Cz⟩:=A5.out _ _ _ (f.code,f.val) (Ka _) e2 e1 e3)
    all_goals (
      have g2:=Cz.ED (j:=P) rfl
      obtain ⟨aJ',g2⟩:=g2
      obtain ⟨-,-,-,-,-,-,-,-,-,g5⟩:=Cz.cells
      have g52:=g5 2
      have hW5:=Cz.put 2 (.pointer none) none a.aj (λ_=>⟨rfl,rfl⟩) (λh=>by cases h) (λh=>absurd rfl h) (λ_=>rfl) (.inl rfl)
      clear g5 Cz e1 e2 e3
      go_wp2_with fail
      go_roundg n
      case measure=>omega
      case rel=>exact ⟨s+1,by go_num,by omega,_,A4.out.1,A4.out.2,hW5⟩)
  ·as_aux_lemma =>
    have an0:(f.kind == 12)=false:=by simp [h12]
    have A4:Aside (I n {a with j:=some P,r:=(a.r.begin f).1}/\Wk.go n {a with j:=some P,r:=(a.r.begin f).1}=k.go 200):=by
     obtain ⟨-,q2,-,q4,-,q6⟩:=A1.out
     refine ⟨Rc,Eq.trans ?_ q2⟩
     have hq:j.next a.r.bS=(P,f):=by rw [q4];exact q6
     have:=afi (n:=n) hb0 hj (by rw [hq];exact h12) (by rw [hq];exact hbt)
     rw [hq] at this
     exact this
    obtain ⟨rbc,-,-,-,d,-⟩:=t.cells
    have EH:=(t.nw (Nw.drew (cK.refl wc _))).begin (rb:=rbc) d A1.out.2.2.1 hb0 (c:=f) ajn
    rw [show oG f=.agg (Q5 f).toArray from rfl] at EH
    clear t Rc hbt ajn
    go_wp2_with fail
    refine wp_region_still_tail 5 (by kernel_rfl) (by kernel_rfl) ?_
    simp only [List.take_succ_cons,List.take_zero,List.drop_succ_cons,List.drop_zero]
    still_step
    still_step
    still_step
    still_step
    refine J6 rfl 83 (.tmp 8) rfl xc rfl _ _ _ _ A6.out.2 Tryz.underlying83 rfl (by kernel_rfl) ?_
    refine wpStill_nil ?_
    change wpList _ _ _ _ _ wc.drew
    go_wp2_with (first
      | (go_at_call 37;(with_reducible refine EH.mono ?_);rintro ev w6 ⟨rfl,Zd⟩))
    go_roundg n
    case measure=>omega
    case rel=>exact ⟨s+1,by go_num,by omega,_,A4.out.1,A4.out.2,Zd⟩
end Go.Proofs.YthomdlajobnmnaaGreatDoor.Sk
