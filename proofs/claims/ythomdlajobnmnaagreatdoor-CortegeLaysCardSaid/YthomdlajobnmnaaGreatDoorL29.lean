/- part 29 of the proof -/
import Derived.Test.YthomdlajobnmnaaGreatDoorL27
set_option linter.unusedSimpArgs false
set_option linter.unusedVariables false
namespace Go.Proofs.YthomdlajobnmnaaGreatDoor.Cq
open Go.RowKit Go.Rex
theorem sSL {P:Program} {ops:Array Oper} {Q:Act→Prop} {a:Act} {w:World} {o:Oper} {l:List Oper} (hd:o.guard=none) (y:TypeId) (x:Operand) (ho:o.op=.load y x) (g:Nat) (hx:a.eval x=.pointer (some ⟨g,0,none⟩)) (t:TypeId) (cs:Array Value) (fr:Nat × Nat) (d:TypeDesc) (hg:w.heap[g]?=some (.cells cs t fr)) (hu:P.underlying y=some d) (hs:(match d with | .struct _ | .array _ _=>true | _=>false)=true) (hi:(P.info? y).map (·.size)=some cs.size) (h:wpStill P ops w Q l (a.put o.dst (.agg cs))):wpStill P ops w Q (o::l) a:=by
 refine wpStill_step fun K hK=>?_
 rw [if_pos (by simp [Region.wanted,hd])]
 unfold Oper.still execOp
 simp only [ho,hx,Instr.loadAt,Instr.sureAddr,Sem.run_bind,Sem.run_pure,Result.andThen_ok,run_loadVar_row w g t y cs fr d hg hu hs hi]
 exact ⟨rfl,hK _ h⟩
set_option maxHeartbeats 40000000 in
set_option maxRecDepth 100000 in
theorem abL
  (I:Nat→Wk→Prop)
  (w:World)
  (b base A:Nat)
  (k:Wk)
  (aP:Addr)
  (p:PS)
  (B BP:Nat→Prop)
  (cZ:Nat→Addr)
  (HI:Bc I)
  (hbase:base≤w.heap.size)
  (E5:Act→World→Prop)
  (wr:World)
  (u4 u6 u7 u8 u13 u14 u15 u16 u17 u18 u19 u20 u21 u22 u23 u24 u25 u26 u27 u28 u29 u30 u31 u32 u33 u34 u35 u36 u37 u38 u39 u40 u41 u42 u43 u44 u45 u46 u47 u48 u49 u50 u51 u52 u53 u54 u55 u56 u57 u58 u59 u60 u61 u62 u63 u64 u65 u66 u67 u68 u69 u70 u71 u72 u73 u74 u75 u76 u77 u78 u79 u80 u81 u82 u83 u84 u85 u86 u87 u88 u89 u90 u91 u92 u93 u94 u95 u96 u97 u98 u99 u100 u101 u102 u103 u104 u105 u106 u107 u108 u109 u110 u111 u112 u113 u114 u115 u116 u117 u118 u119 u120 u121 u122 u123 u124 u125 u126 u127 u128 u129 u130 u131 u132 u133 u134 u135 u136:Value)
  (Lh:Nat→Act→World→Prop)
  (E8:Act→World→Prop)
  (ax2:∀(E9:Nat) (a':Act) (w':World),
  (∃u4 u5 u6 u7 u8 u13 u14 u15 u16 u17 u18 u19 u20 u21 u22 u23 u24 u25 u26 u27 u28 u29 u30 u31 u32 u33 u34 u35 u36
      u37 u38 u39 u40 u41 u42 u43 u44 u45 u46 u47 u48 u49 u50 u51 u52 u53 u54 u55 u56 u57 u58 u59 u60 u61 u62 u63 u64
      u65 u66 u67 u68 u69 u70 u71 u72 u73 u74 u75 u76 u77 u78 u79 u80 u81 u82 u83 u84 u85 u86 u87 u88 u89 u90 u91 u92
      u93 u94 u95 u96 u97 u98 u99 u100 u101 u102 u103 u104 u105 u106 u107 u108 u109 u110 u111 u112 u113 u114 u115 u116
      u117 u118 u119 u120 u121 u122 u123 u124 u125 u126 u127 u128 u129 u130 u131 u132 u133 u134 u135 u136,
      (∃(s:Nat),
          u5=Value.int IntKind.i64 ↑s ∧
            s+E9=200∧Aside (∃k1,I E9 k1∧Wk.go E9 k1=Wk.go 200 k∧bz w w' b base A aP B BP k1 p)) ∧
        a' =
          {
            tmps :=
              #[Value.pointer (some {block:=b,off:=0}),Value.pointer (some aP),undef,undef,u4,u5,u6,u7,
                u8,undef,undef,undef,undef,u13,u14,u15,u16,u17,u18,u19,u20,u21,u22,u23,u24,u25,u26,
                u27,u28,u29,u30,u31,u32,u33,u34,u35,u36,u37,u38,u39,u40,u41,u42,u43,u44,u45,u46,
                u47,u48,u49,u50,u51,u52,u53,u54,u55,u56,u57,u58,u59,u60,u61,u62,u63,u64,u65,u66,
                u67,u68,u69,u70,u71,u72,u73,u74,u75,u76,u77,u78,u79,u80,u81,u82,u83,u84,u85,u86,
                u87,u88,u89,u90,u91,u92,u93,u94,u95,u96,u97,u98,u99,u100,u101,u102,u103,u104,u105,
                u106,u107,u108,u109,u110,u111,u112,u113,u114,u115,u116,u117,u118,u119,u120,u121,u122,
                u123,u124,u125,u126,u127,u128,u129,u130,u131,u132,u133,u134,u135,u136,undef,undef,
                undef,undef,undef,undef,undef,undef,undef,undef,undef,undef,undef,undef,undef,undef,
                undef,undef,undef,undef,undef,undef,undef,undef,undef,undef,undef],
            defers:=[]}) →
    Lh E9 a' w')
  (s:Nat)
  (k1:Wk)
  (hW1:bz w wr b base A aP B BP k1 p)
  (rb:Nat)
  (Wj sv0:Value)
  (c0:Nat)
  (hc0:wr.cell? {block:=b,off:=0}=some (Value.pointer (some {block:=rb,off:=0})))
  (lC:Calls Tryz.prog 36 #[Value.pointer (some {block:=rb,off:=0})] wr fun e w' ↦
  e=Ending.returned (Value.bool false)∧w'=wr)
  (IP:s<200)
  (hsl:↑s<200)
  (hb0:k1.r.step=0)
  (n:Nat)
  (ax3:∀(a':Act) (w':World),Handed Lh (n+1) a' w'→E8 a' w')
  (hsk:s+(n+1)=200)
  (hI1:I (n+1) k1)
  (hgo:Wk.go (n+1) k1=Wk.go 200 k)
  (j:Jb)
  (hj:k1.j=some j)
  :
  Code.wp Tryz.prog
    uB
    (Exit.then E8 (Exit.inBlock 0 (Exit.then E5 (bodyPost Tryz.prog Tryz.f23 fun e w' ↦
    e=Ending.returned (Value.bool (k.step p).snd.snd)∧bz w w' b base A aP B BP (k.step p).fst (k.step p).snd.fst))))
    {
      tmps :=
        #[Value.pointer (some {block:=b,off:=0}),Value.pointer (some aP),undef,undef,u4,
          Value.int IntKind.i64 ↑s,u6,u7,u8,undef,undef,undef,undef,u13,u14,u15,u16,u17,u18,u19,u20,u21,
          u22,u23,u24,u25,u26,u27,u28,u29,u30,u31,u32,u33,u34,u35,u36,u37,u38,u39,u40,u41,u42,u43,
          u44,u45,u46,u47,u48,u49,u50,u51,u52,u53,u54,u55,u56,u57,u58,u59,u60,u61,u62,u63,u64,u65,
          u66,u67,u68,u69,u70,u71,u72,u73,u74,u75,u76,u77,u78,u79,u80,u81,u82,u83,u84,u85,u86,u87,
          u88,u89,u90,u91,u92,u93,u94,u95,u96,u97,u98,u99,u100,u101,u102,u103,u104,u105,u106,u107,
          u108,u109,u110,u111,u112,u113,u114,u115,u116,u117,u118,u119,u120,u121,u122,u123,u124,u125,
          u126,u127,u128,u129,u130,u131,u132,u133,u134,u135,u136,undef,undef,undef,undef,undef,undef,
          undef,undef,undef,undef,undef,undef,undef,undef,undef,undef,undef,undef,undef,undef,undef,
          undef,undef,undef,undef,undef,undef],
      defers:=[]}
    wr
  := by
 unfold uB
 obtain ⟨aJ,hcJ⟩:=hW1.uz hj
 obtain ⟨htag,hnx⟩:=HI.next _ _ _ hI1 hb0 hj
 have hr:sU k1.r:=HI.rt _ _ hI1
 have hlen:=HI.len _ _ hI1
 obtain ⟨Ba,hWa,hBa,hout⟩:=hW1.wk
 have hX1:=Wx.of hWa hBa
 have zY:∀wx X,Wx wr wx X b base A Ba k1→wx.cell? ⟨b,0,none⟩=some (.pointer (some ⟨rb,0,none⟩))→_:=fun wx X h hc=>h.bV hc
 generalize hrp:k1.r.bV=rp at zY hnx
 obtain ⟨j',ca,Pn⟩:∃j' ca,j.next rp=(j',ca):=⟨_,_,rfl⟩
 have Wl:∀wx X,Wx wr wx X b base A Ba k1→wx.cell? ⟨b,2,none⟩=some (.pointer (some aJ))→_:=fun wx X h hc=>h.next (x:=rp) hc hj htag Pn
 rw [Pn] at hnx
 simp only at hnx
 unfold iM at zY
 unfold iM qg at Wl
 have A1:Aside (bz w wr b base A aP B BP k1 p∧k1.go (n+1)=k.go 200∧sU k1.r∧k1.r.bV=rp∧k1.ops.length≤100∧j.next rp=(j',ca)):=⟨hW1,hgo,hr,hrp,hlen,Pn⟩
 have A2:Aside ((ca.kind=12∧k1.said.length<k1.ops.length∧I n {k1 with said:=k1.said ++ [(ca.code,ca.val)],j:=none})∨(ca.kind≠12∧ca.OK∧(k1.r.begin ca).2=true∧I n {k1 with j:=some j',r:=(k1.r.begin ca).1})):=hnx
 have A3:Aside (∀wb k' B',aO wb b base A k' B'→(∀x,B' x→Ba x∨wr.heap.size≤x)→bC wr Ba wb→bz w wb b base A aP B BP k' p):=hout
 clear hI1 hgo hW1 hr htag hrp hlen hnx Pn hWa hBa hout
 go_wp2_with (first
   | (go_at_call 36;(with_reducible refine lC.mono ?_);rintro ev w1 ⟨rfl,rfl⟩))
 go_cut [8] from 13 to 136 (fun s8 wx=>∃x,s8=.pointer (some ⟨x,0,none⟩)∧Aside (bz w wx b base A aP B BP {k1 with j:=some j'} p∧wx.heap[x]?=some (.cells (OX ca).toArray 83 (0,0))))
 case first =>
  as_aux_lemma =>
   have ZF:∀i,w1.drew.cell? ⟨b,i,none⟩=w1.cell? ⟨b,i,none⟩:=fun _=>rfl
   have hn1:∀o,Nw w1 (w1.alloc o).drew:=fun o=>Nw.drew ((bC.refl _ _).alloc o)
   have abM:∀o,(w1.alloc o).cell? ⟨b,0,none⟩=some (.pointer (some ⟨rb,0,none⟩)):=fun o=>(hn1 o).fw hc0
   have abN:∀o,(w1.alloc o).cell? ⟨b,2,none⟩=some (.pointer (some aJ)):=fun o=>(hn1 o).fw hcJ
   have hz1:∀o,(w1.alloc o).drew.heap[w1.heap.size]?=some o:=fun o=>by show (w1.heap.push o)[w1.heap.size]?=some o;simp
   clear A1 A2 lC
   have hbl:b<w1.heap.size:=World.block_lt_of_cell? _ _ hc0
   have hS2:True:=trivial
   have rY:True:=trivial
   have hS5:True:=trivial
   have Li:Obj→True:=fun _=>trivial
   have ZG:Obj→True:=fun _=>trivial
   have hS1:w1.cell? ⟨b,0,none⟩=some (.pointer (some ⟨rb,0,none⟩))∧w1.cell? ⟨b,2,none⟩=some (.pointer (some aJ)):=⟨hc0,hcJ⟩
   go_region_held3 (fun w'=>w'.cell? ⟨b,0,none⟩=some (.pointer (some ⟨rb,0,none⟩))∧w'.cell? ⟨b,2,none⟩=some (.pointer (some aJ)))
    (first | exact hS1 | exact ⟨abM _,abN _⟩ | exact hS5 | exact hS2 | exact rY | exact Li _ | exact ZG _)
    (first
    | (go_at_call 38;(with_reducible refine (zY _ _ hX1.drew ((ZF 0).trans hc0)).mono ?_);rintro ev w2 ⟨rfl,hX2,-,hcc⟩;have hS2:w2.cell? ⟨b,0,none⟩=some (.pointer (some ⟨rb,0,none⟩))∧w2.cell? ⟨b,2,none⟩=some (.pointer (some aJ)):=⟨(hcc 0).trans ((ZF 0).trans hc0),(hcc 2).trans ((ZF 2).trans hcJ)⟩;have hz2:∀o,(w2.alloc o).heap[w2.heap.size]?=some o:=(fun o=>by show (w2.heap.push o)[w2.heap.size]?=some o;simp);have hn2:∀o,Nw w2 (w2.alloc o):=(fun o=>(bC.refl _ _).alloc o);have Li:∀o,(w2.alloc o).cell? ⟨b,0,none⟩=some (.pointer (some ⟨rb,0,none⟩))∧(w2.alloc o).cell? ⟨b,2,none⟩=some (.pointer (some aJ)):=(fun o=>⟨(hn2 o).fw hS2.1,(hn2 o).fw hS2.2⟩);clear hcc)
    | (go_at_call 38;(with_reducible refine (zY _ _ (hX1.alloc _).drew ((hn1 _).fw hc0)).mono ?_);rintro ev w2 ⟨rfl,hX2,hk2,hcc⟩;have hS2:w2.cell? ⟨b,0,none⟩=some (.pointer (some ⟨rb,0,none⟩))∧w2.cell? ⟨b,2,none⟩=some (.pointer (some aJ)):=⟨(hcc 0).trans ((hn1 _).fw hc0),(hcc 2).trans ((hn1 _).fw hcJ)⟩;have hz2:=(hk2 _ (.inr rfl)).trans (hz1 _);clear hcc hk2)
    | (go_at_call 48;(with_reducible refine (Wl _ _ hX2 hS2.2).mono ?_);rintro ev w3 ⟨rfl,ZH,hk3,hcc⟩;have rY:w3.cell? ⟨b,0,none⟩=some (.pointer (some ⟨rb,0,none⟩))∧w3.cell? ⟨b,2,none⟩=some (.pointer (some aJ)):=⟨(hcc 0).trans hS2.1,(hcc 2).trans hS2.2⟩;have nG:∀o,Nw w3 (w3.alloc o):=(fun o=>(bC.refl _ _).alloc o);have ZG:∀o,(w3.alloc o).cell? ⟨b,0,none⟩=some (.pointer (some ⟨rb,0,none⟩))∧(w3.alloc o).cell? ⟨b,2,none⟩=some (.pointer (some aJ)):=(fun o=>⟨(nG o).fw rY.1,(nG o).fw rY.2⟩);clear hcc;try (have hz3:=(hk3 _ (.inr rfl)).trans hz2;have hxb:b≠w1.heap.size:=Nat.ne_of_lt hbl))
    | (go_at_call 48;(with_reducible refine (Wl _ _ (hX2.alloc _) (Li _).2).mono ?_);rintro ev w3 ⟨rfl,ZH,hk3,hcc⟩;have rY:w3.cell? ⟨b,0,none⟩=some (.pointer (some ⟨rb,0,none⟩))∧w3.cell? ⟨b,2,none⟩=some (.pointer (some aJ)):=⟨(hcc 0).trans (Li _).1,(hcc 2).trans (Li _).2⟩;clear hcc;have hz3:=(hk3 _ (.inr rfl)).trans (hz2 _);have hxb:b≠w2.heap.size:=Nat.ne_of_lt (World.block_lt_of_cell? _ _ hS2.1))
    | ((with_reducible change Oper.upon _ _ _ _ _ _);refine xP (OX ca) hz3 rfl ?_;intro w5 gM Zt;have hb5:=mr (gM.block b (World.block_lt_of_cell? _ _ rY.1) hxb);have hS5:w5.cell? ⟨b,0,none⟩=some (.pointer (some ⟨rb,0,none⟩))∧w5.cell? ⟨b,2,none⟩=some (.pointer (some aJ)):=⟨(hb5 0).trans rY.1,(hb5 2).trans rY.2⟩;clear hb5))
   all_goals (
     go_wp2_with fail
     go_meet
     first
       | exact ⟨_,rfl,(ZH.alloc _).out A3.out,(mD _ _).trans rfl⟩
       | exact ⟨_,rfl,(ZH.XJ ⟨gM.os,gM.tape,gM.output,gM.size,fun y hy hn=>gM.block y hy fun e=>hn (.inr e)⟩).out A3.out,Zt⟩)
 case rest =>
  obtain ⟨xc,rfl,hcu⟩:=hcut
  obtain ⟨hWc,hhc⟩:=hcu.out
  obtain ⟨⟨y0,y1,y2,y3,y4,y5,y6,y7,y8⟩,y9,y10,y11,y12,y13,y14,y15,y16,y17⟩:=UE hhc
  have A6:=hcu
  clear hhc Wl zY hX1 lC
  rcases A2.out with ⟨h12,hl12,Lj⟩ | ⟨h12,ZI,hbt,Lj⟩
  ·as_aux_lemma =>
    have abO:(ca.kind == 12)=true:=by simp [h12]
    obtain ⟨sv,s1,s2,s3⟩:=hWc.K6
    have hbw:base≤wc.heap.size:=Nat.le_trans hbase hWc.ge
    have hz1:k1.said.length≤100:=by have:=A1.out.2.2.2.2.1;omega
    obtain ⟨i0,hi,hy0,hy1,hy2⟩:=info_parts XK
    have A4:Aside (I n {k1 with said:=k1.said ++ [(ca.code,ca.val)],j:=none}∧Wk.go n {k1 with said:=k1.said ++ [(ca.code,ca.val)],j:=none}=k.go 200):=by
     obtain ⟨-,q2,-,q4,-,q6⟩:=A1.out
     refine ⟨Lj,Eq.trans ?_ q2⟩
     have hq:j.next k1.r.bV=(j',ca):=by rw [q4];exact q6
     have:=RQ (n:=n) hb0 hj (by rw [hq];exact h12)
     rw [hq] at this
     exact this
    have A5:Aside (∀w1 w2 v' (x:Int × Int),Nw wc w1→w1.grownBy w2 sv.ownBlock→w2.ownsRow base 39 2 v' (k1.said.length+1) (lQ k1.said ++ [.int .i64 x.1,.int .i64 x.2])→(v'.ownBlock=sv.ownBlock∨v'.ownBlock=some w1.heap.size)→w2.frozen? ⟨b,4,none⟩=false∧w2.cell? ⟨b,4,none⟩=some sv∧bz w (w2.setCell ⟨b,4,none⟩ v') b base A aP B BP {k1 with said:=k1.said ++ [x],j:=some j'} p):=s3
    clear hWc Lj s3
    go_wp2_with fail
    have Na:∀o,Nw wc (wc.alloc o).drew:=fun o=>Nw.drew ((bC.refl _ _).alloc o)
    have aae:∀o,(wc.alloc o).drew.ownsRow base 39 2 sv k1.said.length (lQ k1.said):=fun o=>iO s2 fun x hx _=>(Na o).block x hx id
    have s1a:∀o,(wc.alloc o).cell? ⟨b,4,none⟩=some sv:=fun o=>(Na o).fw s1
    have hm1:k1.said.length+1≤maxLen:=by unfold maxLen;omega
    have hm2:(k1.said.length+1) * 16≤140737488355328:=by omega
    have hbA:∀o,base≤((wc.alloc o).drew).heap.size:=fun o=>by
     have:=(Na o).size
     omega
    go_region_law (refine EN rfl (.tmp 120) (.tmp 123) 42 rfl base 39 i0 (.agg #[.int .i64 0,.int .i64 0]) 2 16 Tryz.underlying42 hi hy0 hy1 hy2 rfl (by decide) _ _ _ rfl (aae _) _ 1 1 [.int .i64 ca.code,.int .i64 ca.val] rfl rfl (Xn _ _ _ _) (Xo _ _) hm1 hm2 (hbA _) ?_;intro v' w4 e1 e2 e3;obtain ⟨gA,cA,rfl⟩:=Hz e1;obtain ⟨f1,f2,BB⟩:=A5.out _ _ _ (ca.code,ca.val) (Na _) e2 e1 e3)
    all_goals (
      have g2:=BB.uz (j:=j') rfl
      obtain ⟨aJ',g2⟩:=g2
      obtain ⟨-,-,-,-,-,-,-,-,-,g5⟩:=BB.cells
      have g52:=g5 2
      have hW5:=BB.put 2 (.pointer none) none k1.bu (fun _=>⟨rfl,rfl⟩) (fun h=>by cases h) (fun h=>absurd rfl h) (fun _=>rfl) (.inl rfl)
      clear g5 BB e1 e2 e3
      go_wp2_with fail
      go_roundg n
      case measure=>omega
      case rel=>exact ⟨s+1,by go_num,by omega,_,A4.out.1,A4.out.2,hW5⟩)
  ·as_aux_lemma =>
    have abO:(ca.kind == 12)=false:=by simp [h12]
    have A4:Aside (I n {k1 with j:=some j',r:=(k1.r.begin ca).1}∧Wk.go n {k1 with j:=some j',r:=(k1.r.begin ca).1}=k.go 200):=by
     obtain ⟨-,q2,-,q4,-,q6⟩:=A1.out
     refine ⟨Lj,Eq.trans ?_ q2⟩
     have hq:j.next k1.r.bV=(j',ca):=by rw [q4];exact q6
     have:=XE (n:=n) hb0 hj (by rw [hq];exact h12) (by rw [hq];exact hbt)
     rw [hq] at this
     exact this
    obtain ⟨rbc,-,-,-,hcc,-⟩:=hWc.cells
    have zX:=(hWc.nw (Nw.drew (bC.refl wc _))).begin (rb:=rbc) hcc A1.out.2.2.1 hb0 (c:=ca) ZI
    rw [show qg ca=.agg (OX ca).toArray from rfl] at zX
    clear hWc Lj hbt ZI
    go_wp2_with fail
    refine wp_region_still_tail 5 (by kernel_rfl) (by kernel_rfl) ?_
    simp only [List.take_succ_cons,List.take_zero,List.drop_succ_cons,List.drop_zero]
    iterate 4 still_step
    refine sSL rfl 83 (.tmp 8) rfl xc rfl _ _ _ _ A6.out.2 Tryz.underlying83 rfl (by kernel_rfl) ?_
    refine wpStill_nil ?_
    change wpList _ _ _ _ _ wc.drew
    go_wp2_with (first
      | (go_at_call 37;(with_reducible refine zX.mono ?_);rintro ev w6 ⟨rfl,R7⟩))
    go_roundg n
    case measure=>omega
    case rel=>exact ⟨s+1,by go_num,by omega,_,A4.out.1,A4.out.2,R7⟩
end Go.Proofs.YthomdlajobnmnaaGreatDoor.Cq
