/- part 18 of the proof -/
import Derived.Maps.AppendAt
import Derived.Deep.RegionLaw
import Derived.Test.YthomdlajobnmnaaGreatDoorX13
import Derived.Test.YthomdlajobnmnaaGreatDoorX17
set_option linter.unusedSimpArgs false
set_option linter.unusedVariables false
namespace Go.Proofs.YthomdlajobnmnaaGreatDoor.Sk
open Go.Rex Gd
section
variable {S S':St} {n:Nat} {e:Int} {i m l k lv:Nat} {b:Int} {τ tk tok:Option Nd} {P C D N X:Nd} {w cur:Wd} {c:Cm} {x:Rp} {K:List Nat} {ok:List Nat->Prop} {l0:Lo} {t t':RT} {q:Ca} {R R':Rp->Prop} {p p':PS} {h:LR} {j:Jb} {o:Op} {v:Vk} {V V':Nat->Vk} {a:Ac} {G':Gh} {own':Int->fG}
theorem Sy.read (H:Sy n e S V) (z:i<n) (I:(V i).j=some j) (r:(V i).t=.one a) {s g f:Int} (L:a=Ac.load s g f) (M:S.p.has s g f/\S.p.live s g) (E:j.at'≠0) (u:∀N t,aQ j t=some N->aQ j (.one a)=some N)
  (G:∀S',Qx S S' n e i (V i).l (.one a) ⟨S.p.at s f,true⟩->S'.G=S.G->(∀l N,S'.c l N=S.c l N)->S'.T i=((V i).l,.idle ⟨S.p.at s f,true⟩)->JI S' e i j):∃S' x,S.p.act ((V i).t.acc (V i).l)=(S'.p,some x)/\Sy n e S' (Gd.bD V i ((V i).with (RT.aB (V i).l (V i).t x))):=by
 have J:=H.th i z
 have B:S.T i=((V i).l,.one a):=by rw [J.lr,r]
 have d:S.p.act ((RT.one a).acc (V i).l)=({S.p with steps:=S.p.steps+1},some ⟨S.p.at s f,true⟩):=by
  show S.p.act a=_
  rw [L]
  exact H6 M
 obtain ⟨S',Q,F,g2⟩:∃S',Qx S S' n e i (V i).l (.one a) ⟨S.p.at s f,true⟩/\S'.G=S.G/\∀l N,S'.c l N=S.c l N:=⟨_,Qx.read H.li B d (H.ei.one z B _),rfl,λ_ _=>rfl⟩
 have y:=G S' Q F g2 Q.Ti
 rw [<-r] at Q
 refine ⟨S',_,Q.act,H.qx z I Q (λk A=>by rw [r] at A;cases A) E y λN O=>?_⟩
 rw [r]
 exact u N _ O
theorem N9 (d:1<=N.s):(na N (2+(lv:Int)))=ad lv N:=(vV d).symm
theorem Sy.anR (H:Sy n e S V) (B:i<n) (G:(V i).t=.one a):∃S' x,S.p.act ((V i).t.acc (V i).l)=(S'.p,some x)/\Sy n e S' (Gd.bD V i ((V i).with (RT.aB (V i).l (V i).t x))):=by
 have J:=H.th i B
 have hT:S.T i=((V i).l,.one a):=by rw [J.lr,G]
 have acc:∀{q:Ca} {R:Rp->Prop},Aw e i S.p q R (S.T i)->Ca.acc q (aF S.p) a:=λ{q R} M=>by rw [hT] at M;exact M
 rcases J.st with ⟨g1,g2,g3⟩ | ⟨j,I,hin,hg,hsl,hJ,hA⟩
 ·rcases acc g3 with h | h | h | h <;> exact absurd h.1 (by decide)
 have hpb:=TQ H B I
 have EB:(j.at'=5/\j.op.kind=6\/j.at'=12\/j.at'=103\/(j.at'=1/\j.op.kind≠6)\/(j.at'=6/\j.op.kind=7))->∃S' x,S.p.act ((V i).t.acc (V i).l)=(S'.p,some x)/\Sy n e S' (Gd.bD V i ((V i).with (RT.aB (V i).l (V i).t x))):=λL=>by
  obtain ⟨S',x,Q,hJ'⟩:=hJ.adB H.li (t:=.one a) (λN hN=>hpb N (by rw [G];exact hN)) hT (λb τ hcl eH=>hcl.one H.ei H.li B hT eH) L
  rw [<-G] at Q
  exact ⟨S',x,Q.act,H.qx B I Q (λk r=>by rw [G] at r;cases r) (by omega) hJ' λN hN=>by rw [TR hJ L (t':=(RT.aB (V i).l (V i).t x).2)];exact hN⟩
 have alw:YP S (S.T i):=λy hy=>by rw [hT] at hy;cases hy
 have TT:(j.op.kind=6->j.at'≠8)->j.at'≠102->(j.op.kind≠6->j.at'≠5)->∀N t,aQ j t=some N->aQ j (.one a)=some N:=by grind [H8]
 have hJ0:=hJ
 cases hJ with
 | Ga u d=>rcases acc d with h | h | h | h <;> exact absurd h.1 (by decide)
 | a1 u r d =>
  obtain ⟨b,hb,M⟩:=aiT (acc d) rfl
  exact H.alloc B I G u r hb M
 | a2 N u r z O d =>
  have M:=J4 (acc d) rfl
  obtain ⟨S',Q⟩:=Pv.of H.ei H.li B hT O (f:=0) ⟨by decide,by decide⟩ rfl M
  exact H.V6 B I G Q (by omega) (.a2 N u r z Q.hd (by rw [Q.T];show (S'.p.cell (N.s-1).toNat 0).num=_;rw [Q.new];rfl)) λt=>jg r (by omega) (by omega)
 | a3 N u r z O u1 d =>
  have M:=J4 (acc d) rfl
  obtain ⟨S',Q⟩:=Pv.of H.ei H.li B hT O (f:=1) ⟨by decide,by decide⟩ rfl M
  exact H.V6 B I G Q (by omega) (.a3 N u r z Q.hd (by unfold lI;rw [Q.ay 0 (by decide)];exact u1) (by rw [Q.T];trivial)) λt=>jg r (by omega) (by omega)
 | a4 N u r z O u1 d =>
  have M:=J4 (acc d) rfl
  obtain ⟨S',Q⟩:=Pv.of H.ei H.li B hT O (f:=6) ⟨by decide,by decide⟩ rfl M
  exact H.V6 B I G Q (by omega) (.a4 N u r z Q.hd (by unfold lI;rw [Q.ay 0 (by decide)];exact u1) (by rw [Q.T];show (S'.p.cell (N.s-1).toNat 6).num=_;rw [Q.new];rfl)) λt=>jg r (by omega) (by omega)
 | a5 N u r z O u1 u2 L=>exact EB (.inl ⟨u,r⟩)
 | a6 N u r z O d=>rcases acc d with h | h | h | h <;> exact absurd h.1 (by show ¬(9:Int)=_;decide)
 | a7 N lv c u r z O u1 u2 L hE E T A hp d =>
  have M:=J4 (acc d) rfl
  have hlv:lv<3:=by have:=(iH hg r).2;omega
  obtain ⟨S',Q⟩:=Pv.of H.ei H.li B hT O (f:=2+lv) (o:=Wd.zero) (w:=(c.sp lv).cur.bN) ⟨by omega,by omega⟩ rfl (by rw [M];show (⟨2,N.s,N.g,2+(lv:Int),Wd.zero,(c.sp lv).cur.bN⟩:Ac)=⟨2,N.s,N.g,((2+lv:Nat):Int),Wd.zero,(c.sp lv).cur.bN⟩;congr 1)
  have hce:=λk=>Q.ce k O.s
  refine H.V6 B I G Q (by omega) (.a7 N lv c u r z Q.hd (by unfold lI;rw [Q.ay 0 (by omega)];exact u1) (by unfold uV;rw [Q.ay 6 (by omega)];exact u2) L (hE.mv Q.M.mb (λ_ _=>by simp) (λk _ X s=>Q.sf _ X s) (λX s=>Q.sf _ X s)) E T A (λk hk'=>?_) ?_) λt=>jg r (by omega) (by omega)
  ·grind [Ptr]
  ·rw [Q.T]
   show Ptr S' lv N (c.sp lv).cur
   unfold Ptr
   rw [hce,if_pos rfl]
   exact ⟨rfl,rfl⟩
 | a8 N c u r z L O d =>
  obtain ⟨q1,q2,q3,q4,q5,q6⟩:=O alw
  exact H.alh B I hg G u r z L q1 q2 q3 q4 q5 q6 (Ey (acc d) rfl)
 | b9 N lv c u r z L hr T A d =>
  have hlv:lv<3:=by have:=(iH hg r).2;omega
  have hp:=hpb N (kY r z (by omega))
  obtain ⟨U,Y,v3⟩:=tY H.ei hlv (.inr ⟨hr.s,hp.lv⟩)
  have M:=zY (acc d) rfl
  refine H.read B I G (s:=(ad lv N).slot) (g:=(ad lv N).gen) (f:=(ad lv N).field) (by rw [M];show Ac.load (na N (2+(lv:Int))).slot (na N (2+(lv:Int))).gen (na N (2+(lv:Int))).field=_;rw [N9 hr.s]) ⟨U,Y⟩ (by omega) (TT (by omega) (by omega) (by omega)) λS' Q g1 g2 W=>?_
  refine .b9 N lv c u r z L (hr.mv (N8 Q hr.toRt) Q.mb (λk _ X s=>Q.sf B s)) T A ?_
  rw [W,v3]
  intro hq
  unfold Ptr
  rw [g2]
  have hq:(S.c lv N).bN=(c.sp lv).cur.bN:=hq
  exact ⟨(congrArg Wd.slot hq:(S.c lv N).bN.slot=_),(congrArg Wd.gen hq:(S.c lv N).bN.gen=_)⟩
 | b10 N lv c w u r z L hr T A hm d=>exact H.VX B I hg G u r z L T A hr hm (by rw [Ey (acc d) rfl,<-N9 hr.s];rfl)
 | b11 N lv c u r z L T A O d =>
  obtain ⟨q1,q2⟩:=O alw
  exact H.alj B I hg G u r z L T A q1 q2 (Ey (acc d) rfl)
 | b12 N lv u r z hr T A L=>exact EB (.inr (.inl u))
 | c1 N u r hb z Z hy d =>
  have hp:=hpb N (sH r z (.inl u))
  have F:=(H.li.nz N Z).1
  obtain ⟨U,Y,v3⟩:=xm H.ei F hp.lv (f:=7) ⟨by decide,by decide⟩
  refine H.read B I G (s:=N.s) (g:=N.g) (f:=7) (zY (acc d) rfl) ⟨U,Y⟩ (by omega) (TT (by omega) (by omega) (by omega)) λS' Q g1 g2 W=>?_
  refine .c1 N u r hb z ((Q.aj 0 N).2 Z) (by rw [g1];exact hy) ?_
  rw [W,v3]
  exact .inl (Q.dn N)
 | c2 N w u r hb z Z hy hw hd d=>exact H.done B I G u r hb z Z hy hw (hd alw) (Ey (acc d) rfl)
 | c3 N u r z hd eH L=>exact EB (.inr (.inr (.inl u)))
 | c4 N u r z d=>rcases acc d with h | h | h | h <;> exact absurd h.1 (by show ¬(10:Int)=_;decide)
 | d1 u r L=>exact EB (.inr (.inr (.inr (.inl ⟨u,by omega⟩))))
 | d2 N u r z E d =>
  have F:=(H.li.nz N E.aj).1
  obtain ⟨U,Y,v3⟩:=xm H.ei F (sG E.sf) (f:=6) ⟨by decide,by decide⟩
  refine H.read B I G (s:=N.s) (g:=N.g) (f:=6) (zY (acc d) rfl) ⟨U,Y⟩ (by omega) (TT (by omega) (by omega) (by omega)) λS' Q g1 g2 W=>?_
  refine .d2 N u r z (E.mv Q.mb (λs=>Q.sf B s)).1 ?_
  rw [W,v3]
  show (S.p.cell (N.s-1).toNat 6).num=S'.G.ht N
  rw [g1]
  exact (H.li.kc N E.aj (sG E.sf)).2
 | d3 N lv u r z E T A d =>
  have F:=(H.li.nz N E.aj).1
  obtain ⟨U,Y,v3⟩:=xm H.ei F (sG E.sf) (f:=1) ⟨by decide,by decide⟩
  refine H.read B I G (s:=N.s) (g:=N.g) (f:=1) (zY (acc d) rfl) ⟨U,Y⟩ (by omega) (TT (by omega) (by omega) (by omega)) λS' Q g1 g2 W=>?_
  exact .d3 N lv u r z (E.mv Q.mb (λs=>Q.sf B s)).1 T (by rw [g1];exact A) (by rw [W];trivial)
 | d4 N lv u r z E T A hm d =>
  have F:=(H.li.nz N E.aj).1
  have hlv:lv<3:=by have:=(H.li.nz N E.aj).2.2.2;omega
  obtain ⟨U,Y,v3⟩:=tY H.ei hlv (.inr ⟨F,sG E.sf⟩)
  have M:=zY (acc d) rfl
  refine H.read B I G (s:=(ad lv N).slot) (g:=(ad lv N).gen) (f:=(ad lv N).field) (by rw [M];show Ac.load (na N (2+(lv:Int))).slot (na N (2+(lv:Int))).gen (na N (2+(lv:Int))).field=_;rw [N9 F]) ⟨U,Y⟩ (by omega) (TT (by omega) (by omega) (by omega)) λS' Q g1 g2 W=>?_
  refine .d4 N lv u r z (E.mv Q.mb (λs=>Q.sf B s)).1 T (by rw [g1];exact A) (λk a b=>by rw [g2];exact hm k a (by rw [<-g1];exact b)) ?_
  rw [W,v3]
  show jG S' lv N (S.c lv N)
  rw [<-g2]
  exact jG.refl
 | d5 N lv w u r z E T A hm hw hs d=>exact H.alk B I G u r z E T A hm hw hs (by rw [Ey (acc d) rfl,<-N9 (H.li.nz N E.aj).1];rfl)
 | d6 N u r z Z hy L=>exact EB (.inr (.inr (.inr (.inr ⟨u,r⟩))))
 | g2 N u r z E d =>
  have F:=(H.li.nz N E.aj).1
  obtain ⟨U,Y,v3⟩:=xm H.ei F (sG E.sf) (f:=1) ⟨by decide,by decide⟩
  refine H.read B I G (s:=N.s) (g:=N.g) (f:=1) (zY (acc d) rfl) ⟨U,Y⟩ (by omega) (TT (by omega) (by omega) (by omega)) λS' Q g1 g2 W=>?_
  exact .g2 N u r z (E.mv Q.mb (λs=>Q.sf B s)).1 (by rw [W];trivial)
theorem Sy.acc (H:Sy n e S V) (hi:i<n) (z:(V i).t.aH≠0):∃S' x,S.p.act ((V i).t.acc (V i).l)=(S'.p,some x)/\Sy n e S' (Gd.bD V i ((V i).with (RT.aB (V i).l (V i).t x))):=by
 have J:=H.th i hi
 by_cases h1:∃a,(V i).t=.one a
 ·grind [Sy.anR]
 by_cases h3:∃c,(V i).t=.bX c
 ·grind [Sy.anL]
 by_cases T:∀a,(V i).t=.fin a->a.kind=2
 ·grind [Sy.qp,dm.qp]
 ·obtain ⟨a,T⟩:=Classical.not_forall.1 T
  have Q:(V i).t=.fin a:=by grind
  have hk2:a.kind≠2:=λh=>T λ_=>h
  have hT:S.T i=((V i).l,.fin a):=by rw [J.lr,Q]
  have fin:∀{q:Ca} {R:Rp->Prop},Aw e i S.p q R (S.T i)->q.kind=9/\a=⟨5,0,0,0,q.ay,Wd.zero⟩:=λ{q R} Z=>by
   rw [hT] at Z
   rcases Z with ⟨-,-,h,-⟩ | h | ⟨-,h⟩
   all_goals grind
  rcases J.st with ⟨g1,g2,g3⟩ | ⟨j,hj,hin,hg,hsl,hJ,hA⟩
  ·exact absurd (fin g3).1 (by decide)
  have I:∀{b:Int} {τ:Option Nd},fV S e i b τ j->False:=λ{b τ} ⟨c,l,L,u2,u3⟩=>by
   cases u3 with
   | s2 P z U ho d=>exact absurd (fin d).1 (show ¬(6:Int)=9 by decide)
   | s3 P C z s r y E d=>exact absurd (fin d).1 (show ¬(6:Int)=9 by decide)
   | s4 P C z s r y E O d=>exact absurd (fin d).1 (show ¬(3:Int)=9 by decide)
   | s5 P C z s r y E O g d=>exact absurd (fin d).1 (show ¬(3:Int)=9 by decide)
   | s6 P C z s r y E O M Y d=>exact absurd (fin d).1 (show ¬(5:Int)=9 by decide)
   | s7 C z U y g E O M Y hq d he=>exact absurd (fin d).1 (show ¬(7:Int)=9 by decide)
   | s8 P z s Y d he=>exact absurd (fin d).1 (show ¬(7:Int)=9 by decide)
   | s9 P z hl2 U y g E d=>exact absurd (fin d).1 (show ¬(7:Int)=9 by decide)
  cases hJ with
  | a6 N f g r A d =>
   grind [Hd,EI.drop,Sy.drop]
  | a5 N f g r A L u2 s=>exact (I s).elim
  | b12 N lv f g r hr B u s=>exact (I s).elim
  | c3 N f g r hd eH s=>exact (I s).elim
  | d1 f g s=>exact (I s).elim
  | d6 N f g r G W s=>exact (I s).elim
  | Ga f d=>exact absurd (fin d).1 (show ¬(1:Int)=9 by decide)
  | a1 f g d=>exact absurd (fin d).1 (show ¬(8:Int)=9 by decide)
  | a2 N f g r A d=>exact absurd (fin d).1 (show ¬(4:Int)=9 by decide)
  | a3 N f g r A L d=>exact absurd (fin d).1 (show ¬(4:Int)=9 by decide)
  | a4 N f g r A L d=>exact absurd (fin d).1 (show ¬(4:Int)=9 by decide)
  | a7 N lv c f g r A L u2 s hE F B u U d=>exact absurd (fin d).1 (show ¬(4:Int)=9 by decide)
  | a8 N c f g r s A d=>exact absurd (fin d).1 (show ¬(5:Int)=9 by decide)
  | b9 N lv c f g r s hr B u d=>exact absurd (fin d).1 (show ¬(3:Int)=9 by decide)
  | b10 N lv c w f g r s hr B u M d=>exact absurd (fin d).1 (show ¬(5:Int)=9 by decide)
  | b11 N lv c f g r s B u A d=>exact absurd (fin d).1 (show ¬(5:Int)=9 by decide)
  | c1 N f g hb r G W d=>exact absurd (fin d).1 (show ¬(3:Int)=9 by decide)
  | c2 N w f g hb r G W hw hd d=>exact absurd (fin d).1 (show ¬(5:Int)=9 by decide)
  | c4 N f g r d=>exact absurd (fin d).1 (show ¬(10:Int)=9 by decide)
  | d2 N f g r F d=>exact absurd (fin d).1 (show ¬(3:Int)=9 by decide)
  | d3 N lv f g r F B u d=>exact absurd (fin d).1 (show ¬(3:Int)=9 by decide)
  | d4 N lv f g r F B u M d=>exact absurd (fin d).1 (show ¬(3:Int)=9 by decide)
  | d5 N lv w f g r F B u M hw E d=>exact absurd (fin d).1 (show ¬(5:Int)=9 by decide)
  | g2 N f g r F d=>exact absurd (fin d).1 (show ¬(3:Int)=9 by decide)
end
def lo0 (e i n N:Int):Lo:=⟨e,i,n,N,λ_=>Wd.zero,Sp.zero,[],0⟩
def v0 (e:Int) (n:Nat) (N:Int) (ops:Nat->List Op) (i:Nat):Vk:=⟨lo0 e i n N,.idle ⟨Wd.zero,false⟩,ops i,none,false,[]⟩
structure Nu (p:PS) (m:Int):Prop where
 ok:p.OK
 nb:p.nb=85
 ns:p.ns=m
 bP:p.bP=true
 aF:p.bd 24=⟨0,0,0,1,false⟩
 bd:∀i,i≠24->p.bd i=Wd.zero
 gen:∀i,p.gen i=0
 used:∀i,p.used i=false
 cell:∀i k,p.cell i k=Wd.zero
 steps:p.steps<=1
def St.new (p:PS) (e:Int) (n:Nat) (N:Int):St:=⟨p,λi=>(lo0 e i n N,.idle ⟨Wd.zero,false⟩),λ_=>.free,λ_=>0,⟨λ_=>[],λ_ _=>False,λ_=>0,λ_=>0,λ_=>0,0⟩⟩
theorem Sy.new {p:PS} {m e N:Int} {n:Nat} {ops:Nat->List Op} (d:Nu p m) (x:1<=n/\n<=6) (z:1<=e/\e<=5) (C:1<=N) (u:∀i,i<n->(ops i).length<=12):Sy n e (St.new p e n N) (v0 e n N ops):=by
 have q:∀k:Nat,k<9->∀i:Nat,p.bd (25+9 * i+k)=Wd.zero:=λk _ i=>d.bd _ (by omega)
 have f:∀i:Nat,p.bd (79+i)=Wd.zero:=λi=>d.bd _ (by omega)
 have t:aF p=1:=by unfold aF;rw [d.aF]
 refine ⟨⟨d.ok,d.nb,d.bP,x,z,?_,?_,?_,?_,?_,?_,?_,?_,?_,?_,?_⟩,?_,?_,?_⟩
 ·show p.bd 24=ji (aF p)/\1<=aF p
  rw [t,d.aF]
  exact ⟨rfl,by decide⟩
 ·intro s _ _
  show p.used _=true↔fG.free≠fG.free
  rw [d.used]
  simp
 ·intro s h
  exact absurd rfl h
 ·intro i r
  refine ⟨rfl,rfl,rfl,C,λ_ _ k g=>⟨rfl,q k g i⟩,λ_ _=>⟨rfl,f i⟩,λ_ k g=>?_,.inl rfl,.inl (f i),λk g _=>q k g i,λ_=>(f i).trans rfl,λc a h=>(by cases h),trivial⟩
  show (0:Int)<=aF p/\(p.bd (25+9 * i+k)).num<=aF p
  rw [t,q k g i]
  exact ⟨by decide,by decide⟩
 ·intro i _;rfl
 ·intro i m y;cases y
 ·intro i;exact List.nodup_nil
 ·intro i _ o h;cases h
 ·intro i _ o b h;cases h
 ·intro s h
  exact absurd rfl h
 ·intro _ i _ h
  have h:(p.bd (79+i)).mark=true:=h
  rw [f i] at h
  cases h
 ·refine ⟨λl _ N h=>(by cases h),λl _ N h=>(by cases h),λl w=>?_,λl w=>?_,λl _ N h=>h.elim,λl N h=>h.elim,λl N h=>h.elim,λN h=>h.elim,λl _=>List.pairwise_singleton _ _,List.pairwise_singleton _ _,λA B h=>h.elim,λN h=>h.elim,λA B h=>h.elim,λN h=>h.elim,λN h=>h.elim⟩
  ·show (p.bd l).slot=0
   rw [d.bd l (by omega)]
   rfl
  ·show (p.bd l).mark=false
   rw [d.bd l (by omega)]
   rfl
 ·intro i r
  refine ⟨rfl,u i r,Nat.zero_le _,.inl ⟨rfl,λh=>(by cases h),?_⟩⟩
  show Aw e i p (Ca.of 2) (λ_=>True) (lo0 e i n N,.idle ⟨Wd.zero,false⟩)
  trivial
 ·exact ⟨λi _ N h=>(by cases h),λi j _ _ N h=>(by cases h),λN h=>by
     have:=h.1
     cases this⟩
structure CW (k:Int) (c:Cm):Prop where
 iG:0<=c.level/\c.level<=2
 bd:0<=c.bound/\c.bound<=256
 cur:Wb k c.cur
 next:Wb k c.next
 fd:Wb k c.found
 s0:Wb k c.s0.cur
 s1:Wb k c.s1.cur
 s2:Wb k c.s2.cur
structure JW (k:Int) (j:Jb):Prop where
 cl:∀c,j.cl=some c->CW k c
 node:Wb k j.node
 op:j.op.bP
 by':0<=j.by'/\j.by'<=2
 iG:0<=j.level/\j.level<=3
 last:j.last.new=Wd.zero/\j.last.ay=Wd.zero/\(j.last.kind=0\/j.last.kind=12)
def cr (c:Cm):Nat:=if c.at'=5 then 3 else if c.at'=2\/c.at'=6\/c.at'=7 then 2 else if c.at'=8\/c.at'=9 then 1 else 0
def jr (j:Jb):Nat:=if j.at'=104 then 0 else 1+match j.cl with | none=>0 | some c=>cr c
structure CO (k:Int) (n:Nat) (r:Cm × Option Ca):Prop where
 w:CW (k+1) r.1
 c:∀a,r.2=some a->(Wb (k+1) a.new/\Wb k a.ay)/\(a.kind=3\/a.kind=5\/a.kind=6\/(a.kind=7/\cr r.1<n))
structure JO (k:Int) (n:Nat) (o:Op) (r:Jb × Ca):Prop where
 w:JW (k+1) r.1
 op:r.1.op=o
 c:Wb (k+1) r.2.new/\Wb k r.2.ay
 i:r.2.kind=7\/r.2.kind=10->jr r.1<n/\r.1.at'≠0
 k:r.2.kind≠1/\r.2.kind≠2/\r.2.kind≠11
section
variable {k:Int} {n:Nat} {c:Cm} {j:Jb} {x:Rp} {o:Op} {w r:Wd}
theorem CW.mono {k':Int} (h:CW k c) (a:k<=k'):CW k' c:=⟨h.iG,h.bd,h.cur.mono a,h.next.mono a,h.fd.mono a,h.s0.mono a,h.s1.mono a,h.s2.mono a⟩
theorem JW.mono {k':Int} (h:JW k j) (a:k<=k'):JW k' j:=⟨λc b=>(h.cl c b).mono a,h.node.mono a,h.op,h.by',h.iG,h.last⟩
theorem J5 (a:Wb k w) (d:Wb k r):Wb (k+1) (cB w r):=by
 obtain ⟨a1,a2,a3,a4⟩:=a
 obtain ⟨b,f,g,e⟩:=d
 refine ⟨b,?_,?_,?_⟩
 ·show -(k+1)<=r.gen/\r.gen<=k+1
  omega
 ·show -(2000 * (k+1)+3000)<=w.tag+1/\w.tag+1<=2000 * (k+1)+3000
  omega
 ·show -(2000 * (k+1)+3000)<=0/\0<=2000 * (k+1)+3000
  omega
theorem alm (a:Wb k w):Wb (k+1) (uS w):=by
 obtain ⟨a1,a2,a3,a4⟩:=a
 refine ⟨a1,?_,?_,?_⟩
 ·show -(k+1)<=w.gen/\w.gen<=k+1
  omega
 ·show -(2000 * (k+1)+3000)<=w.tag+1/\w.tag+1<=2000 * (k+1)+3000
  omega
 ·show -(2000 * (k+1)+3000)<=w.num/\w.num<=2000 * (k+1)+3000
  omega
theorem aln {b:Int} (d:0<=k) (a:Wb k w) (e:0<=b/\b<=2):Wb (k+1) (uT w b):=by
 obtain ⟨a1,a2,a3,a4⟩:=a
 refine ⟨?_,?_,?_,?_⟩
 ·show (-2000:Int)<=0/\(0:Int)<=2000
  decide
 ·show -(k+1)<=0/\0<=k+1
  omega
 ·show -(2000 * (k+1)+3000)<=w.tag+1/\w.tag+1<=2000 * (k+1)+3000
  omega
 ·show -(2000 * (k+1)+3000)<=w.num+b/\w.num+b<=2000 * (k+1)+3000
  omega
theorem CO.Y0 {c:Cm} {a:Ca} (h:CW (k+1) c) (d:Wb (k+1) a.new/\Wb k a.ay) (f:a.kind=3\/a.kind=5\/a.kind=6):CO k n (c,some a) :=
 ⟨h,λb e=>by obtain rfl:a=b:=Option.some.inj e;exact ⟨d,by omega⟩⟩
theorem CO.seven {c:Cm} {i a:Int} (e:0<=k) (h:CW (k+1) c) (d:cr c<n):CO k n (c,some (mF i a)) :=
 ⟨h,λb f=>by obtain rfl:mF i a=b:=Option.some.inj f;exact ⟨⟨Wb.zero (by omega),Wb.zero e⟩,.inr (.inr (.inr ⟨rfl,d⟩))⟩⟩
theorem CW.at (h:CW k c) (s:Int):CW k {c with at':=s}:=⟨h.iG,h.bd,h.cur,h.next,h.fd,h.s0,h.s1,h.s2⟩
theorem CW.enter (a:0<=k) (h:CW (k+1) c):CO k n c.enter:=CO.Y0 (h.at 2) ⟨Wb.zero (by omega),Wb.zero a⟩ (.inr (.inr rfl))
theorem CW.again (a:0<=k) (h:CW (k+1) c):CO k n c.again:=CW.enter a (c:={c with level:=2,pv:=Ad.root 2}) ⟨(by decide:(0:Int)<=2/\(2:Int)<=2),h.bd,h.cur,h.next,h.fd,h.s0,h.s1,h.s2⟩
theorem CW.behind (a:0<=k) (h:CW (k+1) c):CO k n c.behind:=CO.Y0 (h.at 3) ⟨Wb.zero (by omega),Wb.zero a⟩ (.inr (.inr rfl))
theorem CW.set (h:CW k c) (l:Int) {s:Pt} (a:Wb k s.cur):CW k (c.set l s):=by
 unfold Cm.set
 split
 ·exact ⟨h.iG,h.bd,h.cur,h.next,h.fd,a,h.s1,h.s2⟩
 split
 ·exact ⟨h.iG,h.bd,h.cur,h.next,h.fd,h.s0,a,h.s2⟩
 ·exact ⟨h.iG,h.bd,h.cur,h.next,h.fd,h.s0,h.s1,a⟩
theorem CW.lower (f:0<=k) (h:CW (k+1) c) (i:1<n):CO k n c.lower:=by
 have b:=h.set c.level (s:=⟨c.pv,c.cur⟩) h.cur
 unfold Cm.lower
 by_cases e:c.level=0
 ·rw [if_pos e]
  refine ⟨⟨b.iG,b.bd,b.cur,b.next,?_,b.s0,b.s1,b.s2⟩,λa g=>by cases g⟩
  show Wb (k+1) (if c.cur.slot≠0/\c.k=c.bound then c.cur.bN else c.found)
  split
  ·exact h.cur.ref (by omega)
  ·exact h.fd
 ·have l:=h.iG
  rw [if_neg e]
  by_cases d:c.pv.slot=0
  ·rw [if_pos d]
   exact CW.enter f ⟨⟨by show (0:Int)<=c.level-1;omega,by show c.level-1<=(2:Int);omega⟩,b.bd,b.cur,b.next,b.fd,b.s0,b.s1,b.s2⟩
  ·rw [if_neg d]
   exact CO.seven f ⟨⟨by show (0:Int)<=c.level-1;omega,by show c.level-1<=(2:Int);omega⟩,b.bd,b.cur,b.next,b.fd,b.s0,b.s1,b.s2⟩ (show (1:Nat)<n from i)
theorem CW.on (a:0<=k) (h:CW (k+1) c) (b:1<n):CO k n c.on:=by
 unfold Cm.on
 split
 ·exact h.lower a b
 ·exact CO.seven a (h.at 8) (show (1:Nat)<n from b)
theorem CW.nx (b:0<=k) (d:CW k c) (f:Wb k x.word):CO k (cr c) (c.nx x):=by
 have h:=d.mono (show k<=k+1 by omega)
 have i:=f.mono (show k<=k+1 by omega)
 have z:Wb (k+1) Wd.zero/\Wb k Wd.zero:=⟨Wb.zero (by omega),Wb.zero b⟩
 unfold Cm.nx
 by_cases a2:c.at'=2
 ·rw [if_pos a2]
  have e:1<cr c:=by unfold cr;rw [iN,if_pos (.inl a2)];decide
  have m:CW (k+1) {c with cur:=x.word}:=⟨h.iG,h.bd,i,h.next,h.fd,h.s0,h.s1,h.s2⟩
  split
  ·exact h.again b
  split
  ·exact m.lower b e
  ·exact m.behind b
 rw [if_neg a2]
 by_cases a3:c.at'=3
 ·rw [if_pos a3]
  exact CO.Y0 ⟨h.iG,h.bd,h.cur,i,h.fd,h.s0,h.s1,h.s2⟩ z (.inl rfl)
 rw [if_neg a3]
 by_cases a4:c.at'=4
 ·rw [if_pos a4]
  exact CO.Y0 ⟨h.iG,h.bd,h.cur,h.next,h.fd,h.s0,h.s1,h.s2⟩ z (.inl rfl)
 rw [if_neg a4]
 by_cases a5:c.at'=5
 ·rw [if_pos a5]
  have e:2<cr c:=by unfold cr;rw [if_pos a5];decide
  split
  ·exact h.again b
  split
  ·exact CO.Y0 (h.at 6) ⟨J5 d.cur d.next,d.cur⟩ (.inr (.inl rfl))
  split
  ·exact h.lower b (by omega)
  ·exact CO.seven b ⟨h.iG,h.bd,h.cur,h.next,h.fd,h.s0,h.s1,h.s2⟩ (show (2:Nat)<cr c from e)
 rw [if_neg a5]
 by_cases a6:c.at'=6
 ·rw [if_pos a6]
  have e:1<cr c:=by unfold cr;rw [iN,if_pos (.inr (.inl a6))];decide
  split
  ·exact CW.on b (c:={c with cur:=cB c.cur c.next}) ⟨h.iG,h.bd,J5 d.cur d.next,h.next,h.fd,h.s0,h.s1,h.s2⟩ e
  ·exact h.again b
 rw [if_neg a6]
 by_cases l:c.at'=0
 ·rw [if_pos l]
  exact h.again b
 rw [if_neg l]
 by_cases a7:c.at'=7
 ·rw [if_pos a7]
  have e:1<cr c:=by unfold cr;rw [iN,if_pos (.inr (.inr a7))];decide
  exact CW.on b (c:={c with cur:=c.next}) ⟨h.iG,h.bd,h.next,h.next,h.fd,h.s0,h.s1,h.s2⟩ e
 rw [if_neg a7]
 by_cases a8:c.at'=8
 ·rw [if_pos a8]
  exact h.behind b
 rw [if_neg a8]
 by_cases g:c.at'=9
 ·rw [if_pos g]
  exact h.enter b
 rw [if_neg g]
 exact ⟨h,λa p=>by cases p⟩
end
section
variable {k:Int} {n m:Nat} {c:Cm} {j:Jb} {x:Rp} {o:Op} {w r:Wd}
theorem JW.found (a:0<=k) (h:JW k j):Wb k j.found:=by
 unfold Jb.found
 cases b:j.cl with
 | none=>exact Wb.zero a
 | some c=>exact (h.cl c b).fd
theorem JW.place (b:0<=k) (h:JW k j) (l:Int):Wb k (j.place l).cur:=by
 unfold Jb.place
 cases a:j.cl with
 | none=>exact Wb.zero b
 | some c =>
  simp only
  split
  ·unfold Cm.sp
   split
   ·exact (h.cl c a).s0
   split
   ·exact (h.cl c a).s1
   ·exact (h.cl c a).s2
  ·exact Wb.zero b
theorem JO.ask {s:Int} {a:Ca} (h:JW (k+1) j) (b:j.op=o) (d:Wb (k+1) a.new/\Wb k a.ay) (e:a.kind=3\/a.kind=4\/a.kind=5\/a.kind=8\/a.kind=9):JO k n o (j.ask s a) :=
 ⟨⟨h.cl,h.node,h.op,h.by',h.iG,h.last⟩,b,d,λq=>by
   have q:a.kind=7\/a.kind=10:=q
   omega,by
   show a.kind≠1/\a.kind≠2/\a.kind≠11
   omega⟩
theorem JO.fin {a b:Int} (e:0<=k) (h:JW (k+1) j) (d:j.op=o):JO k n o (j.fin a b) :=
 ⟨⟨h.cl,h.node,h.op,h.by',h.iG,rfl,rfl,.inr rfl⟩,d,⟨Wb.zero (by omega),Wb.zero e⟩,λq=>by
   have q:(12:Int)=7\/(12:Int)=10:=q
   omega,by
   show (12:Int)≠1/\(12:Int)≠2/\(12:Int)≠11
   decide⟩
theorem JO.ay (a:0<=k) (h:JW (k+1) j) (b:j.op=o):JO k n o (j,j.last) :=
 ⟨h,b,⟨by show Wb (k+1) j.last.new;rw [h.last.1];exact Wb.zero (by omega),by show Wb k j.last.ay;rw [h.last.2.1];exact Wb.zero a⟩,λq=>by
   have q:j.last.kind=7\/j.last.kind=10:=q
   have:=h.last.2.2
   omega,by
   show j.last.kind≠1/\j.last.kind≠2/\j.last.kind≠11
   have:=h.last.2.2
   omega⟩
theorem JW.part {b:Int} (d:0<=k) (h:JW (k+1) j) (e:0<=b/\b<=2) (a:j.op=o):JO k n o (j.part b) :=
 JO.ask (j:={j with by':=b}) ⟨h.cl,h.node,h.op,e,h.iG,h.last⟩ a ⟨Wb.zero (by omega),Wb.zero d⟩ (.inl rfl)
theorem JW.link (a:0<=k) (h:JW (k+1) j) (b:j.op=o):JO k n o j.link:=by
 unfold Jb.link
 split
 ·exact h.part a (by decide) b
 ·exact JO.ask h b ⟨Wb.zero (by omega),Wb.zero a⟩ (.inl rfl)
theorem JW.gq (h:JW k j) (a:0<=k) {s b:Int} (d:0<=b/\b<=256):JW k (j.gq s b) :=
 ⟨λc e=>by
   obtain rfl:Cm.new b=c:=Option.some.inj e
   have z:=Wb.zero a
   exact ⟨(by decide:(0:Int)<=0/\(0:Int)<=2),d,z,z,z,z,z,z⟩,h.node,h.op,h.by',h.iG,h.last⟩
theorem JW.walk (p:0<=k) (h:JW k j) (t:Wb k x.word) (f:j.op=o) (i:j.at'≠0/\j.at'≠104) (u:∀c,j.cl=some c->1+cr c<=n) {K:Jb->Jb × Ca} (l:∀j',JW (k+1) j'->j'.op=o->j'.node=j.node->JO k n o (K j')):JO k n o (j.walk x K):=by
 unfold Jb.walk
 cases d:j.cl with
 | none=>exact l j (h.mono (by omega)) f rfl
 | some c =>
  simp only
  have q:=(h.cl c d).nx p (x:=x) t
  have b:=h.mono (show k<=k+1 by omega)
  rcases hq:c.nx x with ⟨e,_ | a⟩
  ·rw [hq] at q
   exact l _ ⟨λc d=>by obtain rfl:e=c:=Option.some.inj d;exact q.w,b.node,b.op,b.by',b.iG,b.last⟩ f rfl
  ·rw [hq] at q
   obtain ⟨s,z⟩:=q.c a rfl
   refine ⟨⟨λc d=>by obtain rfl:e=c:=Option.some.inj d;exact q.w,b.node,b.op,b.by',b.iG,b.last⟩,f,s,λg=>?_,?_⟩
   ·have g:a.kind=7\/a.kind=10:=g
    have y:cr e<cr c:=by
     grind
    refine ⟨?_,i.1⟩
    show (if j.at'=104 then 0 else 1+cr e)<n
    rw [if_neg i.2]
    have:=u c d
    omega
   all_goals grind
theorem QZ (h:o.bP):0<=o.key/\o.key<=255:=h.1
theorem JW.tie (e:0<=k) (h:JW (k+1) j) (d:j.op=o) (b:¬j.level<j.op.dz->Wb k (j.place 0).cur/\Wb k j.node):JO k n o j.tie:=by
 unfold Jb.tie
 split
 ·exact JO.ask h d ⟨(h.place (by omega) _).ref (by omega),Wb.zero e⟩ (.inr (.inl rfl))
 ·rename_i a
  exact JO.ask h d ⟨J5 (b a).1 (b a).2,(b a).1⟩ (.inr (.inr (.inl rfl)))
theorem Ic (h:o.bP) (a:o.kind=6):(0<=o.val/\o.val<=1073741824)/\1<=o.dz/\o.dz<=3:=by
 have:=h.2
 rw [if_pos a] at this
 exact this
theorem JW.qa (d:0<=k) (h:JW k j) (l:Wb k x.word) (f:j.op.kind=6) (g:j.at'≠0/\j.at'≠104) (p:∀c,j.cl=some c->1+cr c<=n):JO k n j.op (j.qa x):=by
 refine h.walk d l rfl g p λe a b i=>?_
 split
 ·exact JO.ask a b ⟨Wb.zero (by omega),by rw [i];exact h.node⟩ (.inr (.inr (.inr (.inr rfl))))
 ·refine JW.tie (j:={e with level:=0}) d ⟨a.cl,a.node,a.op,a.by',(by decide:(0:Int)<=0/\(0:Int)<=3),a.last⟩ b λq=>?_
  have:=(Ic a.op (b ▸ f)).2.1
  all_goals grind
theorem JW.qF (a:0<=k) (h:JW k j) (f:Wb k x.word) (e:j.at'≠0/\j.at'≠104) (g:∀c,j.cl=some c->1+cr c<=n):JO k n j.op (j.qF x):=by
 refine h.walk a f rfl e g λi b d l=>?_
 split
 ·exact b.part a (by decide) d
 ·exact b.link a d
theorem JW.uN (b:0<=k) (h:JW k j) (i:Wb k x.word) (g:j.at'≠0/\j.at'≠104) (l:∀c,j.cl=some c->1+cr c<=n):JO k n j.op (j.uN x):=by
 refine h.walk b i rfl g l λd a e p=>?_
 have f:JW (k+1) {d with node:=d.found}:=⟨a.cl,a.found (by omega),a.op,a.by',a.iG,a.last⟩
 split
 ·exact JO.fin b f e
 ·exact JO.ask f e ⟨Wb.zero (by omega),Wb.zero b⟩ (.inl rfl)
theorem JW.uP (b:0<=k) (h:JW k j) (i:Wb k x.word) (g:j.at'≠0/\j.at'≠104) (l:∀c,j.cl=some c->1+cr c<=n):JO k n j.op (j.uP x):=by
 refine h.walk b i rfl g l λd a e p=>?_
 have f:JW (k+1) {d with node:=d.found}:=⟨a.cl,a.found (by omega),a.op,a.by',a.iG,a.last⟩
 split
 ·exact JO.fin b f e
 ·exact JO.ask f e ⟨Wb.zero (by omega),Wb.zero b⟩ (.inl rfl)
theorem JW.uO (a:0<=k) (h:JW k j) (f:Wb k x.word) (e:j.at'≠0/\j.at'≠104) (g:∀c,j.cl=some c->1+cr c<=n):JO k n j.op (j.uO x) :=
 h.walk a f rfl e g λi b d l=>b.part a (by decide) d
theorem JW.qb (f:0<=k) (h:JW k j) (i:Wb k x.word) (e:j.at'≠0/\j.at'≠104) (l:∀c,j.cl=some c->1+cr c<=n) (p:1<=n):JO k n j.op (j.qb x):=by
 refine h.walk f i rfl e l λb a d g=>?_
 refine ⟨⟨a.cl,a.node,a.op,a.by',a.iG,a.last⟩,d,⟨Wb.zero (by omega),by show Wb k b.node;rw [g];exact h.node⟩,λ_=>⟨?_,?_⟩,?_⟩
 ·show (if (104:Int)=104 then 0 else 1+_)<n
  rw [if_pos rfl]
  omega
 ·show (104:Int)≠0
  decide
 ·show (10:Int)≠1/\(10:Int)≠2/\(10:Int)≠11
  decide
theorem JW.up (a:0<=k) (h:JW k j):JO k n j.op j.up :=
 JO.ask (h.mono (by omega)) rfl ⟨J5 (h.place a _) h.node,h.place a _⟩ (.inr (.inr (.inl rfl)))
theorem JW.look (a:0<=k) (h:JW (k+1) j) (b:j.op=o):JO k n o j.look:=JO.ask h b ⟨Wb.zero (by omega),Wb.zero a⟩ (.inl rfl)
theorem JW.nx (Q:540000<=k) (h:JW k j) (f:Wb k x.word) (I:j.op.kind=6->j.at'=7\/j.at'=11->j.level<=2):JO k (jr j) j.op (j.next x):=by
 have d:0<=k:=by omega
 have A:0<=k+1:=by omega
 have a:=h.mono (show k<=k+1 by omega)
 have z:Wb (k+1) Wd.zero/\Wb k Wd.zero:=⟨Wb.zero A,Wb.zero d⟩
 have S:=QZ h.op
 have y:j.at'≠104->1<=jr j:=by grind [jr]
 have N:j.at'≠104->∀c,j.cl=some c->1+cr c<=jr j:=λe c D=>by unfold jr;rw [if_neg e,D];exact Nat.le_refl _
 have O:∀s b:Int,∀c,(j.gq s b).cl=some c->cr c=0:=λs b c D=>by obtain rfl:Cm.new b=c:=Option.some.inj D;rfl
 have g:j.at'≠104->∀s b:Int,∀c,(j.gq s b).cl=some c->1+cr c<=jr j:=by grind
 unfold Jb.next
 by_cases F:j.at'=-1
 ·rw [if_pos F];exact JO.ay d a rfl
 rw [if_neg F]
 by_cases K:j.at'>=101
 ·rw [if_pos K]
  unfold Jb.finish
  by_cases a1:j.at'=101
  ·rw [if_pos a1]
   split
   ·exact JO.ask a rfl ⟨aln d f h.by',f⟩ (.inr (.inr (.inl rfl)))
   ·exact (h.gq d (by omega)).qb d f ⟨show (103:Int)≠0 by decide,show (103:Int)≠104 by decide⟩ (g (by omega) _ _) (y (by omega))
  rw [if_neg a1]
  by_cases a2:j.at'=102
  ·rw [if_pos a2]
   split
   ·exact JO.fin d a rfl
   ·exact (h.gq d (by omega)).qb d f ⟨show (103:Int)≠0 by decide,show (103:Int)≠104 by decide⟩ (g (by omega) _ _) (y (by omega))
  all_goals grind [JO.fin,JW.qb,Jb.qb]
 rw [if_neg K]
 have l:j.at'≠104:=by omega
 by_cases k6:j.op.kind=6
 ·obtain ⟨P,R⟩:=Ic h.op k6
  by_cases J:j.at'>=9
  ·rw [if_pos ⟨k6,J⟩]
   unfold Jb.raise
   by_cases b9:j.at'=9
   ·rw [if_pos b9]
    split
    ·exact a.part d (by decide) rfl
    split
    ·exact JO.ask a rfl ⟨J5 f (h.place d _),f⟩ (.inr (.inr (.inl rfl)))
    ·exact h.up d
   rw [if_neg b9]
   by_cases b10:j.at'=10
   ·rw [if_pos b10]
    split
    ·exact a.link d rfl
    ·exact h.up d
   rw [if_neg b10]
   by_cases b11:j.at'=11
   ·rw [if_pos b11]
    split
    ·have:=I k6 (.inr b11)
     have:=h.iG
     exact JW.link (j:={j with level:=j.level+1}) d ⟨a.cl,a.node,a.op,a.by',⟨by show (0:Int)<=j.level+1;omega,by show j.level+1<=3;omega⟩,a.last⟩ rfl
    ·exact (h.gq d (by omega)).qF d f ⟨show (12:Int)≠0 by decide,show (12:Int)≠104 by decide⟩ (g l _ _)
   all_goals grind [Jb.qF,JW.qF,JO.ay]
  rw [if_neg (λq=>J q.2),if_pos k6]
  unfold Jb.insert
  by_cases i:j.at'=0
  ·rw [if_pos i];exact JO.ask a rfl z (.inr (.inr (.inr (.inl rfl))))
  rw [if_neg i]
  by_cases B:j.at'=1
  ·rw [if_pos B]
   split
   ·exact JO.fin d a rfl
   ·exact JO.ask (j:={j with node:=x.word}) ⟨a.cl,f.mono (by omega),a.op,a.by',a.iG,a.last⟩ rfl ⟨Wb.num A (by omega),z.2⟩ (.inr (.inl rfl))
  rw [if_neg B]
  by_cases t:j.at'=2
  ·rw [if_pos t];exact JO.ask a rfl ⟨Wb.num A (by omega),z.2⟩ (.inr (.inl rfl))
  rw [if_neg t]
  by_cases p:j.at'=3
  ·rw [if_pos p];exact JO.ask a rfl ⟨Wb.num A (by omega),z.2⟩ (.inr (.inl rfl))
  rw [if_neg p]
  by_cases G:j.at'=6
  ·rw [if_pos G];exact JO.fin d a rfl
  rw [if_neg G]
  by_cases L:j.at'=8
  ·rw [if_pos L]
   split
   ·exact JW.link (j:={j with level:=1}) d ⟨a.cl,a.node,a.op,a.by',(by decide:(0:Int)<=1/\(1:Int)<=3),a.last⟩ rfl
   ·exact (h.gq d (by omega)).qa d f k6 ⟨show (5:Int)≠0 by decide,show (5:Int)≠104 by decide⟩ (g l _ _)
  rw [if_neg L]
  by_cases u:j.at'=4
  ·rw [if_pos u]
   exact (h.gq d (by omega)).qa d f k6 ⟨show (5:Int)≠0 by decide,show (5:Int)≠104 by decide⟩ (g l _ _)
  rw [if_neg u]
  by_cases C:j.at'=5
  ·grind [JW.qa,Jb.qa]
  rw [if_neg C]
  by_cases E:j.at'=7
  ·rw [if_pos E]
   have:=I k6 (.inl E)
   have:=h.iG
   exact JW.tie (j:={j with level:=j.level+1}) d ⟨a.cl,a.node,a.op,a.by',⟨by show (0:Int)<=j.level+1;omega,by show j.level+1<=3;omega⟩,a.last⟩ rfl λ_=>⟨h.place d 0,h.node⟩
  ·rw [if_neg E]
   exact JO.ay d a rfl
 rw [if_neg (λq=>k6 q.1),if_neg k6]
 by_cases H:j.op.kind=7
 ·rw [if_pos H]
  unfold Jb.remove
  by_cases i:j.at'=0
  ·rw [if_pos i]
   exact (h.gq d (by omega)).uN d f ⟨show (1:Int)≠0 by decide,show (1:Int)≠104 by decide⟩ (g l _ _)
  rw [if_neg i]
  by_cases B:j.at'=1
  ·grind [Jb.uN,JW.uN]
  rw [if_neg B]
  by_cases t:j.at'=2
  ·rw [if_pos t]
   refine JO.ask (j:={j with level:=_}) ⟨a.cl,a.node,a.op,a.by',?_,a.last⟩ rfl z (.inl rfl)
   show (0:Int)<=(if x.word.num<1\/x.word.num > 3 then 1 else x.word.num)-1/\(if x.word.num<1\/x.word.num > 3 then 1 else x.word.num)-1<=3
   split <;> omega
  rw [if_neg t]
  by_cases p:j.at'=3
  ·rw [if_pos p]
   exact JW.look (j:={j with val:=x.word.num}) d ⟨a.cl,a.node,a.op,a.by',a.iG,a.last⟩ rfl
  rw [if_neg p]
  have M:j.level≠0->JO k (jr j) j.op (Jb.look {j with level:=j.level-1}):=λe=>by
   have:=h.iG
   exact JW.look (j:={j with level:=j.level-1}) d ⟨a.cl,a.node,a.op,a.by',⟨by show (0:Int)<=j.level-1;omega,by show j.level-1<=3;omega⟩,a.last⟩ rfl
  by_cases u:j.at'=4
  ·rw [if_pos u]
   split
   ·exact JO.ask a rfl ⟨alm f,f⟩ (.inr (.inr (.inl rfl)))
   all_goals grind [JO.fin]
  rw [if_neg u]
  by_cases C:j.at'=5
  ·rw [if_pos C]
   split
   ·exact a.look d rfl
   split
   ·exact M (by omega)
   ·exact (h.gq d (by omega)).uO d f ⟨show (6:Int)≠0 by decide,show (6:Int)≠104 by decide⟩ (g l _ _)
  all_goals grind [JW.uO,Jb.uO,JO.ay]
 rw [if_neg H]
 unfold Jb.get
 by_cases i:j.at'=0
 ·rw [if_pos i]
  exact (h.gq d (by omega)).uP d f ⟨show (1:Int)≠0 by decide,show (1:Int)≠104 by decide⟩ (g l _ _)
 rw [if_neg i]
 all_goals grind [Jb.uP,JW.uP,JO.fin,JO.ay]
end
def early (j:Jb):Prop:=j.at'=0\/(j.op.kind=6/\1<=j.at'/\j.at'<=4)
def zZ (j:Jb):Prop:=(early j/\j.cl=none)\/(¬early j/\j.cl≠none)
def KP (r:Jb × Ca):Prop:=r.2.kind=12\/zZ r.1
section
variable {j:Jb} {x:Rp} {o:Op} {c:Cm}
theorem xq {a b:Int}:KP (j.fin a b):=.inl rfl
theorem jQ {s:Int} {a:Ca} (h:j.cl≠none) (b:s≠0/\(j.op.kind=6->5<=s)):KP (j.ask s a) :=
 .inr (.inr ⟨λe=>by
   have e:s=0\/(j.op.kind=6/\1<=s/\s<=4):=e
   omega,h⟩)
theorem Fy {s:Int} {a:Ca} (h:j.cl=none) (b:j.op.kind=6/\1<=s/\s<=4):KP (j.ask s a):=.inr (.inl ⟨.inr b,h⟩)
theorem vY (e:j.cl≠none) (b:¬early j) {K:Jb->Jb × Ca} (d:∀j',j'.cl≠none->j'.op=j.op->KP (K j')):KP (j.walk x K):=by
 unfold Jb.walk
 cases h:j.cl with
 | none=>exact absurd h e
 | some c =>
  simp only
  rcases c.nx x with ⟨f,_ | a⟩
  ·exact d _ (by simp) rfl
  ·exact .inr (.inr ⟨b,by simp⟩)
theorem Fz {b:Int} (h:j.cl≠none):KP (j.part b):=jQ (j:={j with by':=b}) h ⟨by decide,λ_=>by decide⟩
theorem FB (h:j.cl≠none):KP j.link:=by
 grind [Jb.link,Fz,jQ]
theorem Y1 (h:j.cl≠none):KP j.tie:=by
 grind [Jb.tie,jQ]
theorem LP (d:j.cl≠none) (b:¬early j):KP (j.qa x):=vY d b λa h e=>by
 split
 ·exact jQ h ⟨by decide,λ_=>by decide⟩
 ·exact Y1 (j:={a with level:=0}) h
theorem Q3 (b:j.cl≠none) (a:¬early j):KP (j.qF x):=vY b a λd h e=>by
 split
 ·exact Fz h
 ·exact FB h
theorem TU (b:j.op.kind≠6) (g:j.cl≠none) (f:¬early j):KP (j.uN x):=vY g f λa h d=>by
 split
 ·exact xq
 ·exact jQ (j:={a with node:=a.found}) h ⟨by decide,λe=>absurd (d ▸ e:j.op.kind=6) b⟩
theorem TV (b:j.op.kind≠6) (g:j.cl≠none) (f:¬early j):KP (j.uP x):=vY g f λa h d=>by
 split
 ·exact xq
 ·exact jQ (j:={a with node:=a.found}) h ⟨by decide,λe=>absurd (d ▸ e:j.op.kind=6) b⟩
theorem TW (b:j.cl≠none) (a:¬early j):KP (j.uO x):=vY b a λd h e=>Fz h
theorem ae6 (b:j.cl≠none) (a:¬early j):KP (j.qb x):=vY b a λd h e=>jQ h ⟨by decide,λ_=>by decide⟩
theorem tZ {s b:Int}:(j.gq s b).cl≠none:=by
 show some _≠none
 simp
theorem FC {s b:Int} (h:s≠0/\(j.op.kind=6->5<=s)):¬early (j.gq s b):=λe=>by
 have e:s=0\/(j.op.kind=6/\1<=s/\s<=4):=e
 omega
theorem EC (h:zZ j):KP (j,j.last):=.inr h
theorem zZ.nx (h:zZ j):KP (j.next x):=by
 have s5:∀{s b:Int},5<=s->¬early (j.gq s b):=by grind [FC]
 unfold Jb.next
 by_cases k:j.at'=-1
 ·rw [if_pos k];exact EC h
 rw [if_neg k]
 have ne:j.at'≠0->(j.op.kind=6->j.at'<1\/4<j.at')->j.cl≠none:=λa b=>by
  rcases h with ⟨h,-⟩ | ⟨-,h⟩
  ·unfold early at h
   omega
  ·exact h
 have g:early j->j.cl=none:=λa=>h.elim (λh=>h.2) λh=>absurd a h.1
 have i:j.at'≠0->(j.op.kind=6->j.at'<1\/4<j.at')->¬early j:=λa b e=>by
  unfold early at e
  omega
 by_cases p:j.at'>=101
 ·grind [Jb.finish,jQ,ae6,tZ,xq]
 rw [if_neg p]
 by_cases k6:j.op.kind=6
 ·by_cases n:j.at'>=9
  ·rw [if_pos ⟨k6,n⟩]
   have d:=ne (by omega) (by omega)
   unfold Jb.raise
   split
   ·split
    ·exact Fz d
    split
    ·grind [jQ]
    ·exact jQ d ⟨by decide,λ_=>by decide⟩
   split
   ·split
    ·exact FB d
    ·exact jQ d ⟨by decide,λ_=>by decide⟩
   split
   ·split
    ·exact FB (j:={j with level:=j.level+1}) d
    all_goals grind [Q3,tZ]
   all_goals grind [Q3,EC]
  rw [if_neg (λq=>n q.2),if_pos k6]
  unfold Jb.insert
  split
  ·exact Fy (g (.inl (by assumption))) ⟨k6,by decide,by decide⟩
  split
  ·split
   ·exact xq
   ·exact Fy (j:={j with node:=x.word}) (g (.inr ⟨k6,by omega,by omega⟩)) ⟨k6,by decide,by decide⟩
  split
  ·exact Fy (g (.inr ⟨k6,by omega,by omega⟩)) ⟨k6,by decide,by decide⟩
  split
  ·exact Fy (g (.inr ⟨k6,by omega,by omega⟩)) ⟨k6,by decide,by decide⟩
  split
  ·exact xq
  split
  ·grind [FB,LP,tZ]
  split
  ·exact LP tZ (s5 (by decide))
  split
  ·grind [LP]
  split
  ·exact Y1 (j:={j with level:=j.level+1}) (ne (by omega) (by omega))
  ·exact EC h
 rw [if_neg (λq=>k6 q.1),if_neg k6]
 have f:∀{s:Int},s≠0->s≠0/\(j.op.kind=6->5<=s):=by grind
 by_cases l:j.op.kind=7
 ·rw [if_pos l]
  unfold Jb.remove
  split
  ·exact TU k6 tZ (FC (f (by decide)))
  rename_i m
  have d:=ne m (λe=>absurd e k6)
  have r:=i m (λe=>absurd e k6)
  split
  ·exact TU k6 d r
  split
  ·grind [jQ]
  split
  ·exact jQ (j:={j with val:=x.word.num}) d (f (by decide))
  split
  ·split
   ·exact jQ d (f (by decide))
   split
   ·exact xq
   ·exact jQ (j:={j with level:=j.level-1}) d (f (by decide))
  split
  ·split
   ·exact jQ d (f (by decide))
   split
   ·exact jQ (j:={j with level:=j.level-1}) d (f (by decide))
   all_goals grind [TW,tZ,FC]
  split
  all_goals grind [TW,EC]
 rw [if_neg l]
 unfold Jb.get
 split
 ·exact TV k6 tZ (FC (f (by decide)))
 all_goals grind [TV,xq,EC]
theorem zZ.new (o:Op):zZ (Jb.new o):=.inl ⟨.inl rfl,rfl⟩
end
structure AV (k:Int) (v:Vk) (p:PS):Prop where
 mH:uU k v.l v.t p
 k5:540000<=k
 ED:∀j,v.j=some j->JW k j
 Y2:∀j,v.j=some j->zZ j
 ops:v.ops.length<=12
structure Sz (n:Nat) (e K:Int) (S:St) (V:Nat->Vk):Prop where
 sy:Sy n e S V
 av:∀i,i<n->AV K (V i) S.p
def rk (v:Vk):Nat :=
 if v.t.aH≠0 then 0 else
 match v.j with
 | none=>if v.aj=true then v.ops.length-v.said.length+3 else v.ops.length-v.said.length+2
 | some j=>if j.at'=0 then 1 else v.ops.length-v.said.length+3+jr j
section
variable {S S':St} {n m:Nat} {e K k:Int} {i:Nat} {x:Rp} {j:Jb} {v:Vk} {V I:Nat->Vk} {p p':PS} {w:Wk} {l:Lo} {q:Ca}
theorem AV.mono {k k':Int} (h:AV k v p) (a:k<=k'):AV k' v p:=⟨h.mH.mono a,by have:=h.k5;omega,λj b=>(h.ED j b).mono a,h.Y2,h.ops⟩
theorem AV.other {k k':Int} {u:Vk} (h:AV k v p) (h':AV k' u p') (a:k<=k'):AV k' v p' :=
 ⟨⟨h.mH.ok,h.mH.mE,h'.mH.Tz,h.mH.lw.mono a,h.mH.tw.mono a,h'.mH.pw,by have:=h.mH.fr;omega,by have:=h.mH.nl;omega,h'.mH.st,h'.mH.k0⟩,h'.k5,(h.mono a).ED,h.Y2,h.ops⟩
theorem anS (h:JI S e i j) (g:j.op.bP) (b:j.op.kind=6) (C:j.at'=7\/j.at'=11):j.level<=2:=by
 have d:=(iH g b).2
 cases h with
 | a7 N lv c f b s r y u t z B o a A d=>omega
 | b11 N lv c f b s t o a r d=>omega
 | _=>omega
theorem AV.fQ (h:AV k v p) (s:v.t=.idle x) (o:v.may x) (C:∀j,v.j=some j->j.op.kind=6->j.at'=7\/j.at'=11->j.level<=2):AV (k+1) (v.fQ x) p:=by
 have b:=h.mH
 have A:=b.k0
 have B:=h.k5
 rw [s] at b
 have y:Wb k Wd.zero:=Wb.zero A
 have d:Wb (k+1) Wd.zero:=Wb.zero (by omega)
 have u:Wb k x.word:=b.tw
 unfold Vk.fQ
 unfold Vk.may at o
 cases r:v.j with
 | none =>
  simp only
  by_cases z:v.aj=true
  ·rw [if_pos z]
   exact ⟨b.begin (c:=Ca.of 2) (nP ⟨by decide,by decide,by decide⟩) d y,by omega,λj a=>(by cases a),λj a=>(by cases a),h.ops⟩
  rw [if_neg z]
  by_cases t:¬v.op.bP
  ·rw [if_pos t]
   refine ⟨?_,by omega,λj a=>?_,λj a=>?_,h.ops⟩
   ·have:=b.mono (k':=k+1) (by omega)
    show uU (k+1) v.l v.t p
    rw [s]
    exact this
   all_goals grind
  ·rw [if_neg t]
   refine ⟨b.begin (c:=Ca.of 1) (nP ⟨by decide,by decide,by decide⟩) d y,by omega,λj a=>?_,λj a=>?_,h.ops⟩
   rotate_left
   ·obtain rfl:Jb.new v.op=j:=Option.some.inj a
    exact zZ.new _
   obtain rfl:Jb.new v.op=j:=Option.some.inj a
   exact ⟨λc D=>(by cases D),d,Classical.not_not.1 t,(by decide:(0:Int)<=0/\(0:Int)<=2),(by decide:(0:Int)<=0/\(0:Int)<=3),rfl,rfl,.inl rfl⟩
 | some j =>
  rw [r] at o
  simp only at o ⊢
  have q:=(h.ED j r).nx (x:=x) B u (C j r)
  by_cases g:(j.next x).2.kind=12
  ·rw [if_pos g]
   refine ⟨?_,by omega,λf a=>(by cases a),λf a=>(by cases a),h.ops⟩
   have:=b.mono (k':=k+1) (by omega)
   show uU (k+1) v.l v.t p
   rw [s]
   exact this
  ·rw [if_neg g]
   refine ⟨b.begin (o.2 g) q.c.1 q.c.2,by omega,λf a=>?_,λf a=>?_,h.ops⟩
   ·obtain rfl:(j.next x).1=f:=Option.some.inj a
    exact q.w
   ·obtain rfl:(j.next x).1=f:=Option.some.inj a
    exact ((h.Y2 j r).nx (x:=x)).resolve_left g
theorem AV.aB (h:AV k v p) (c:p.act (v.t.acc v.l)=(p',some x)):AV (k+1) (v.with (RT.aB v.l v.t x)) p'/\Wb (k+1) x.word:=by
 obtain ⟨a,b⟩:=h.mH.aB c
 have:=h.k5
 exact ⟨⟨a,by omega,(h.mono (show k<=k+1 by omega)).ED,h.Y2,h.ops⟩,b⟩
theorem Cc {c:Prop} [Decidable c] {a b:LR} (f:c->a.2.aH≠0) (d:¬c->b.2.aH≠0):(if c then a else b).2.aH≠0:=by
 grind
theorem V8 (h:q.kind≠1/\q.kind≠2/\q.kind≠7/\q.kind≠10/\q.kind≠11) (b:1<=q.kind/\q.kind<=11):(RT.begin l q).2.aH≠0:=by
 unfold RT.begin
 rw [if_neg h.1,if_neg h.2.1]
 refine Cc (λ_=>(by decide:(1:Int)≠0)) λc=>Cc (λ_=>(by decide:(1:Int)≠0)) λf=>Cc (λ_=>(by decide:(1:Int)≠0)) λd=>Cc (λ_=>(by decide:(5:Int)≠0)) λk6=>?_
 rw [if_neg h.2.2.1]
 refine Cc (λ_=>Cc (λ_=>(by decide:(8:Int)≠0)) λ_=>(by decide:(1:Int)≠0)) λg=>Cc (λ_=>(by decide:(2:Int)≠0)) λa=>?_
 rw [if_neg h.2.2.2.1]
 omega
theorem anT (j:Jb):jr j<=4:=by
 grind [jr,Cm,cr]
theorem adF (h:v.ops.length<=12):rk v<=19:=by
 grind [rk,anT]
theorem TY (a:j.at'=0) (f:j.op.bP):(j.next x).2.kind=6\/(j.next x).2.kind=8:=by
 have c:∀(j:Jb) (s b:Int) (K:Jb->Jb × Ca),((j.gq s b).walk x K).2.kind=6:=λj s b K=>rfl
 unfold Jb.next
 rw [iN,iN,if_neg (λh=>absurd h.2 (by omega))]
 by_cases k6:j.op.kind=6
 ·rw [if_pos k6]
  unfold Jb.insert
  rw [if_pos a]
  exact .inr rfl
 rw [if_neg k6]
 by_cases d:j.op.kind=7
 ·rw [if_pos d]
  unfold Jb.remove
  rw [if_pos a]
  exact .inl (c _ _ _ _)
 ·rw [if_neg d]
  unfold Jb.get
  rw [if_pos a]
  exact .inl (c _ _ _ _)
theorem ai1 (h:AV k v p) (o:v.t=.idle x) (hd:¬v.done) (a:v.may x) (G:v.said.length<=v.ops.length) (t:∀j,v.j=some j->j.op.kind=6->j.at'=7\/j.at'=11->j.level<=2):rk (v.fQ x)<rk v:=by
 have B:v.t.aH=0:=by rw [o];rfl
 have y:¬v.t.aH≠0:=λh=>h B
 have A:=h.k5
 have g:Wb k x.word:=by
  have:=h.mH.tw
  rw [o] at this
  exact this
 unfold Vk.may at a
 cases b:v.j with
 | none =>
  rw [b] at a
  simp only at a
  by_cases C:v.aj=true
  ·have e:v.fQ x=({v with aj:=false}:Vk).with (RT.begin v.l (Ca.of 2)):=by
    grind [Vk.fQ]
   have r:rk v=v.ops.length-v.said.length+3:=by
    grind [rk]
   rw [e,r]
   unfold rk
   split
   ·omega
   ·show (match v.j with | none=>_ | some j=>_)<_
    rw [b]
    simp only
    rw [if_neg (by show ¬(false=true);decide)]
    show v.ops.length-v.said.length+2<_
    omega
  ·have r:rk v=v.ops.length-v.said.length+2:=by
    grind [rk]
   obtain ⟨-,t⟩:=a.resolve_left C
   by_cases E:¬v.op.bP
   ·grind [Vk.fQ,rk,List.length_append,List.length_singleton]
   ·have e:v.fQ x=({v with j:=some (Jb.new v.op),aj:=true}:Vk).with (RT.begin v.l (Ca.of 1)):=by
     grind [Vk.fQ]
    rw [e,r]
    unfold rk
    split
    ·omega
    ·show (if (0:Int)=0 then 1 else _)<_
     rw [if_pos rfl]
     omega
 | some j =>
  rw [b] at a
  simp only at a
  have q:=(h.ED j b).nx (x:=x) A g (t j b)
  by_cases s:(j.next x).2.kind=12
  ·have u:=a.1 s
   have e:v.fQ x={v with said:=v.said ++ [((j.next x).2.code,(j.next x).2.val)],j:=none}:=by
    grind [Vk.fQ]
   have c:j.at'≠0:=λc=>by
    have:=TY (x:=x) c (h.ED j b).op
    omega
   all_goals grind [rk,jr,List.length_append,List.length_singleton]
  ·have d:=a.2 s
   have e:v.fQ x=({v with j:=some (j.next x).1}:Vk).with (RT.begin v.l (j.next x).2):=by
    grind [Vk.fQ]
   rw [e]
   by_cases f:(RT.begin v.l (j.next x).2).2.aH≠0
   ·have:rk (({v with j:=some (j.next x).1}:Vk).with (RT.begin v.l (j.next x).2))=0:=by
     show (if (RT.begin v.l (j.next x).2).2.aH≠0 then 0 else if (j.next x).1.at'=0 then 1 else v.ops.length-v.said.length+3+jr (j.next x).1)=0
     rw [if_pos f]
    all_goals grind [rk]
   ·have z:(j.next x).2.kind=7\/(j.next x).2.kind=10:=Classical.byContradiction λH=>f (V8 (by have:=q.k;omega) ⟨d.1,d.2.1⟩)
    have c:j.at'≠0:=λc=>by
     have:=TY (x:=x) c (h.ED j b).op
     omega
    obtain ⟨F,D⟩:=q.i z
    have r:rk v=v.ops.length-v.said.length+3+jr j:=by
     grind [rk]
    rw [r]
    show (if (RT.begin v.l (j.next x).2).2.aH≠0 then 0 else if (j.next x).1.at'=0 then 1 else v.ops.length-v.said.length+3+jr (j.next x).1)<_
    rw [if_neg f,if_neg D]
    omega
end
section
variable {S S':St} {n m:Nat} {e K k:Int} {i:Nat} {x:Rp} {j:Jb} {v:Vk} {V J:Nat->Vk} {p p':PS} {w:Wk} {W:Nat->Wk} {l:Lo} {q:Ca}
theorem VW.idle (h:VW v w) (b:v.t=.idle x):jh v.l (.idle x) w.r/\w.r.step=0/\w.r.bS=x:=by
 have a:=h.rep
 rw [b] at a
 exact ⟨a,a.step,a.more⟩
theorem ca1 {k:Int} (h:1<=k/\k<=11):(Ca.of k).OK:=nP ⟨h,(by decide:((0:Int)<=0/\(0:Int)<9)/\(0:Int)<=0/\(0:Int)<9)⟩
theorem VW.leave (h:VW v w) (b:v.l.OK) (d:v.t=.idle x) (f:v.j=none) (g:v.aj=true):(w.r.begin (Ca.of 2)).2=true/\VW (v.fQ x) {w with aj:=false,r:=(w.r.begin (Ca.of 2)).1}:=by
 obtain ⟨c,-,-⟩:=h.idle d
 have a:=c.begin b (ca1 (k:=2) (by decide))
 have e:v.fQ x=({v with aj:=false}:Vk).with (RT.begin v.l (Ca.of 2)):=by
  grind [Vk.fQ]
 rw [e]
 exact ⟨a.2,a.1,h.ops,h.j,rfl,h.said⟩
theorem VW.start (h:VW v w) (b:v.l.OK) (d:v.t=.idle x) (f:v.j=none) (o:v.aj=false) (g:v.op.bP):(w.r.begin (Ca.of 1)).2=true/\VW (v.fQ x) {w with j:=some (Jb.new (w.ops.getD w.said.length ⟨0,0,0,0⟩)),aj:=true,r:=(w.r.begin (Ca.of 1)).1}:=by
 obtain ⟨c,-,-⟩:=h.idle d
 have a:=c.begin b (ca1 (k:=1) (by decide))
 have e:v.fQ x=({v with j:=some (Jb.new v.op),aj:=true}:Vk).with (RT.begin v.l (Ca.of 1)):=by
  grind [Vk.fQ]
 rw [e]
 refine ⟨a.2,a.1,h.ops,?_,rfl,h.said⟩
 show some (Jb.new (w.ops.getD w.said.length ⟨0,0,0,0⟩))=some (Jb.new v.op)
 rw [h.ops,h.said]
 rfl
theorem VW.bad (h:VW v w) (a:v.j=none) (c:v.aj=false) (b:¬v.op.bP):VW (v.fQ x) {w with said:=w.said ++ [(0,0)]}:=by
 have e:v.fQ x={v with said:=v.said ++ [(0,0)]}:=by
  grind [Vk.fQ]
 rw [e]
 refine ⟨h.rep,h.ops,h.j,h.aj,?_⟩
 show w.said ++ _=v.said ++ _
 rw [h.said]
theorem VW.next (h:VW v w) (f:v.l.OK) (s:v.t=.idle x) {j:Jb} (g:v.j=some j) (b:v.may x) :
  ((j.next w.r.bS).2.kind=12/\w.said.length<w.ops.length/\VW (v.fQ x) {w with said:=w.said ++ [((j.next w.r.bS).2.code,(j.next w.r.bS).2.val)],j:=none}) \/
  ((j.next w.r.bS).2.kind≠12/\(j.next w.r.bS).2.OK/\(w.r.begin (j.next w.r.bS).2).2=true/\VW (v.fQ x) {w with j:=some (j.next w.r.bS).1,r:=(w.r.begin (j.next w.r.bS).2).1}):=by
 obtain ⟨o,-,t⟩:=h.idle s
 rw [t]
 unfold Vk.may at b
 rw [g] at b
 simp only at b
 by_cases a:(j.next x).2.kind=12
 ·have e:v.fQ x={v with said:=v.said ++ [((j.next x).2.code,(j.next x).2.val)],j:=none}:=by
   grind [Vk.fQ]
  rw [e]
  refine .inl ⟨a,by rw [h.ops,h.said];exact b.1 a,h.rep,h.ops,rfl,h.aj,?_⟩
  show w.said ++ _=v.said ++ _
  rw [h.said]
 ·have c:=b.2 a
  have d:=o.begin f c
  have e:v.fQ x=({v with j:=some (j.next x).1}:Vk).with (RT.begin v.l (j.next x).2):=by
   grind [Vk.fQ]
  rw [e]
  exact .inr ⟨a,c,d.2,d.1,h.ops,rfl,h.aj,h.said⟩
theorem VW.aB (h:VW v w) (b:v.l.OK) (d:v.t.mE v.l) (c:v.t.aH≠0) (x:Rp):(w.r.aB x).2=true/\VW (v.with (RT.aB v.l v.t x)) {w with r:=(w.r.aB x).1}:=by
 have a:=h.rep.aB b d.fits c x
 exact ⟨a.2,a.1,h.ops,h.j,h.aj,h.said⟩
theorem Sz.iG (Z:Sz n e K S V) (o:i<n):∀j,(V i).j=some j->j.op.kind=6->j.at'=7\/j.at'=11->j.level<=2:=λj a c d=>by
 rcases (Z.sy.th i o).st with ⟨h,-⟩ | ⟨b,h,-,g,-,f,-⟩
 ·rw [a] at h;cases h
 ·rw [a] at h
  obtain rfl:j=b:=Option.some.inj h
  exact anS f g c d
theorem Sz.fQ (Z:Sz n e K S V) (a:i<n) (d:(V i).t=.idle x) (hd:¬(V i).done):(V i).may x/\rk ((V i).fQ x)<rk (V i)/\∃S',S'.p=S.p/\Sz n e (K+1) S' (Gd.bD V i ((V i).fQ x)):=by
 obtain ⟨c,S',f,h⟩:=Z.sy.fQ a d hd
 have o:=(Z.av i a).fQ d c (Z.iG a)
 refine ⟨c,ai1 (Z.av i a) d hd c (Z.sy.th i a).sl (Z.iG a),S',f,h,λk g=>?_⟩
 rw [f]
 by_cases b:k=i
 ·subst b;rw [Gd.aG];exact o
 ·rw [Gd.bR _ _ b];exact (Z.av k g).mono (by omega)
theorem Sz.acc (Z:Sz n e K S V) (c:i<n) (o:(V i).t.aH≠0):∃S' x,S.p.act ((V i).t.acc (V i).l)=(S'.p,some x)/\Sz n e (K+1) S' (Gd.bD V i ((V i).with (RT.aB (V i).l (V i).t x)))/\Wb (K+1) x.word:=by
 obtain ⟨S',x,d,h⟩:=Z.sy.acc c o
 obtain ⟨b,f⟩:=(Z.av i c).aB d
 refine ⟨S',x,d,⟨h,λk g=>?_⟩,f⟩
 by_cases a:k=i
 ·subst a;rw [Gd.aG];exact b
 ·rw [Gd.bR _ _ a];exact (Z.av k g).other b (by omega)
theorem ae7 (a:VW v w) (hd:v.done) (n:Nat):w.go (n+1)=(w,some false):=by
 obtain ⟨d1,d2,d3,d4⟩:=hd
 unfold Wk.go
 rw [if_neg (λh=>h (a.rep.step.trans d1)),a.j.trans d2]
 simp only
 rw [if_neg (by rw [a.aj,d3];decide),if_pos (by rw [a.ops,a.said];exact d4)]
theorem ai2 (a:VW v w) (u:v.l.OK) (s:v.t=.idle x) (o:v.may x) (n:Nat):∃z,VW (v.fQ x) z/\w.go (n+1)=z.go n:=by
 obtain ⟨-,b,B⟩:=a.idle s
 cases c:v.j with
 | none =>
  unfold Vk.may at o
  rw [c] at o
  simp only at o
  rcases o with f | ⟨f,A⟩
  ·obtain ⟨r,d⟩:=a.leave u s c f
   refine ⟨_,d,?_⟩
   rw [Wk.go,if_neg (λh=>h b),a.j.trans c]
   simp only
   rw [if_pos (a.aj.trans f),if_neg (by rw [r];decide)]
  ·have g:w.ops.getD w.said.length ⟨0,0,0,0⟩=v.op:=by rw [a.ops,a.said];rfl
   by_cases t:v.op.bP
   ·obtain ⟨r,d⟩:=a.start u s c f t
    refine ⟨_,d,?_⟩
    rw [Wk.go,if_neg (λh=>h b),a.j.trans c]
    simp only
    rw [if_neg (by rw [a.aj,f];decide),if_neg (by rw [a.ops,a.said];omega),if_neg (λh=>h (by rw [g];exact t)),if_neg (by rw [r];decide)]
   ·refine ⟨_,a.bad (x:=x) c f t,?_⟩
    rw [Wk.go,if_neg (λh=>h b),a.j.trans c]
    simp only
    rw [if_neg (by rw [a.aj,f];decide),if_neg (by rw [a.ops,a.said];omega),if_pos (λh=>t (by rw [g] at h;exact h))]
 | some j =>
  rcases a.next u s c o with ⟨y,-,d⟩ | ⟨y,-,r,d⟩
  ·refine ⟨_,d,?_⟩
   rw [Wk.go,if_neg (λh=>h b),a.j.trans c]
   simp only
   rw [if_pos y]
  ·refine ⟨_,d,?_⟩
   rw [Wk.go,if_neg (λh=>h b),a.j.trans c]
   all_goals grind
theorem go_acc (b:VW v w) (a:v.t.aH≠0) (n:Nat):w.go n=(w,none):=by
 cases n with
 | zero=>rfl
 | succ n =>
  unfold Wk.go
  rw [if_pos (by rw [b.rep.step];exact a)]
theorem ae8 (t:RT):t.aH≠0\/∃x,t=.idle x:=by
 grind [RT.aH,RT.zO]
theorem zR {α:Type} (f:Nat->α) (i:Nat) (a b:α):Gd.bD (Gd.bD f i a) i b=Gd.bD f i b:=by
 funext k
 unfold Gd.bD
 split <;> rfl
theorem go0 (r:i<n):∀(m:Nat) {K:Int} {S:St} {V:Nat->Vk} {w:Wk},VW (V i) w->Sz n e K S V->rk (V i)<m->∃w' c b f S',w.go m=(w',b)/\VW c w'/\S'.p=S.p/\Sz n e f S' (Gd.bD V i c)/\f<=K+rk (V i)/\((b=some false/\c.done)\/(b=none/\c.t.aH≠0))
 | 0,K,S,V,w,_,_,h=>absurd h (Nat.not_lt_zero _)
 | m+1,K,S,V,w,d,Z,h=>by
  have a:Gd.bD V i (V i)=V:=by
   funext k
   unfold Gd.bD
   split
   ·rename_i y;rw [y]
   ·rfl
  by_cases hd:(V i).done
  ·exact ⟨w,V i,some false,K,S,ae7 d hd m,d,rfl,by rw [a];exact Z,by omega,.inl ⟨rfl,hd⟩⟩
  rcases ae8 (V i).t with s | ⟨x,t⟩
  ·exact ⟨w,V i,none,K,S,go_acc d s _,d,rfl,by rw [a];exact Z,by omega,.inr ⟨rfl,s⟩⟩
  ·obtain ⟨D,H,I,g,A⟩:=Z.fQ r t hd
   obtain ⟨G,o,F⟩:=ai2 d (Z.av i r).mH.ok t D m
   obtain ⟨w',c,b,f,S',z,C,g2,u,B,E⟩:=go0 r m (V:=Gd.bD V i ((V i).fQ x)) (by rw [Gd.aG];exact o) A (by rw [Gd.aG];omega)
   rw [Gd.aG] at B
   rw [zR] at u
   exact ⟨w',c,b,f,S',F.trans z,C,g2.trans g,u,by omega,E⟩
theorem ae9 (g:i<n) (C:VW (V i) w) (Z:Sz n e K S V):∃w' a b c S',w.step S.p=(w',S'.p,b)/\VW a w'/\Sz n e c S' (Gd.bD V i a)/\c<=K+20:=by
 have H:=adF (Z.av i g).ops
 obtain ⟨r,a,b,c,B,z,f,g2,o,F,y⟩:=go0 g 200 C Z (by omega)
 unfold Wk.step
 rw [z]
 rcases y with ⟨rfl,-⟩ | ⟨rfl,d⟩
 ·exact ⟨r,a,false,c,B,by rw [g2],f,o,by omega⟩
 ·have h:=o.av i g
  have u:Gd.bD V i a i=a:=Gd.aG _ _ _
  obtain ⟨E,x,t,s,-⟩:=o.acc g (by rw [u];exact d)
  rw [u] at t s h
  rw [zR] at s
  have A:r.r.acc=a.t.acc a.l:=f.rep.acc d
  obtain ⟨G,D⟩:=f.aB h.mH.ok h.mH.mE d x
  simp only
  rw [if_neg (by rw [f.rep.step];exact d),A,<-g2,t]
  all_goals grind
structure Tw (n:Nat) (e K:Int) (p:PS) (W:Nat->Wk):Prop where
 ex:∃S V,S.p=p/\Sz n e K S V/\∀i,i<n->VW (V i) (W i)
theorem Tw.abD (T:Tw n e K p W) (f:i<n):∃c,c<=K+20/\Tw n e c ((W i).step p).2.1 (Gd.bD W i ((W i).step p).1):=by
 obtain ⟨S,V,rfl,Z,d⟩:=T.ex
 obtain ⟨s,t,b,c,S',o,h,g2,r⟩:=ae9 f (d i f) Z
 rw [o]
 refine ⟨c,r,S',_,rfl,g2,λk g=>?_⟩
 by_cases a:k=i
 ·subst a;rw [Gd.aG,Gd.aG];exact h
 ·rw [Gd.bR _ _ a,Gd.bR _ _ a];exact d k g
end
theorem M4:∀(k:Nat) (l:List Int),l.Nodup->(∀x∈l,1<=x/\x<=(k:Int))->l.length<=k
 | 0,l,_,h=>by
  cases l with
  | nil=>exact Nat.le_refl _
  | cons x r =>
   have:=h x (List.mem_cons_self ..)
   omega
 | k+1,l,d,h=>by
  have e:(l.erase ((k:Int)+1)).length<=k:=M4 k _ (d.erase _) λx f=>by
   obtain ⟨a,b⟩:=(List.Nodup.mem_erase_iff d).1 f
   have:=h x b
   omega
  have g:=List.length_erase_le (a:=(k:Int)+1) (l:=l)
  by_cases c:((k:Int)+1)∈l
  ·have:=List.length_erase_of_mem c
   omega
  ·rw [List.erase_of_not_mem c] at e
   omega
def yj (p:PS) (N:Nd):Int:=(p.cell (N.s-1).toNat 0).num
structure TZ (p:PS) (l:Nat) (L:List Nd):Prop where
 us:∀N∈L,(1<=N.s/\N.s<=p.ns)/\p.used (N.s-1).toNat=true/\p.gen (N.s-1).toNat=N.g
 zS:x8 (ce p l) (dG :: L)
 nd:(L.map λN=>N.s).Nodup
 len:(L.length:Int)<=p.ns
section
variable {S S':St} {n m:Nat} {e K k:Int} {i l:Nat} {x:Rp} {j:Jb} {v:Vk} {V C:Nat->Vk} {p p':PS} {w:Wk} {W:Nat->Wk} {q:Ca}
theorem Sy.lst (H:Sy n e S V) (o:l<3):TZ S.p l (S.G.L l):=by
 have c:∀N∈S.G.L l,(1<=N.s/\N.s<=S.p.ns)/\S.p.used (N.s-1).toNat=true/\S.p.gen (N.s-1).toNat=N.g:=λN r=>by
  obtain ⟨a,b⟩:=H.li.pb l o N r
  have d:=H.ei.out N.s (by rw [a];simp)
  exact ⟨d,(H.ei.used N.s d.1 d.2).2 (by rw [a];simp),b⟩
 have f:((S.G.L l).map λN=>N.s).Nodup:=by
  refine List.pairwise_map.2 ?_
  have d:=(List.pairwise_cons.1 (H.li.zT l o)).2
  refine d.imp_of_mem λ{a b} B y h g=>?_
  have s:=(c a B).2.2
  have z:=(c b y).2.2
  rw [g] at s
  have:a=b:=by
   cases a;cases b
   have g:_=_:=g
   have t:=s.symm.trans z
   simp only at g t
   rw [g,t]
  subst this
  unfold Gh.Lt at h
  omega
 refine ⟨c,H.li.zS l o,f,?_⟩
 have:=M4 S.p.ns.toNat _ f λx A=>by
  obtain ⟨N,r,rfl⟩:=List.mem_map.1 A
  have:=(c N r).1
  have u:=H.ei.ok.ns
  omega
 rw [List.length_map] at this
 have u:=H.ei.ok.ns
 omega
theorem Sy.keys (H:Sy n e S V):(S.G.L 0).Pairwise λa b=>yj S.p a<yj S.p b:=by
 have o:=(List.pairwise_cons.1 H.li.s0).2
 have d:∀N∈S.G.L 0,S.G.ky N=yj S.p N:=λN g=>by
  have f:=H.li.aj 0 (by decide) N g
  have s:=(H.li.nz N f).1
  unfold Gh.ky yj
  rw [iN]
  exact (H.li.kc N f (H.li.pb 0 (by decide) N g).lv).1.symm
 refine o.imp_of_mem λ{a b} h r c=>?_
 rw [<-d a h,<-d b r]
 exact c
theorem Tw.lists (T:Tw n e K p W):∃L:Nat->List Nd,(∀l,l<3->TZ p l (L l))/\(L 0).Pairwise (λa b=>yj p a<yj p b)/\p.nb=85/\p.OK/\p.bP=true:=by
 obtain ⟨S,V,rfl,Z,d⟩:=T.ex
 exact ⟨S.G.L,λl c=>Z.sy.lst c,Z.sy.keys,Z.sy.ei.nb,Z.sy.ei.ok,Z.sy.ei.bP⟩
theorem afa (e i n N:Int):jh (lo0 e i n N) (.idle ⟨Wd.zero,false⟩) (RS.new e i n N):=⟨rfl,rfl,rfl,rfl,rfl,rfl,rfl,rfl,rfl,λh=>absurd rfl h,rfl⟩
theorem Tw.new {m N:Int} {ops:Nat->List Op} (a:Nu p m) (s:1<=n/\n<=6) (f:1<=e/\e<=5) (g:1<=N) (d:∀i,i<n->(ops i).length<=12) (o:p.wb 540000) (r:∀i,i<n->W i=Wk.new e i n N (ops i)):Tw n e 540000 p W:=by
 refine ⟨St.new p e n N,v0 e n N ops,rfl,⟨Sy.new a s f g d,λi c=>?_⟩,λi c=>?_⟩
 ·have z:Wb 540000 Wd.zero:=Wb.zero (by decide)
  have h:=a.steps
  refine ⟨⟨⟨f,⟨by show (0:Int)<=i;omega,by show (i:Int)<n;omega⟩,⟨by show (1:Int)<=n;omega,by show (n:Int)<=6;omega⟩,g⟩,trivial,a.ok,⟨λ_=>z,?_,?_⟩,z,o,?_,?_,?_,by decide⟩,by decide,λj b=>(by cases b),λj b=>(by cases b),d i c⟩
  ·show (-(2000 * 540000+3000):Int)<=0/\(0:Int)<=2000 * 540000+3000
   decide
  ·show (-(2000 * 540000+3000):Int)<=0/\(0:Int)<=2000 * 540000+3000
   decide
  ·show (0:Int)<=0/\(0:Int)<=540000
   decide
  ·show ((0:Nat):Int)<=540000
   decide
  ·show p.steps<=540000
   omega
 ·rw [r i c]
  exact ⟨afa e i n N,rfl,rfl,rfl,rfl⟩
end
inductive OkN (j:Jb):Prop
 | a (hc:j.cl=none) (hk:j.op.kind=6) (h:0<=j.at'/\j.at'<=3)
 | b (hc:j.cl=none) (h:(j.op.kind=6/\j.at'=4)\/(j.op.kind≠6/\j.at'=0))
 | c (c:Cm) (hc:j.cl=some c) (h:(j.op.kind=6/\(9<=j.at'/\j.at'<=12)/\j.level<3)\/101<=j.at'\/(j.op.kind=6/\5<=j.at'/\j.at'<=8)\/(j.op.kind≠6/\0<j.at'/\j.at'<101))
section
variable {S:St} {e:Int} {i n:Nat} {j:Jb} {V:Nat->Vk} {K:Int} {x:Rp}
theorem zZ.no (h:zZ j) (a:early j):j.cl=none:=h.elim (λh=>h.2) λh=>absurd a h.1
theorem zZ.ye (h:zZ j) (a:¬early j):∃c,j.cl=some c:=by
 rcases h with ⟨h,-⟩ | ⟨-,h⟩
 ·exact absurd h a
 ·exact Option.ne_none_iff_exists'.1 h
theorem ai5 (h:JI S e i j) (B:j.op.bP) (o:zZ j):OkN j:=by
 have q:j.op.kind=6->j.op.dz<=3:=λa=>(iH B a).2
 have yes:∀(h:(j.op.kind=6/\(9<=j.at'/\j.at'<=12)/\j.level<3)\/101<=j.at'\/(j.op.kind=6/\5<=j.at'/\j.at'<=8)\/(j.op.kind≠6/\0<j.at'/\j.at'<101)),OkN j:=λh=>by
  obtain ⟨c,k⟩:=o.ye (by unfold early;omega)
  exact .c c k h
 cases h with
 | Ga b f =>
  have k:=o.no (.inl b)
  by_cases a:j.op.kind=6
  ·exact .a k a (by omega)
  ·exact .b k (.inr ⟨a,b⟩)
 | a1 b a f=>exact .a (o.no (.inr ⟨a,by omega,by omega⟩)) a (by omega)
 | a2 N b a d m f=>exact .a (o.no (.inr ⟨a,by omega,by omega⟩)) a (by omega)
 | a3 N b a d m r f=>exact .a (o.no (.inr ⟨a,by omega,by omega⟩)) a (by omega)
 | a4 N b a d m r f=>exact .b (o.no (.inr ⟨a,by omega,by omega⟩)) (.inl ⟨a,b⟩)
 | a5 N b a d m r z k=>exact yes (by omega)
 | a6 N b a d m f=>exact yes (by omega)
 | a7 N lv c b a d m r z k E p l g F f=>exact yes (by omega)
 | a8 N c b a d k m f=>exact yes (by omega)
 | b9 N lv c b a d k t l g f=>have:=q a;exact yes (by omega)
 | b10 N lv c w b a d k t l g y f=>have:=q a;exact yes (by omega)
 | b11 N lv c b a d k l g m f=>have:=q a;exact yes (by omega)
 | b12 N lv b a d t l g k=>have:=q a;exact yes (by omega)
 | c1 N b a A d u s f=>exact yes (by omega)
 | c2 N w b a A d u s C hd f=>exact yes (by omega)
 | c3 N b a d hd D k=>exact yes (by omega)
 | c4 N b a d f=>exact yes (by omega)
 | d1 b a k=>exact yes (by omega)
 | d2 N b a d p f=>exact yes (by omega)
 | d3 N lv b a d p l g f=>exact yes (by omega)
 | d4 N lv b a d p l g y f=>exact yes (by omega)
 | d5 N lv w b a d p l g y C o f=>exact yes (by omega)
 | d6 N b a d u s k=>exact yes (by omega)
 | g2 N b a d p f=>exact yes (by omega)
structure OkJ (K:Int) (j:Jb) (x:Rp):Prop where
 n:OkN j
 w:JW K j
 x:Wb K x.word
theorem Sz.okJ (Z:Sz n e K S V) (a:i<n) (c:(V i).t=.idle x) (b:(V i).j=some j):OkJ K j x:=by
 have A:=Z.av i a
 refine ⟨?_,A.ED j b,?_⟩
 ·rcases (Z.sy.th i a).st with ⟨h,-⟩ | ⟨d,h,-,g,-,f,-⟩
  all_goals grind [ai5,AV.Y2]
 ·have:=A.mH.tw
  rw [c] at this
  exact this
end
end Go.Proofs.YthomdlajobnmnaaGreatDoor.Sk
namespace Go.Proofs.YthomdlajobnmnaaGreatDoor
open Go.RowKit Go.Rex
section
variable {w a wb:World} {b base A:Nat} {k k':Wk} {c:Addr} {p p':PS} {B d:Nat->Prop} {e:Nat->Addr} {rb:Nat}
end
section
variable {w wr a w':World} {X:Nat->Prop} {b base A rb:Nat} {c B d:Nat->Prop} {k k':Wk} {e:Addr} {p:PS}
end
noncomputable def st1 (P:Program) (x:Nat) (w:World) (i:Nat) (v:Value):Result Unit :=
 match w.cell? ⟨x,i,none⟩ with
 | some val=>if w.frozen? ⟨x,i,none⟩=true then Result.halt (Halt.unsupported (Unsupported.unsafePointer "a write to bytes that a string shares")) w else Result.ok () (w.setCell ⟨x,i,none⟩ v)
 | none=>match World.farStore P w ⟨x,i,none⟩ v (Mode.plain == Mode.atomic) with
  | Except.ok (a,snd)=>Result.ok () a
  | Except.error h=>Result.halt h w
noncomputable def sts (P:Program) (x:Nat):List Value->Nat->World->Result Unit
 | [],_,w=>.ok () w
 | [v],i,w=>st1 P x w i v
 | v :: u :: a,i,w=>(st1 P x w i v).andThen λ_ b=>sts P x (u :: a) (i+1) b
section
variable {P:Program} {x:Nat} {ty:TypeId}
theorem Y3 {w:World} {cs:Array Value} {i:Nat} {v:Value} (h:w.heap[x]?=some (.cells cs ty (0,0))) (c:i<cs.size):st1 P x w i v=.ok () (w.setCell ⟨x,i,none⟩ v)/\cK w (·=x) (w.setCell ⟨x,i,none⟩ v)/\(w.setCell ⟨x,i,none⟩ v).heap[x]?=some (.cells (cs.setIfInBounds i v) ty (0,0)):=by
 have b:w.cell? ⟨x,i,none⟩=some cs[i]:=by
  unfold World.cell?
  rw [h]
  exact Array.getElem?_eq_getElem c
 have a:w.frozen? ⟨x,i,none⟩=false:=by
  unfold World.frozen?
  rw [h]
  simp
 refine ⟨?_,⟨rfl,rfl,rfl,by simp [World.setCell],λy e d=>heap_setCell_other w ⟨x,i,none⟩ y _ d⟩,heap_setCell_same w x i _ _ v h⟩
 unfold st1
 rw [b]
 simp only
 rw [if_neg (by rw [a];decide)]
theorem Y4:∀(f:List Value) (i:Nat) {w:World} {cs:Array Value},w.heap[x]?=some (.cells cs ty (0,0))->i+f.length<=cs.size ->
  ∃w' d,sts P x f i w=.ok () w'/\cK w (·=x) w'/\w'.heap[x]?=some (.cells d ty (0,0))/\d.size=cs.size/\(∀j,j<i->d[j]?=cs[j]?)/\∀j,j<f.length->d[i+j]?=f[j]?
 | [],i,w,cs,h,k=>⟨w,cs,rfl,cK.refl _ _,h,rfl,λ_ _=>rfl,λj e=>absurd e (Nat.not_lt_zero _)⟩
 | [v],i,w,cs,h,k=>by
  have g:i<cs.size:=k
  obtain ⟨a,b,c⟩:=Y3 (P:=P) (v:=v) h g
  refine ⟨_,_,a,b,c,by simp,λj e=>by simp [Array.getElem?_setIfInBounds,Nat.ne_of_gt e],λj e=>?_⟩
  obtain rfl:j=0:=by simpa using e
  simp [g]
 | v :: u :: f,i,w,cs,h,k=>by
  have l:i+(f.length+1+1)<=cs.size:=k
  have g:i<cs.size:=by omega
  obtain ⟨a,b,c⟩:=Y3 (P:=P) (v:=v) h g
  obtain ⟨w',d,d1,d2,d3,d4,d5,d6⟩:=Y4 (u :: f) (i+1) c (by simp;omega)
  refine ⟨w',d,?_,aeJ b d2,d3,by rw [d4];simp,λj e=>?_,λj e=>?_⟩
  ·unfold sts
   rw [a]
   exact d1
  ·rw [d5 j (by omega)]
   simp [Array.getElem?_setIfInBounds,Nat.ne_of_gt e]
  ·cases j with
   | zero =>
    rw [d5 (i+0) (by omega)]
    simp [g]
   | succ j =>
    have:=d6 j (by simpa using e)
    rw [show i+(j+1)=i+1+j by omega,this]
    rfl
theorem abE {o:Oper} {a:Act} {K:Act->World->Prop} {Q:Exit->Act->World->Prop} {w:World} {cs:Array Value} (b:List Value) (h:w.heap[x]?=some (.cells cs ty (0,0))) (g:b.length=cs.size)
  (f:∀w',cK w (·=x) w'->w'.heap[x]?=some (.cells b.toArray ty (0,0))->K (a.put o.dst undef) w'):Oper.upon P o a K Q ((sts P x b 0 w).andThen λ_ w'=>.ok .skip w'):=by
 obtain ⟨w',c,d1,d2,d3,d4,d5,d6⟩:=Y4 (P:=P) b 0 h (by omega)
 rw [d1]
 have e:c=b.toArray:=by
  refine Array.ext_getElem? λj=>?_
  rcases Nat.lt_or_ge j b.length with d | d
  ·have:=d6 j d
   rw [Nat.zero_add] at this
   rw [this]
   simp
  ·rw [Array.getElem?_eq_none (by omega),Array.getElem?_eq_none (by simpa using d)]
 subst e
 exact f w' d2 d3
end
theorem J6 {P:Program} {ops:Array Oper} {Q:Act->Prop} {a:Act} {w:World} {o:Oper} {rest:List Oper} (b:o.guard=none) (ty:TypeId) (x:Operand) (f:o.op=.load ty x)
  (g:Nat) (k:a.eval x=.pointer (some ⟨g,0,none⟩)) (t:TypeId) (cs:Array Value) (fr:Nat × Nat) (d:TypeDesc) (c:w.heap[g]?=some (.cells cs t fr))
  (i:P.underlying ty=some d) (hd:(match d with | .struct _ | .array _ _=>true | _=>false)=true) (j:(P.info? ty).map (·.size)=some cs.size)
  (h:wpStill P ops w Q rest (a.put o.dst (.agg cs))):wpStill P ops w Q (o :: rest) a:=by
 refine wpStill_step λK e=>?_
 rw [if_pos (by simp [Region.wanted,b])]
 unfold Oper.still execOp
 simp only [f,k,Instr.loadAt,Instr.sureAddr,Sem.run_bind,Sem.run_pure,Result.andThen_ok,run_loadVar_row w g t ty cs fr d c i hd j]
 exact ⟨rfl,e _ h⟩
theorem Q4 {w w':World} {b:Nat} (h:w'.heap[b]?=w.heap[b]?) (i:Nat):w'.cell? ⟨b,i,none⟩=w.cell? ⟨b,i,none⟩:=by
 unfold World.cell?
 rw [h]
def Q5 (c:Ca):List Value:=[.int .i64 c.kind,.int .i64 c.slot,.int .i64 c.gen,.int .i64 c.field,.int .i64 c.ay.slot,.int .i64 c.ay.gen,.int .i64 c.ay.tag,.int .i64 c.ay.num,.bool c.ay.mark,.int .i64 c.new.slot,.int .i64 c.new.gen,.int .i64 c.new.tag,.int .i64 c.new.num,.bool c.new.mark,.int .i64 c.i,.int .i64 c.j,.int .i64 c.code,.int .i64 c.val]
theorem abF {w:World} {x:Nat} {c:Ca} (h:w.heap[x]?=some (.cells (Q5 c).toArray 83 (0,0))):(w.cell? ⟨x,0,none⟩=some (.int .i64 c.kind)/\w.cell? ⟨x,1,none⟩=some (.int .i64 c.slot)/\w.cell? ⟨x,2,none⟩=some (.int .i64 c.gen)/\w.cell? ⟨x,3,none⟩=some (.int .i64 c.field)/\w.cell? ⟨x,4,none⟩=some (.int .i64 c.ay.slot)/\w.cell? ⟨x,5,none⟩=some (.int .i64 c.ay.gen)/\w.cell? ⟨x,6,none⟩=some (.int .i64 c.ay.tag)/\w.cell? ⟨x,7,none⟩=some (.int .i64 c.ay.num)/\w.cell? ⟨x,8,none⟩=some (.bool c.ay.mark)) /\
  (w.cell? ⟨x,9,none⟩=some (.int .i64 c.new.slot)/\w.cell? ⟨x,10,none⟩=some (.int .i64 c.new.gen)/\w.cell? ⟨x,11,none⟩=some (.int .i64 c.new.tag)/\w.cell? ⟨x,12,none⟩=some (.int .i64 c.new.num)/\w.cell? ⟨x,13,none⟩=some (.bool c.new.mark)/\w.cell? ⟨x,14,none⟩=some (.int .i64 c.i)/\w.cell? ⟨x,15,none⟩=some (.int .i64 c.j)/\w.cell? ⟨x,16,none⟩=some (.int .i64 c.code)/\w.cell? ⟨x,17,none⟩=some (.int .i64 c.val)):=by
 have a:∀i,w.cell? ⟨x,i,none⟩=(Q5 c).toArray[i]?:=λi=>by
  unfold World.cell?
  rw [h]
  rfl
 simp only [a]
 exact ⟨⟨rfl,rfl,rfl,rfl,rfl,rfl,rfl,rfl,rfl⟩,rfl,rfl,rfl,rfl,rfl,rfl,rfl,rfl,rfl⟩
theorem J7 {P:Program} {ops:Array Oper} {o:Oper} {a:Act} {w:World} {K:Act->World->Prop} {Q:Exit->Act->World->Prop} {E:Prop} (p:o.guard=none) (s x:Operand) (t:TypeId)
  (J:o.op=.call {callee:=.builtin .append,args:=#[s,x],argTypes:=#[t,t]})
  (base:Nat) (e:TypeId) (i:TypeInfo) (z:Value) (size bytes:Nat) (D:P.underlying t=some (.slice e)) (R:P.info? e=some i) (H:i.zero=some z)
  (d:i.size=size) (y:i.bytes=bytes) (B:z.cells.size=size) (r:0<size)
  (v:Value) (n:Nat) (A:List Value) (O:a.eval s=v) (l:w.ownsRow base e size v n A)
  (ad:Addr) (m c:Nat) (news:List Value) (S:a.eval x=.slice (some ad) m c) (L:news.length=m * size) (g:∀j u,news[j]?=some u->w.cell? (ad.add j)=some u) (F:∀u∈news,u.oneCell'=true)
  (q:n+m<=maxLen) (b:(n+m) * bytes<=140737488355328) (f:base<=w.heap.size)
  (h:∀k w',w'.ownsRow base e size k (n+m) (A ++ news)->w.grownBy w' v.ownBlock->(k.ownBlock=v.ownBlock\/k.ownBlock=some w.heap.size)->K (a.put o.dst k) w') :
  if Region.wanted o (yielded ops a.tmps)=true then Oper.wp P o a w K Q else E:=by
 have I:Region.wanted o (yielded ops a.tmps)=true:=by simp [Region.wanted,p]
 rw [if_pos I]
 obtain ⟨k,w',M,C,N,T,G⟩:=run_append_own_at (P:=P) w base t o.type e i z size bytes D R H d y B r v n A l ad m c news L g F q b f
 unfold Oper.wp execOp
 simp only [J,resolve,invoke,builtin,Sem.run_bind,Sem.run_pure,Result.andThen_ok,List.map_toArray,List.map_cons,List.map_nil,O,S,M]
 exact h k w' C N G
theorem M5 {w:World} {base n size:Nat} {e:TypeId} {v:Value} {a:List Value} (h:w.ownsRow base e size v (n+1) a):∃g c,v=.slice (some ⟨g,0,none⟩) (n+1) c:=by
 obtain ⟨-,⟨-,h⟩ | ⟨g,cap,cur,h,-⟩⟩:=h
 ·cases h
 ·exact ⟨g,cap,h⟩
theorem afb (w:World) (x y:Value) (t:TypeId):∀j u,[x,y][j]?=some u->((w.alloc (.cells #[x,y] t)).drew).cell? ((⟨w.heap.size,0,none⟩:Addr).add j)=some u:=by
 intro j u a
 match j,a with
 | 0,a =>
  simp at a
  subst a
  simp [Addr.add]
 | 1,a =>
  simp at a
  subst a
  simp [Addr.add]
 | j+2,a=>simp at a
theorem T9 (x y:Int):∀u∈[Value.int .i64 x,.int .i64 y],u.oneCell'=true:=by
 intro u a
 simp at a
 rcases a with rfl | rfl <;> rfl
end Go.Proofs.YthomdlajobnmnaaGreatDoor
