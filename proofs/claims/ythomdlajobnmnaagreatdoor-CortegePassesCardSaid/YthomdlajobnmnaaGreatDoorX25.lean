/- part 25 of the proof -/
import Derived.Tactics
import Derived.Tactics2
import Derived.Deep.LoopGhost
import Derived.Deep.QuietTactic
import Derived.BigQuiet
import Derived.Deep.CutRange
import Derived.StillTailTactics
import Derived.Deep.RegionHeld3
import Derived.Test.YthomdlajobnmnaaGreatDoorX17
import Derived.Test.YthomdlajobnmnaaGreatDoorX18
import Derived.Test.YthomdlajobnmnaaGreatDoorX24
set_option linter.unusedSimpArgs false
set_option linter.unusedVariables false
namespace Go.Proofs.YthomdlajobnmnaaGreatDoor.Cq
open Go.RowKit Go.Rex
section
variable {p p':PS} {G G':Gh} {N:List Nt} {v:Vk} {x:Rp} {c c':Ca} {R:Wd→Prop} {t:RT}
def Aa (t:RT) (c:Ca):Prop:=t=.bW c∨(∃w,t=.ib c w)∨∃a,t=.gz c a
theorem Oi (h:xI c R t) (hp:Aa t c'):c'=c:=by
 rcases hp with rfl | ⟨w,rfl⟩ | ⟨a,rfl⟩
 ·exact h
 ·exact h.1
 ·exact h
theorem WH (h:QK t) (hp:Aa t c'):False:=by rcases hp with rfl | ⟨w,rfl⟩ | ⟨a,rfl⟩ <;> exact h
theorem WI (h:Ku t) (hp:Aa t c'):False:=by rcases hp with rfl | ⟨w,rfl⟩ | ⟨a,rfl⟩ <;> exact h
theorem xN {a:Ac} {R:Rp→Prop} (h:Hm a R t) (hp:Aa t c'):False:=by rcases hp with rfl | ⟨w,rfl⟩ | ⟨a,rfl⟩ <;> exact h
theorem afg {o:Wd} {A B:Prop} (h:xJ o A B t) (hp:Aa t c'):False:=by rcases hp with rfl | ⟨w,rfl⟩ | ⟨a,rfl⟩ <;> exact h
theorem qa {u:RT} (h:t=u) (hu:∀c,¬Aa u c) (hp:Aa t c'):False:=by rw [h] at hp;exact hu _ hp
theorem Ci {a:Ac}:∀c,¬Aa (.one a) c:=fun c h=>by rcases h with h | ⟨w,h⟩ | ⟨a,h⟩ <;> cases h
theorem xO {a:Rp}:∀c,¬Aa (.idle a) c:=fun c h=>by rcases h with h | ⟨w,h⟩ | ⟨a,h⟩ <;> cases h
theorem acn:∀c,¬Aa .lT c:=fun c h=>by rcases h with h | ⟨w,h⟩ | ⟨a,h⟩ <;> cases h
theorem age (h:D1 G v) (hp:Aa v.t c'):0≤c'.field∧c'.field<24:=by
 rcases h.st with ⟨-,-,-,hL,-⟩ | ⟨j,-,-,-,-,hJ⟩
 ·exact (WI hL hp).elim
 ·cases hJ with
  | s0 h0 hr ht ha=>exact (WH ht hp).elim
  | s1 h0 hr ht ha=>rw [Oi ht hp];exact (show (0:Int)≤0∧(0:Int)<24 by decide)
  | s2 h0 hr hh ht ha=>exact (xN ht hp).elim
  | s3 h0 hr hh hw ht ha=>rw [Oi ht hp];exact (show (0:Int)≤2∧(2:Int)<24 by decide)
  | s4 h0 hr hh hw hn ht ha=>exact (xN ht hp).elim
  | s5 h0 hr hh hw hs hn hn0 ht ha=>exact (xN ht hp).elim
  | s6 h0 hr hh hn hn0 hq ht ha=>exact (xN ht hp).elim
  | s7 h0 hr hh hn hn0 hq hv ht ha=>exact (qa ht Ci hp).elim
  | nM h0 n0 c hr hh hv hc y ht hx ha=>exact (qa ht xO hp).elim
  | s8 h0 c hv hc ht ha=>exact (afg ht hp).elim
theorem agf (h:E0 p G v) (hp:Aa v.t c'):0≤c'.field∧c'.field<24:=by
 rcases h.st with ⟨-,-,-,-,-,hL⟩ | ⟨j,-,-,-,-,hJ⟩
 ·exact (WI hL hp).elim
 ·cases hJ with
  | s0 h0 hm hl hh ht=>exact (WH ht hp).elim
  | s1 h0 hm hl hh ht=>rcases ht with ht | ⟨w,ht⟩;exact (qa ht acn hp).elim;exact (qa ht Ci hp).elim
  | s1' h0 hm hl n hh hv ht=>exact (qa ht xO hp).elim
  | s2 h0 hm hl n hh ht=>exact (qa ht Ci hp).elim
  | s2' h0 hm hl n hh hv x ht=>exact (qa ht xO hp).elim
  | s3 h0 hm hl n hh hv ht=>rw [Oi ht hp];exact (show (0:Int)≤1∧(1:Int)<24 by decide)
  | s4 h0 hm hl n hh hv hj ht=>exact (xN ht hp).elim
  | s5 h0 hm hl n hh hv hj hn ht=>exact (xN ht hp).elim
  | s7 h0 hm hl n hh hv hj ht=>exact (qa ht Ci hp).elim
  | nM h0 hm hh hT x ht hx=>exact (qa ht xO hp).elim
  | s8 h0 hm hh hT ht=>exact (qa ht Ci hp).elim
  | xK h0 hm hh hl x ht=>exact (qa ht xO hp).elim
theorem WJ {S S':Jb→RT→Nat} (he:jR p' (RT.aG v.l v.t x).1 (RT.aG v.l v.t x).2<jR p v.l v.t) (hS:∀j,v.j=some j→S' j (RT.aG v.l v.t x).2≤S j v.t):Mv S' p' (v.with (RT.aG v.l v.t x))<Mv S p v:=by
 unfold Mv
 show (match v.j with | none=>_ | some j=>_)<(match v.j with | none=>_ | some j=>_)
 cases hj:v.j with
 | none =>
  show 3000 * (v.ops.length-v.said.length)+(if v.aV=true then 150 else 0)+jR p' (RT.aG v.l v.t x).1 (RT.aG v.l v.t x).2<3000 * (v.ops.length-v.said.length)+(if v.aV=true then 150 else 0)+jR p v.l v.t
  omega
 | some j =>
  have:=hS j hj
  show 3000 * (v.ops.length-v.said.length-1)+150 * S' j (RT.aG v.l v.t x).2+jR p' (RT.aG v.l v.t x).1 (RT.aG v.l v.t x).2<3000 * (v.ops.length-v.said.length-1)+150 * S j v.t+jR p v.l v.t
  omega
theorem agh (h:E0 p G v) (hq:Qs p G N) (ho:v.l.OK) (hs:v.t.fF v.l) (hb:Bs v.l v.t) (h0:v.t.dB≠0) (ha:p.act (v.t.acc v.l)=(p',some x)) (hg:p'.bT=true):M0 p' (v.with (RT.aG v.l v.t x))<M0 p v :=
 WJ (QP ho hs hb hq.nb hq.mE h0 ha hg fun c hc=>agf h hc) fun j _=>Nat.le_refl _
theorem agi (h:D1 G v) (hq:Qs p G v.l.notes) (ho:v.l.OK) (hs:v.t.fF v.l) (hb:Bs v.l v.t) (h0:v.t.dB≠0) (ha:p.act (v.t.acc v.l)=(p',some x)) (hg:p'.bT=true):M1 p' (v.with (RT.aG v.l v.t x))<M1 p v:=by
 refine WJ (QP ho hs hb hq.nb hq.mE h0 ha hg fun c hc=>age h hc) fun j hj=>?_
 rcases h.st with ⟨hj',-⟩ | ⟨j',hj',-,-,-,hJ⟩
 ·rw [hj] at hj';cases hj'
 rw [hj] at hj'
 cases hj'
 have quiet:Qt v.t→p'.bd 0=p.bd 0∧p'.bd 1=p.bd 1:=fun h=>by
  obtain ⟨a1,-⟩:=Oh ho hs hb hq.nb h ha hg
  exact ⟨a1.bd 0 (by decide),a1.bd 1 (by decide)⟩
 have ptc:(p'.bd 0=p.bd 0∧p'.bd 1=p.bd 1)→(xM p'↔xM p):=fun h=>by unfold xM;rw [h.1,h.2]
 have ld:∀{f:Int},0≤f∧f<85→v.t=.one (Ac.load 0 0 f)→p'={p with steps:=p.steps+1}∧x=⟨p.bd f.toNat,true⟩:=fun {f} hf e=>by
  rw [e] at ha
  rw [show p.act (RT.acc v.l (.one (Ac.load 0 0 f)))=_ from sV hq.nb hf] at ha
  simp only [Prod.mk.injEq,Option.some.injEq] at ha
  exact ⟨ha.1.symm,ha.2.symm⟩
 cases hJ with
 | s0 h0' hr ht ha' =>
  have hb':=quiet (uH (l:=v.l) (x:=x) ht h0).2.1
  simp only [iJ,h0',if_pos,ptc hb']
  exact Nat.le_refl _
 | s1 h0' hr ht ha' =>
  have hb':=quiet (Cg ht h0).1
  simp only [iJ,h0',if_pos,ptc hb']
  exact Nat.le_refl _
 | s2 h0' hr hh ht ha' =>
  cases bK:v.t with
  | one a =>
   rw [bK] at ht
   obtain rfl:a=Ac.load 0 0 1:=ht
   obtain ⟨rfl,rfl⟩:=ld (by decide) bK
   show iJ _ j (.idle ⟨p.bd 1,true⟩)≤iJ p j (.one _)
   simp only [iJ,h0']
   show (if (p.bd 1).slot=(p.bd 0).slot then 13 else 7)≤(if xM p then 7 else 13)
   by_cases hp:xM p
   ·rw [if_neg (show ¬(p.bd 1).slot=(p.bd 0).slot from hp),if_pos hp]
    exact Nat.le_refl _
   ·rw [if_pos (Decidable.not_not.1 hp:(p.bd 1).slot=(p.bd 0).slot),if_neg hp]
    exact Nat.le_refl _
  | idle y=>rw [bK] at h0;exact absurd rfl h0
  | _=>rw [bK] at ht;exact ht.elim
 | s3 h0' hr hh hw ht ha' =>
  have hb':=quiet (Cg ht h0).1
  simp only [iJ,h0',hb'.1]
  exact Nat.le_refl _
 | s4 h0' hr hh hw hn ht ha' =>
  cases bK:v.t with
  | one a =>
   rw [bK] at ht
   obtain rfl:a=Ac.load 0 0 0:=ht
   obtain ⟨rfl,rfl⟩:=ld (by decide) bK
   simp only [iJ,h0']
   exact Nat.le_refl _
  | idle y=>rw [bK] at h0;exact absurd rfl h0
  | _=>rw [bK] at ht;exact ht.elim
 | s5 h0' hr hh hw hs hn hn0 ht ha'=>simp only [iJ,h0'];exact Nat.le_refl _
 | s6 h0' hr hh hn hn0 hp ht ha'=>simp only [iJ,h0'];exact Nat.le_refl _
 | s7 h0' hr hh hn hn0 hp hv ht ha'=>simp only [iJ,h0'];exact Nat.le_refl _
 | nM h0' n0 c hr hh hv hc y ht hx ha'=>simp only [iJ,h0'];exact Nat.le_refl _
 | s8 h0' c hv hc ht ha'=>simp only [iJ,h0'];exact Nat.le_refl _
end
end Go.Proofs.YthomdlajobnmnaaGreatDoor.Cq
namespace Go.Proofs.YthomdlajobnmnaaGreatDoor.Cq
open Go.RowKit Go.Rex
structure Sy (K:Int) (p:PS) (G:Gh) (v0 v1:Vk):Prop where
 q:Qs p G v1.l.notes
 e:E0 p G v0
 d:D1 G v1
 b0:Bs v0.l v0.t
 b1:Bs v1.l v1.t
 a0:AV K v0 p
 a1:AV K v1 p
 n0:v0.l.notes=[]
section
variable {K:Int} {p p':PS} {G:Gh} {v v0 v1:Vk} {x:Rp} {w:Wk}
theorem AV.other {k k':Int} {u:Vk} (h:AV k v p) (h':AV k' u p') (hk:k≤k'):AV k' v p' :=
 ⟨⟨h.gJ.ok,h.gJ.fF,h'.gJ.DL,h.gJ.lw.mono hk,h.gJ.tw.mono hk,h'.gJ.pw,by have:=h.gJ.fr;omega,by have:=h.gJ.nl;omega,h'.gJ.st,h'.gJ.k0⟩,(h.mono hk).ui,h.ops⟩
theorem E0.ko (h:E0 p G v):G.m≤12:=by
 obtain ⟨a,ha,hops⟩:=h.ops
 have hlen:v.ops.length=a:=by rw [hops,List.length_map,List.length_range]
 have hsl:=h.sl
 rcases h.st with ⟨-,hm,-⟩ | ⟨j,-,-,-,hl,hJ⟩
 ·omega
 ·cases hJ <;> omega
theorem Sy.nl (S:Sy K p G v0 v1):v1.l.notes.length≤40:=by
 have h1:=S.q.few
 have h2:=S.e.ko
 unfold Gh.m at h2
 omega
theorem Sy.afh (S:Sy K p G v0 v1) (ht:v0.t=.idle x) (hd:¬v0.done):v0.may x∧Sy (K+1) p G (v0.bZ x) v1∧rk (v0.bZ x)<rk v0∧M0 p (v0.bZ x)<M0 p v0:=by
 obtain ⟨hm,hb,he,hn⟩:=ae5 S.e S.q S.a0.gJ.ok S.b0 ht hd
 obtain ⟨h1,h2⟩:=agd S.e S.a0.gJ.ok (by rw [S.n0];decide) ht hd
 exact ⟨hm,⟨S.q,he,S.d,hb,S.b1,S.a0.bZ ht hm,S.a1.mono (by omega),hn.trans S.n0⟩,h1,h2⟩
theorem Sy.TM (S:Sy K p G v0 v1) (ht:v1.t=.idle x) (hd:¬v1.done):v1.may x∧∃G',Sy (K+1) p G' v0 (v1.bZ x)∧rk (v1.bZ x)<rk v1∧M1 p (v1.bZ x)<M1 p v1:=by
 obtain ⟨hm,hb,G',hG,hq,hd'⟩:=ae4 S.d S.q S.a1.gJ.ok S.b1 ht hd
 obtain ⟨h1,h2⟩:=agc S.d S.q S.a1.gJ.ok S.nl ht hd
 have he:E0 p G' v0:=by
  rcases hG with rfl | rfl
  ·exact S.e
  ·exact S.e.ret []
 exact ⟨hm,G',⟨hq,he,hd',S.b0,hb,S.a0.mono (by omega),S.a1.bZ ht hm,S.n0⟩,h1,h2⟩
theorem Sy.afi (S:Sy K p G v0 v1) (h0:v0.t.dB≠0):∃p' x G',p.act (v0.t.acc v0.l)=(p',some x)∧Sy (K+1) p' G' (v0.with (RT.aG v0.l v0.t x)) v1∧Wb (K+1) x.word∧M0 p' (v0.with (RT.aG v0.l v0.t x))<M0 p v0:=by
 have ha:=S.a0.gJ
 obtain ⟨p',x,G',a1,a2,a3,a4,a5,a6⟩:=afa S.e S.q ha.DL ha.ok ha.fF S.b0 h0
 obtain ⟨c1,c2⟩:=S.a0.aG a1
 exact ⟨p',x,G',a1,⟨a2,a3,a6 _ S.d,a5,S.b1,c1,S.a1.other c1 (by omega),a4.trans S.n0⟩,c2,agh S.e S.q ha.ok ha.fF S.b0 h0 a1 a2.bT⟩
theorem Sy.afj (S:Sy K p G v0 v1) (h0:v1.t.dB≠0):∃p' x G',p.act (v1.t.acc v1.l)=(p',some x)∧Sy (K+1) p' G' v0 (v1.with (RT.aG v1.l v1.t x))∧Wb (K+1) x.word∧M1 p' (v1.with (RT.aG v1.l v1.t x))<M1 p v1:=by
 have ha:=S.a1.gJ
 obtain ⟨p',x,G',a1,a2,a3,a4,a5⟩:=ae7 S.d S.q ha.DL ha.ok ha.fF S.b1 h0
 obtain ⟨c1,c2⟩:=S.a1.aG a1
 exact ⟨p',x,G',a1,⟨a2,a5 _ S.e,a3,S.b0,a4,S.a0.other c1 (by omega),c1,S.n0⟩,c2,agi S.d S.q ha.ok ha.fF S.b1 h0 a1 a2.bT⟩
theorem Je (hV:VW v w) (hd:v.done) (n:Nat):w.go (n+1)=(w,some false):=by
 obtain ⟨d1,d2,d3,d4⟩:=hd
 unfold Wk.go
 rw [if_neg (fun h=>h (hV.rep.step.trans d1)),hV.j.trans d2]
 simp only
 rw [if_neg (by rw [hV.aV,d3];decide),if_pos (by rw [hV.ops,hV.said];exact d4)]
theorem WK (hV:VW v w) (ho:v.l.OK) (ht:v.t=.idle x) (hm:v.may x) (n:Nat):∃w1,VW (v.bZ x) w1∧w.go (n+1)=w1.go n:=by
 obtain ⟨-,hst,hx⟩:=hV.idle ht
 cases hj:v.j with
 | none =>
  unfold Vk.may at hm
  rw [hj] at hm
  simp only at hm
  rcases hm with hi | ⟨hi,hl,hg⟩
  ·obtain ⟨b1,b2⟩:=hV.leave ho ht hj hi
   refine ⟨_,b2,?_⟩
   rw [Wk.go,if_neg (fun h=>h hst),hV.j.trans hj]
   simp only
   rw [if_pos (hV.aV.trans hi),if_neg (by rw [b1];decide)]
  ·obtain ⟨b1,b2⟩:=hV.start ho ht hj hi
   refine ⟨_,b2,?_⟩
   have hg':(w.ops.getD w.said.length ⟨0,0,0,0⟩).bT:=by rw [hV.ops,hV.said];exact hg
   rw [Wk.go,if_neg (fun h=>h hst),hV.j.trans hj]
   simp only
   rw [if_neg (by rw [hV.aV,hi];decide),if_neg (by rw [hV.ops,hV.said];omega),if_neg (fun h=>h hg'),if_neg (by rw [b1];decide)]
 | some j =>
  rcases hV.next ho ht hj hm with ⟨k1,-,b2⟩ | ⟨k1,-,b1,b2⟩
  ·refine ⟨_,b2,?_⟩
   rw [Wk.go,if_neg (fun h=>h hst),hV.j.trans hj]
   simp only
   rw [if_pos k1]
  ·refine ⟨_,b2,?_⟩
   rw [Wk.go,if_neg (fun h=>h hst),hV.j.trans hj]
   simp only
   rw [if_neg k1,if_neg (by rw [b1];decide)]
theorem go_acc (hV:VW v w) (h0:v.t.dB≠0) (n:Nat):w.go n=(w,none):=by
 cases n with
 | zero=>rfl
 | succ n =>
  unfold Wk.go
  rw [if_pos (by rw [hV.rep.step];exact h0)]
theorem QQ (t:RT):t.dB≠0∨∃x,t=.idle x:=by
 by_cases h:t.dB=0
 ·exact .inr (RT.CZ h)
 ·exact .inl h
instance (v:Vk):Decidable v.done:=by
 unfold Vk.done
 cases h:v.j with
 | none=>simp only [h];exact inferInstance
 | some j=>exact isFalse fun q=>by have:=q.2.1;cases this
theorem go0:∀(n:Nat) {K:Int} {v0:Vk} {w:Wk},VW v0 w→Sy K p G v0 v1→rk v0<n→∃w' v' b K',w.go n=(w',b)∧VW v' w'∧Sy K' p G v' v1∧K'≤K+rk v0∧M0 p v'≤M0 p v0∧((b=some false∧v'.done)∨(b=none∧v'.t.dB≠0))
 | 0,K,v0,w,_,_,h=>absurd h (Nat.not_lt_zero _)
 | n+1,K,v0,w,hV,S,h=>by
  by_cases hd:v0.done
  ·exact ⟨w,v0,some false,K,Je hV hd n,hV,S,by omega,Nat.le_refl _,.inl ⟨rfl,hd⟩⟩
  rcases QQ v0.t with h0 | ⟨x,ht⟩
  ·exact ⟨w,v0,none,K,go_acc hV h0 _,hV,S,by omega,Nat.le_refl _,.inr ⟨rfl,h0⟩⟩
  ·obtain ⟨hm,S',hr,hM⟩:=S.afh ht hd
   obtain ⟨w1,hV1,e⟩:=WK hV S.a0.gJ.ok ht hm n
   obtain ⟨w',v',b,K',e',g1,g2,g3,g4,g5⟩:=go0 n hV1 S' (by omega)
   exact ⟨w',v',b,K',e.trans e',g1,g2,by omega,by omega,g5⟩
theorem go1:∀(n:Nat) {K:Int} {G:Gh} {v1:Vk} {w:Wk},VW v1 w→Sy K p G v0 v1→rk v1<n→∃w' v' b K' G',w.go n=(w',b)∧VW v' w'∧Sy K' p G' v0 v'∧K'≤K+rk v1∧M1 p v'≤M1 p v1∧((b=some false∧v'.done)∨(b=none∧v'.t.dB≠0))
 | 0,K,G,v1,w,_,_,h=>absurd h (Nat.not_lt_zero _)
 | n+1,K,G,v1,w,hV,S,h=>by
  by_cases hd:v1.done
  ·exact ⟨w,v1,some false,K,G,Je hV hd n,hV,S,by omega,Nat.le_refl _,.inl ⟨rfl,hd⟩⟩
  rcases QQ v1.t with h0 | ⟨x,ht⟩
  ·exact ⟨w,v1,none,K,G,go_acc hV h0 _,hV,S,by omega,Nat.le_refl _,.inr ⟨rfl,h0⟩⟩
  ·obtain ⟨hm,G',S',hr,hM⟩:=S.TM ht hd
   obtain ⟨w1,hV1,e⟩:=WK hV S.a1.gJ.ok ht hm n
   obtain ⟨w',v',b,K',G2,e',g1,g2,g3,g4,g5⟩:=go1 n hV1 S' (by omega)
   exact ⟨w',v',b,K',G2,e.trans e',g1,g2,by omega,by omega,g5⟩
theorem Cj (v:Vk):rk v<8:=by
 unfold rk
 split
 ·omega
 split
 ·split <;> omega
 ·split
  ·omega
  split
  ·omega
  split <;> omega
theorem VW.Ld (h:VW v w) (hd:v.done):w.idle:=by
 obtain ⟨d1,d2,d3,d4⟩:=hd
 exact ⟨h.rep.step.trans d1,h.j.trans d2,h.aV.trans d3,by rw [h.ops,h.said];exact d4⟩
theorem VW.aaW (h:VW v w) (hi:w.idle):v.done:=by
 obtain ⟨i1,i2,i3,i4⟩:=hi
 exact ⟨h.rep.step.symm.trans i1,h.j.symm.trans i2,h.aV.symm.trans i3,by rw [←h.ops,←h.said];exact i4⟩
theorem aaX (hV:VW v0 w) (S:Sy K p G v0 v1):∃w' p' b,w.step p=(w',p',b) ∧
  ((b=true∧∃v' G' K',VW v' w'∧Sy K' p' G' v' v1∧K'≤K+8∧M0 p' v'<M0 p v0)∨(b=false∧p'=p∧∃v' K',VW v' w'∧Sy K' p G v' v1∧K'≤K+8∧v'.done)):=by
 obtain ⟨w1,v',b,K',e,g1,g2,g3,g4,g5⟩:=go0 200 hV S (by have:=Cj v0;omega)
 have g3':K'≤K+7:=by have:=Cj v0;omega
 unfold Wk.step
 rw [e]
 rcases g5 with ⟨rfl,hd⟩ | ⟨rfl,h0⟩
 ·exact ⟨w1,p,false,rfl,.inr ⟨rfl,rfl,v',K',g1,g2,by omega,hd⟩⟩
 ·obtain ⟨p',x,G',a1,a2,a3,a4⟩:=g2.afi h0
  obtain ⟨k1,k2⟩:=g1.aG g2.a0.gJ.ok g2.a0.gJ.fF h0 x
  simp only
  rw [if_neg (by rw [g1.rep.step];exact h0),g1.rep.acc h0,a1]
  simp only
  exact ⟨_,p',_,rfl,.inl ⟨k1,_,G',K'+1,k2,a2,by omega,by omega⟩⟩
theorem aaY (hV:VW v1 w) (S:Sy K p G v0 v1):∃w' p' b,w.step p=(w',p',b) ∧
  ((b=true∧∃v' G' K',VW v' w'∧Sy K' p' G' v0 v'∧K'≤K+8∧M1 p' v'<M1 p v1)∨(b=false∧p'=p∧∃v' G' K',VW v' w'∧Sy K' p G' v0 v'∧K'≤K+8∧v'.done)):=by
 obtain ⟨w1,v',b,K',G1,e,g1,g2,g3,g4,g5⟩:=go1 200 hV S (by have:=Cj v1;omega)
 have g3':K'≤K+7:=by have:=Cj v1;omega
 unfold Wk.step
 rw [e]
 rcases g5 with ⟨rfl,hd⟩ | ⟨rfl,h0⟩
 ·exact ⟨w1,p,false,rfl,.inr ⟨rfl,rfl,v',G1,K',g1,g2,by omega,hd⟩⟩
 ·obtain ⟨p',x,G',a1,a2,a3,a4⟩:=g2.afj h0
  obtain ⟨k1,k2⟩:=g1.aG g2.a1.gJ.ok g2.a1.gJ.fF h0 x
  simp only
  rw [if_neg (by rw [g1.rep.step];exact h0),g1.rep.acc h0,a1]
  simp only
  exact ⟨_,p',_,rfl,.inl ⟨k1,_,G',K'+1,k2,a2,by omega,by omega⟩⟩
end
end Go.Proofs.YthomdlajobnmnaaGreatDoor.Cq
namespace Go.Proofs.YthomdlajobnmnaaGreatDoor.Cq
open Go.RowKit Go.Rex
structure Cm (w:World) (A:Nat) (B BP:Nat→Prop) (dC:Nat→Addr):Prop where
 d:∀x,BP x→¬B x
 bl:∀x,B x→x<w.heap.size
 pl:∀x,BP x→x<w.heap.size
 a:¬BP A∧A<w.heap.size
 sn:lH w dC
 z:∀k,k<8→¬B (dC k).block∧¬BP (dC k).block∧(dC k).block<w.heap.size
structure bu (w w':World) (b base A:Nat) (aP:Addr) (B BP:Nat→Prop) (k':Wk) (p':PS):Prop where
 ex:∃B' o5:Nat→Prop,gL w' aP p' o5∧aQ w' b base A k' B'∧(∀x,o5 x→BP x∨w.heap.size≤x)∧(∀x,B' x→B x∨w.heap.size≤x)∧(∀x,o5 x→¬B' x)∧bA w (fun x=>BP x∨B x) w'
section
variable {w wa wb:World} {b base A:Nat} {k k':Wk} {aP:Addr} {p p':PS} {B BP:Nat→Prop} {dC:Nat→Addr} {rb:Nat}
theorem bu.of (hW:aQ w b base A k B) (hP:gL w aP p BP) (hd:∀x,BP x→¬B x):bu w w b base A aP B BP k p :=
 ⟨B,BP,hP,hW,fun _ h=>.inl h,fun _ h=>.inl h,hd,bA.refl _ _⟩
theorem bu.wk (h:bu w wa b base A aP B BP k p):∃Ba,aQ wa b base A k Ba∧(∀x,Ba x→x<wa.heap.size)∧∀wb k' B',aQ wb b base A k' B'→(∀x,B' x→Ba x∨wa.heap.size≤x)→bA wa Ba wb→bu w wb b base A aP B BP k' p:=by
 obtain ⟨B1,zZ,h1,h2,h3,h4,h5,h6⟩:=h.ex
 refine ⟨fun x=>B1 x∧x<wa.heap.size,h2.mono fun x p q=>⟨p,q⟩,fun x hx=>hx.2,fun wb k' B' g1 g2 g3=>⟨B',fun x=>zZ x∧x<wa.heap.size,?_,g1,fun x hx=>h3 x hx.1,fun x hx=>?_,fun x hx hy=>?_,iW h6 g3 fun x hx _=>(h4 x hx.1).imp .inr id⟩⟩
 ·exact (h1.mono (B':=fun x=>zZ x∧x<wa.heap.size) fun x p q=>⟨p,q⟩).frame fun x hx=>g3.block x hx.2 fun hy=>h5 x hx.1 hy.1
 ·rcases g2 x hx with g | g
  ·exact h4 x g.1
  ·exact .inr (Nat.le_trans h6.size g)
 ·rcases g2 x hy with g | g
  ·exact h5 x hx.1 g.1
  ·exact absurd hx.2 (Nat.not_lt.2 g)
theorem bu.pl (h:bu w wa b base A aP B BP k p) (hb:Cm w A B BP dC):∃WL,gL wa aP p WL∧(∀x,WL x→BP x∨w.heap.size≤x)∧∀wb p' o5,gL wb aP p' o5→(∀x,o5 x→wa.heap.size≤x∨WL x)→bA wa WL wb→bu w wb b base A aP B BP k p':=by
 obtain ⟨B1,zZ,h1,h2,h3,h4,h5,h6⟩:=h.ex
 refine ⟨fun x=>zZ x∧x<wa.heap.size,h1.mono fun x p q=>⟨p,q⟩,fun x hx=>h3 x hx.1,fun wb p' o5 g1 g2 g3=>⟨fun x=>B1 x∧x<wa.heap.size,o5,g1,h2.frame (fun x hx hy=>g3.block x hx fun hz=>h5 x hz.1 hy) (g3.block _ h2.self.2.2 fun hz=>?_) g3.size,fun x hx=>?_,fun x hx=>h4 x hx.1,fun x hx hy=>?_,iW h6 g3 fun x hx _=>(h3 x hx.1).imp .inl id⟩⟩
 ·exact (h3 _ hz.1).elim hb.a.1 fun q=>absurd hb.a.2 (Nat.not_lt.2 q)
 ·rcases g2 x hx with g | g
  ·exact .inr (Nat.le_trans h6.size g)
  ·exact h3 x g.1
 ·rcases g2 x hx with g | g
  ·exact absurd hy.2 (Nat.not_lt.2 g)
  ·exact h5 x g.1 hy.1
theorem bu.nw (h:bu w wa b base A aP B BP k p) (hn:Nw wa wb):bu w wb b base A aP B BP k p:=by
 obtain ⟨Ba,h1,h2,h3⟩:=h.wk
 exact h3 wb k _ (h1.nw hn) (fun x hx=>.inl hx.1) ⟨hn.os,hn.tape,hn.output,hn.size,fun x hx _=>hn.block x hx id⟩
theorem bu.cells (h:bu w wa b base A aP B BP k p):∃(aR:Nat) (jv sv:Value) (c:Nat),wa.cell? ⟨b,0,none⟩=some (.pointer (some ⟨aR,0,none⟩))∧wa.cell? ⟨b,1,none⟩=some (.slice (some ⟨A,0,none⟩) k.ops.length c)∧wa.cell? ⟨b,2,none⟩=some jv∧wa.cell? ⟨b,3,none⟩=some (.bool k.aV)∧wa.cell? ⟨b,4,none⟩=some sv∧∀i,wa.frozen? ⟨b,i,none⟩=false:=by
 obtain ⟨Ba,h1,-⟩:=h.wk
 exact h1.cells
theorem bu.N9 (h:bu w wa b base A aP B BP k p) (hj:k.j=none):wa.cell? ⟨b,2,none⟩=some (.pointer none):=by
 obtain ⟨Ba,h1,-⟩:=h.wk
 exact h1.N9 hj
theorem bu.said (h:bu w wa b base A aP B BP k p):∃a c,wa.cell? ⟨b,4,none⟩=some (.slice a k.said.length c):=by
 obtain ⟨Ba,h1,-⟩:=h.wk
 exact h1.said
theorem bu.Zn (h:bu w wa b base A aP B BP k p):lZ wa A k.ops:=by
 obtain ⟨Ba,h1,-⟩:=h.wk
 exact h1.Zn
theorem bu.lt (h:bu w wa b base A aP B BP k p):b<wa.heap.size∧A<wa.heap.size:=by
 obtain ⟨Ba,h1,-⟩:=h.wk
 exact h1.self.2
theorem bu.ge (h:bu w wa b base A aP B BP k p):w.heap.size≤wa.heap.size:=by
 obtain ⟨B1,zZ,-,-,-,-,-,h6⟩:=h.ex
 exact h6.size
theorem qJ {w:World} {a:Addr} {x y:Nat} (h:w.cell? a=some (.pointer (some ⟨x,0,none⟩))) (h':w.cell? a=some (.pointer (some ⟨y,0,none⟩))):x=y:=by
 have:=h.symm.trans h'
 simpa using this
theorem bu.busy (h:bu w wa b base A aP B BP k p) (hc:wa.cell? ⟨b,0,none⟩=some (.pointer (some ⟨rb,0,none⟩))) :
  Calls Tryz.prog 36 #[.pointer (some ⟨rb,0,none⟩)] wa fun e w'=>e=.returned (.bool (decide (k.r.step≠0)))∧w'=wa:=by
 obtain ⟨Ba,h1,-⟩:=h.wk
 obtain ⟨WM,hc',hb⟩:=h1.TC
 obtain rfl:=qJ hc hc'
 exact hb
theorem bu.begin (h:bu w wa b base A aP B BP k p) (hc:wa.cell? ⟨b,0,none⟩=some (.pointer (some ⟨rb,0,none⟩))) (hk:uD k.r) (h0:k.r.step=0) {c:Ca} (ho:c.OK) :
  Calls Tryz.prog 37 #[.pointer (some ⟨rb,0,none⟩),qW c] wa fun e w'=>e=.returned .nilIface∧bu w w' b base A aP B BP {k with r:=(k.r.begin c).1} p:=by
 obtain ⟨Ba,h1,h2,h3⟩:=h.wk
 obtain ⟨WM,hc',hb⟩:=h1.ae0 hk h0 ho
 obtain rfl:=qJ hc hc'
 exact hb.mono fun e w' ⟨he,hW,hw⟩=>⟨he,h3 _ _ _ hW (fun x hx=>hx) hw⟩
theorem bu.next (h:bu w wa b base A aP B BP k p) (hc:wa.cell? ⟨b,0,none⟩=some (.pointer (some ⟨rb,0,none⟩))) (h0:k.r.step≠0) :
  Calls Tryz.prog 39 #[.pointer (some ⟨rb,0,none⟩)] wa fun e w'=>e=.returned (.tuple #[oq k.r.acc,.bool true])∧bu w w' b base A aP B BP k p:=by
 obtain ⟨Ba,h1,h2,h3⟩:=h.wk
 obtain ⟨WM,hc',hb⟩:=h1.af7 h0
 obtain rfl:=qJ hc hc'
 exact hb.mono fun e w' ⟨he,hW,hw⟩=>⟨he,h3 _ _ _ hW (fun x hx=>hx) hw⟩
theorem bu.aG (h:bu w wa b base A aP B BP k p) (hc:wa.cell? ⟨b,0,none⟩=some (.pointer (some ⟨rb,0,none⟩))) {x:Rp} (hk:oG k.r x) :
  Calls Tryz.prog 40 #[.pointer (some ⟨rb,0,none⟩),jl x] wa fun e w'=>e=.returned .nilIface∧bu w w' b base A aP B BP {k with r:=(k.r.aG x).1} p:=by
 obtain ⟨Ba,h1,h2,h3⟩:=h.wk
 obtain ⟨WM,hc',hb⟩:=h1.af8 hk
 obtain rfl:=qJ hc hc'
 exact hb.mono fun e w' ⟨he,hW,hw⟩=>⟨he,h3 _ _ _ hW (fun x hx=>hx) hw⟩
theorem bu.ui (h:bu w wa b base A aP B BP k p) {j:Jb} (hj:k.j=some j):∃aJ,wa.cell? ⟨b,2,none⟩=some (.pointer (some aJ)):=by
 obtain ⟨Ba,h1,-⟩:=h.wk
 obtain ⟨aJ,BJ,hc,-⟩:=h1.jb hj
 exact ⟨aJ,hc⟩
theorem bu.doA (h:bu w wa b base A aP B BP k p) (hb:Cm w A B BP dC) (hok:p.OK) (hst:p.steps≤1000000) {a:Ac} {x:Rp} (hx:p.act a=(p',some x)) :
  Calls Tryz.prog 32 #[.pointer (some aP),oq a] wa fun e w'=>e=.returned (.tuple #[jl x,.nilIface])∧bu w w' b base A aP B BP k p':=by
 obtain ⟨WL,h1,h2,h3⟩:=h.pl hb
 obtain ⟨B1,zZ,-,-,-,-,-,h6⟩:=h.ex
 have hsn:lH wa dC:=hb.sn.frame h6.size fun j hj=>h6.block _ (hb.z j hj).2.2 fun q=>q.elim (hb.z j hj).2.1 (hb.z j hj).1
 refine (K8 hsn h1 (fun j hj q=>(h2 _ q).elim (hb.z j hj).2.1 fun q=>absurd (hb.z j hj).2.2 (Nat.not_lt.2 q)) hok hst hx).mono ?_
 rintro e w' ⟨he,B',g1,g2,g3⟩
 exact ⟨he,h3 _ _ _ g1 g2 g3⟩
theorem bu.put (h:bu w wa b base A aP B BP k p) (i:Nat) (x:Value) (j:Option Jb) (aV:Bool) (hj:i=2→j=none∧x=.pointer none) (hi:i=3→x=.bool aV) (hj':i≠2→j=k.j) (hi':i≠3→aV=k.aV) (h23:i=2∨i=3) :
  bu w (wa.setCell ⟨b,i,none⟩ x) b base A aP B BP {k with j:=j,aV:=aV} p:=by
 obtain ⟨Ba,h1,h2,h3⟩:=h.wk
 exact h3 _ _ _ (h1.put i x j aV hj hi hj' hi' h23).2 (fun x hx=>.inl hx) (h1.setW i x)
theorem bu.Zj (h:bu w wa b base A aP B BP k p) (hn:Nw wa wb) {aJ:Addr} {j:Jb} {BJ:Nat→Prop} (hJ:jU wb aJ j BJ) (hf:∀x,BJ x→wa.heap.size≤x) :
  bu w (wb.setCell ⟨b,2,none⟩ (.pointer (some aJ))) b base A aP B BP {k with j:=some j} p:=by
 obtain ⟨Ba,h1,h2,h3⟩:=h.wk
 have hs:=(h1.nw hn).setW 2 (.pointer (some aJ))
 refine h3 _ _ _ (h1.Zj hn hJ hf).2 (fun x hx=>hx) ⟨hs.os.trans hn.os,hs.tape.trans hn.tape,hs.output.trans hn.output,Nat.le_trans hn.size hs.size,fun x hx hb=>(hs.block x (Nat.lt_of_lt_of_le hx hn.size) fun q=>hb q.1).trans (hn.block x hx id)⟩
theorem bu.N8 (h:bu w wa b base A aP B BP k p):∃sv:Value,wa.cell? ⟨b,4,none⟩=some sv∧wa.ownsRow base 39 2 sv k.said.length (jP k.said) ∧
  ∀w1 w2 v' (x:Int × Int),Nw wa w1→w1.grownBy w2 sv.ownBlock→w2.ownsRow base 39 2 v' (k.said.length+1) (jP k.said ++ [.int .i64 x.1,.int .i64 x.2])→(v'.ownBlock=sv.ownBlock∨v'.ownBlock=some w1.heap.size) →
   w2.frozen? ⟨b,4,none⟩=false∧w2.cell? ⟨b,4,none⟩=some sv∧bu w (w2.setCell ⟨b,4,none⟩ v') b base A aP B BP {k with said:=k.said ++ [x]} p:=by
 obtain ⟨B1,zZ,h1,h2,h3,h4,h5,h6⟩:=h.ex
 obtain ⟨aR,jv,sv',c,BR,BJ,k1,-,-,-,k5,-,-,-,hB⟩:=h2.ex
 obtain ⟨sv,s1,s2,s3⟩:=h2.N8
 have hsv:sv=sv':=by
  have:wa.cell? ⟨b,4,none⟩=some sv':=by
   unfold World.cell?
   rw [k1]
   rfl
  exact Option.some.inj (s1.symm.trans this)
 refine ⟨sv,s1,s2,fun w1 w2 v' x hn hg ho hv=>?_⟩
 obtain ⟨a1,a2,a3⟩:=s3 w1 w2 v' x hn hg ho hv
 refine ⟨a1,a2,fun y=>B1 y∨wa.heap.size≤y,fun y=>zZ y∧y<wa.heap.size,?_,a3,fun y hy=>h3 y hy.1,fun y hy=>?_,fun y hy hz=>?_,?_⟩
 ·refine (h1.mono (B':=fun x=>zZ x∧x<wa.heap.size) fun x p q=>⟨p,q⟩).frame fun y hy=>?_
  have hyb:y≠b:=fun e=>h5 y hy.1 (e ▸ h2.self.1)
  have hyo:sv.ownBlock≠some y:=fun e=>h5 y hy.1 (hB y (.inr (.inr (.inr (hsv ▸ e)))))
  exact (heap_setCell_other w2 ⟨b,4,none⟩ y _ hyb).trans ((hg.block y (Nat.lt_of_lt_of_le hy.2 hn.size) fun e=>hyo e.symm).trans (hn.block y hy.2 id))
 ·rcases hy with hy | hy
  ·exact h4 y hy
  ·exact .inr (Nat.le_trans h6.size hy)
 ·rcases hz with hz | hz
  ·exact h5 y hy.1 hz
  ·exact absurd hy.2 (Nat.not_lt.2 hz)
 ·have e:(w2.setCell ⟨b,4,none⟩ v').heap.size=w2.heap.size:=by simp [World.setCell]
  refine ⟨hg.os.trans (hn.os.trans h6.os),hg.tape.trans (hn.tape.trans h6.tape),hg.output.trans (hn.output.trans h6.output),by rw [e];exact Nat.le_trans h6.size (Nat.le_trans hn.size hg.size),fun y hy hno=>?_⟩
  have hya:y<wa.heap.size:=Nat.lt_of_lt_of_le hy h6.size
  have nB:¬B1 y:=fun q=>(h4 y q).elim (fun q=>hno (.inr q)) fun q=>absurd hy (Nat.not_lt.2 q)
  have hyb:y≠b:=fun e=>nB (e ▸ h2.self.1)
  have hyo:sv.ownBlock≠some y:=fun e=>nB (hB y (.inr (.inr (.inr (hsv ▸ e)))))
  exact (heap_setCell_other w2 ⟨b,4,none⟩ y _ hyb).trans ((hg.block y (Nat.lt_of_lt_of_le hya hn.size) fun e=>hyo e.symm).trans ((hn.block y hya id).trans (h6.block y hy hno)))
end
end Go.Proofs.YthomdlajobnmnaaGreatDoor.Cq
namespace Go.Proofs.YthomdlajobnmnaaGreatDoor.Cq
open Go.RowKit Go.Rex
structure Wx (wr wx:World) (X:Nat→Prop) (b base A:Nat) (Ba:Nat→Prop) (k:Wk):Prop where
 ex:∃B':Nat→Prop,aQ wx b base A k B'∧∀x,B' x→(Ba x∨wr.heap.size≤x)∧¬X x∧x<wx.heap.size
 Cc:bA wr Ba wx
 nx:∀x,X x→wr.heap.size≤x∧x<wx.heap.size
 a:A<wr.heap.size
section
variable {w wr wx w':World} {X:Nat→Prop} {b base A rb:Nat} {Ba B BP:Nat→Prop} {k k':Wk} {aP:Addr} {p:PS}
theorem Wx.of (h:aQ wr b base A k Ba) (hl:∀x,Ba x→x<wr.heap.size):Wx wr wr (fun _=>False) b base A Ba k :=
 ⟨⟨Ba,h,fun x hx=>⟨.inl hx,id,hl x hx⟩⟩,bA.refl _ _,fun _ h=>h.elim,h.self.2.2⟩
theorem Wx.alloc (h:Wx wr wx X b base A Ba k) (o:Obj):Wx wr (wx.alloc o) (fun x=>X x∨x=wx.heap.size) b base A Ba k:=by
 obtain ⟨B',h1,h2⟩:=h.ex
 have hn:Nw wx (wx.alloc o):=(bA.refl _ _).alloc o
 have hs:(wx.alloc o).heap.size=wx.heap.size+1:=by simp
 refine ⟨⟨_,h1.nw hn,fun x hx=>⟨(h2 x hx.1).1,fun q=>q.elim (h2 x hx.1).2.1 fun e=>by have:=hx.2;omega,by rw [hs];have:=hx.2;omega⟩⟩,He h.Cc hn,fun x hx=>?_,h.a⟩
 rw [hs]
 rcases hx with hx | rfl
 ·have:=h.nx x hx
  omega
 ·have:=h.Cc.size
  omega
theorem Wx.drew (h:Wx wr wx X b base A Ba k):Wx wr wx.drew X b base A Ba k:=by
 obtain ⟨B',h1,h2⟩:=h.ex
 have hn:Nw wx wx.drew:=Nw.drew (bA.refl _ _)
 exact ⟨⟨_,h1.nw hn,fun x hx=>h2 x hx.1⟩,He h.Cc hn,h.nx,h.a⟩
theorem Wx.qB {B':Nat→Prop} (h:Wx wr wx X b base A Ba k) (hB:∀x,B' x→(Ba x∨wr.heap.size≤x)∧¬X x∧x<wx.heap.size) (hW:aQ w' b base A k' (fun x=>B' x∨wx.heap.size≤x)) (hw:bA wx B' w') :
  Wx wr w' X b base A Ba k'∧∀x,X x→w'.heap[x]?=wx.heap[x]?:=by
 refine ⟨⟨⟨fun x=>(B' x∨wx.heap.size≤x)∧x<w'.heap.size,hW.mono fun x p q=>⟨p,q⟩,fun x hx=>?_⟩,iW h.Cc hw fun x hx _=>(hB x hx).1,fun x hx=>⟨(h.nx x hx).1,Nat.lt_of_lt_of_le (h.nx x hx).2 hw.size⟩,h.a⟩,fun x hx=>hw.block x (h.nx x hx).2 fun q=>(hB x q).2.1 hx⟩
 rcases hx.1 with g | g
 ·exact ⟨(hB x g).1,(hB x g).2.1,hx.2⟩
 ·exact ⟨.inr (Nat.le_trans h.Cc.size g),fun q=>absurd (h.nx x q).2 (Nat.not_lt.2 g),hx.2⟩
theorem Wx.bR (h:Wx wr wx X b base A Ba k) (hc:wx.cell? ⟨b,0,none⟩=some (.pointer (some ⟨rb,0,none⟩))) :
  Calls Tryz.prog 38 #[.pointer (some ⟨rb,0,none⟩)] wx fun e w'=>e=.returned (jl k.r.bR)∧Wx wr w' X b base A Ba k∧(∀x,X x→w'.heap[x]?=wx.heap[x]?)∧∀i,w'.cell? ⟨b,i,none⟩=wx.cell? ⟨b,i,none⟩:=by
 obtain ⟨B',h1,h2⟩:=h.ex
 obtain ⟨WM,hc',hb⟩:=h1.bR
 obtain rfl:=qJ hc hc'
 refine hb.mono fun e w' ⟨he,hW,hw,hcc⟩=>?_
 obtain ⟨g1,g2⟩:=h.qB h2 hW hw
 exact ⟨he,g1,g2,fun i=>by unfold World.cell?;rw [hcc]⟩
theorem Wx.next (h:Wx wr wx X b base A Ba k) {aJ:Addr} {j j':Jb} {c:Ca} {x:Rp} (hc:wx.cell? ⟨b,2,none⟩=some (.pointer (some aJ))) (hj:k.j=some j) (ht:j.tg) (hn:j.next x=(j',c)) :
  Calls Tryz.prog 48 #[.pointer (some aJ),jl x] wx fun e w'=>e=.returned (qW c)∧Wx wr w' X b base A Ba {k with j:=some j'}∧(∀x,X x→w'.heap[x]?=wx.heap[x]?)∧∀i,w'.cell? ⟨b,i,none⟩=wx.cell? ⟨b,i,none⟩:=by
 obtain ⟨B',h1,h2⟩:=h.ex
 obtain ⟨aJ',hc',hb⟩:=h1.af9 (x:=x) hj ht
 obtain rfl:aJ=aJ':=by
  have:=hc.symm.trans hc'
  simpa using this
 refine hb.mono fun e w' ⟨he,hW,hw,hcc⟩=>?_
 obtain ⟨g1,g2⟩:=h.qB h2 hW hw
 rw [hn] at he g1
 exact ⟨he,g1,g2,fun i=>by unfold World.cell?;rw [hcc]⟩
theorem Wx.aco (h:Wx wr wx X b base A Ba k) (hw:bA wx X w'):Wx wr w' X b base A Ba k:=by
 obtain ⟨B',h1,h2⟩:=h.ex
 refine ⟨⟨_,h1.frame (fun x hx hb=>hw.block x hx (h2 x hb).2.1) (hw.block _ h1.self.2.2 fun q=>?_) hw.size,fun x hx=>⟨(h2 x hx.1).1,(h2 x hx.1).2.1,Nat.lt_of_lt_of_le hx.2 hw.size⟩⟩,iW h.Cc hw fun x hx _=>.inr (h.nx x hx).1,fun x hx=>⟨(h.nx x hx).1,Nat.lt_of_lt_of_le (h.nx x hx).2 hw.size⟩,h.a⟩
 exact absurd h.a (Nat.not_lt.2 (h.nx _ q).1)
theorem Wx.out (h:Wx wr wx X b base A Ba k') (hk:∀wb k' B',aQ wb b base A k' B'→(∀x,B' x→Ba x∨wr.heap.size≤x)→bA wr Ba wb→bu w wb b base A aP B BP k' p):bu w wx b base A aP B BP k' p:=by
 obtain ⟨B',h1,h2⟩:=h.ex
 exact hk _ _ _ h1 (fun x hx=>(h2 x hx).1) h.Cc
end
end Go.Proofs.YthomdlajobnmnaaGreatDoor.Cq
namespace Go.Proofs.YthomdlajobnmnaaGreatDoor.Cq
open Go.RowKit Go.Rex
theorem caV (k:Int):qW (Ca.of k)=.agg #[.int .i64 k,.int .i64 0,.int .i64 0,.int .i64 0,.int .i64 0,.int .i64 0,.int .i64 0,.int .i64 0,.bool false,.int .i64 0,.int .i64 0,.int .i64 0,.int .i64 0,.bool false,.int .i64 0,.int .i64 0,.int .i64 0,.int .i64 0]:=rfl
theorem nk (w:World) (o:Obj):(w.alloc o).heap[w.heap.size]?=some o:=by
 show (w.heap.push o)[w.heap.size]?=some o
 simp
theorem acp:(Tryz.prog.info? 39).map (fun i=>(i.zero,i.size,i.bytes))=some (some (.agg #[.int .i64 0,.int .i64 0]),2,16):=by kernel_rfl
end Go.Proofs.YthomdlajobnmnaaGreatDoor.Cq
namespace Go.Proofs.YthomdlajobnmnaaGreatDoor.Cq
open Go.RowKit Go.Rex
set_option maxRecDepth 100000 in
noncomputable abbrev vR:Code:=(((Code.region 2 #[{dst:=some 13,op:=Op.move (Operand.tmp 5),type:=3,pos := "own.go:24",after:=#[],guard:=none},{dst:=some 14,op:=Op.binOp BinOp.lss 3 (Operand.tmp 13) (Operand.const (Value.int IntKind.i64 200)) 3,type:=4,pos := "own.go:24",after:=#[⟨0,.data⟩],guard:=none},{dst:=some 15,op:=Op.move (Operand.tmp 14),type:=4,pos := "own.go:24",after:=#[⟨1,.data⟩],guard:=none},{dst:=some 16,op:=Op.move (Operand.tmp 0),type:=63,pos := "own.go:24",after:=#[⟨2,.guard⟩],guard:=some (2,true)},{dst:=some 17,op:=Op.nilCheck (Operand.tmp 16),type:=0,pos := "own.go:24",after:=#[⟨3,.data⟩,⟨2,.guard⟩],guard:=some (2,true)},{dst:=some 18,op:=Op.fieldAddr 62 (Operand.tmp 17) 0,type:=0,pos := "own.go:24",after:=#[⟨4,.data⟩,⟨2,.guard⟩],guard:=some (2,true)},{dst:=some 19,op:=Op.load 40 (Operand.tmp 18),type:=40,pos := "own.go:24",after:=#[⟨5,.data⟩,⟨2,.guard⟩],guard:=some (2,true)},{dst:=some 20,op:=Op.call {callee:=Callee.value (Operand.func 36),args:=#[Operand.tmp 19],argTypes:=#[40]},type:=4,pos := "own.go:24",after:=#[⟨6,.data⟩,⟨2,.chain⟩,⟨2,.guard⟩],guard:=some (2,true)},{dst:=some 21,op:=Op.unOp UnOp.not 4 (Operand.tmp 20),type:=4,pos := "own.go:24",after:=#[⟨7,.data⟩,⟨2,.guard⟩],guard:=some (2,true)},{dst:=some 22,op:=Op.pick (Operand.tmp 15) (Operand.tmp 21) (Operand.const (Value.bool false)),type:=4,pos := "own.go:24",after:=#[⟨2,.data⟩,⟨8,.data⟩],guard:=none}] false).seq (Code.cond (Operand.tmp 22) Code.skip (Code.exit 0))).seq ((Code.block 1 (((Code.region 4 #[{dst:=some 25,op:=Op.move (Operand.tmp 0),type:=63,pos := "own.go:25",after:=#[],guard:=none},{dst:=some 26,op:=Op.nilCheck (Operand.tmp 25),type:=0,pos := "own.go:25",after:=#[⟨0,.data⟩],guard:=none},{dst:=some 27,op:=Op.fieldAddr 62 (Operand.tmp 26) 2,type:=0,pos := "own.go:25",after:=#[⟨1,.data⟩],guard:=none},{dst:=some 28,op:=Op.load 60 (Operand.tmp 27),type:=60,pos := "own.go:25",after:=#[⟨2,.data⟩],guard:=none},{dst:=some 29,op:=Op.binOp BinOp.eql 60 (Operand.tmp 28) (Operand.const (Value.pointer none)) 60,type:=4,pos := "own.go:25",after:=#[⟨3,.data⟩],guard:=none},{dst:=some 30,op:=Op.move (Operand.tmp 29),type:=4,pos := "own.go:25",after:=#[⟨4,.data⟩],guard:=none},{dst:=some 31,op:=Op.move (Operand.tmp 0),type:=63,pos := "own.go:25",after:=#[⟨5,.guard⟩],guard:=some (5,true)},{dst:=some 32,op:=Op.nilCheck (Operand.tmp 31),type:=0,pos := "own.go:25",after:=#[⟨6,.data⟩,⟨5,.guard⟩],guard:=some (5,true)},{dst:=some 33,op:=Op.fieldAddr 62 (Operand.tmp 32) 3,type:=0,pos := "own.go:25",after:=#[⟨7,.data⟩,⟨5,.guard⟩],guard:=some (5,true)},{dst:=some 34,op:=Op.load 4 (Operand.tmp 33),type:=4,pos := "own.go:25",after:=#[⟨8,.data⟩,⟨5,.guard⟩],guard:=some (5,true)},{dst:=some 35,op:=Op.pick (Operand.tmp 30) (Operand.tmp 34) (Operand.const (Value.bool false)),type:=4,pos := "own.go:25",after:=#[⟨5,.data⟩,⟨9,.data⟩],guard:=none}] false).seq (Code.cond (Operand.tmp 35) ((Code.region 5 #[{dst:=some 36,op:=Op.move (Operand.tmp 0),type:=63,pos := "own.go:26",after:=#[],guard:=none},{dst:=some 37,op:=Op.nilCheck (Operand.tmp 36),type:=0,pos := "own.go:26",after:=#[⟨0,.data⟩,⟨0,.phase⟩],guard:=none},{dst:=some 38,op:=Op.fieldAddr 62 (Operand.tmp 37) 3,type:=0,pos := "own.go:26",after:=#[⟨1,.data⟩,⟨0,.phase⟩],guard:=none},{dst:=none,op:=Op.store 4 (Operand.tmp 38) (Operand.const (Value.bool false)),type:=0,pos := "own.go:26",after:=#[⟨2,.data⟩,⟨0,.phase⟩],guard:=none}] false).seq (((Code.region 6 #[{dst:=some 39,op:=Op.move (Operand.tmp 0),type:=63,pos := "own.go:27",after:=#[],guard:=none},{dst:=some 40,op:=Op.nilCheck (Operand.tmp 39),type:=0,pos := "own.go:27",after:=#[⟨0,.data⟩],guard:=none},{dst:=some 41,op:=Op.fieldAddr 62 (Operand.tmp 40) 0,type:=0,pos := "own.go:27",after:=#[⟨1,.data⟩],guard:=none},{dst:=some 42,op:=Op.load 40 (Operand.tmp 41),type:=40,pos := "own.go:27",after:=#[⟨2,.data⟩],guard:=none},{dst:=some 43,op:=Op.build 83 #[(0,Operand.const (Value.int IntKind.i64 2))],type:=83,pos := "own.go:27",after:=#[],guard:=none},{dst:=some 44,op:=Op.call {callee:=Callee.value (Operand.func 37),args:=#[Operand.tmp 42,Operand.tmp 43],argTypes:=#[40,83]},type:=36,pos := "own.go:27",after:=#[⟨3,.data⟩,⟨4,.data⟩],guard:=none},{dst:=some 45,op:=Op.binOp BinOp.neq 36 (Operand.tmp 44) (Operand.const Value.nilIface) 36,type:=4,pos := "own.go:27",after:=#[⟨5,.data⟩],guard:=none}] false).seq (Code.cond (Operand.tmp 45) ((Code.region 7 #[{dst:=some 4,op:=Op.assign (Operand.const (Value.bool false)),type:=4,pos := "own.go:28",after:=#[],guard:=none}] false).seq Code.ret) Code.skip)).seq (Code.exit 1))) Code.skip)).seq (((Code.region 8 #[{dst:=some 46,op:=Op.move (Operand.tmp 0),type:=63,pos := "own.go:32",after:=#[],guard:=none},{dst:=some 47,op:=Op.nilCheck (Operand.tmp 46),type:=0,pos := "own.go:32",after:=#[⟨0,.data⟩],guard:=none},{dst:=some 48,op:=Op.fieldAddr 62 (Operand.tmp 47) 2,type:=0,pos := "own.go:32",after:=#[⟨1,.data⟩],guard:=none},{dst:=some 49,op:=Op.load 60 (Operand.tmp 48),type:=60,pos := "own.go:32",after:=#[⟨2,.data⟩],guard:=none},{dst:=some 50,op:=Op.binOp BinOp.eql 60 (Operand.tmp 49) (Operand.const (Value.pointer none)) 60,type:=4,pos := "own.go:32",after:=#[⟨3,.data⟩],guard:=none}] false).seq (Code.cond (Operand.tmp 50) (((Code.region 9 #[{dst:=some 51,op:=Op.move (Operand.tmp 0),type:=63,pos := "own.go:33",after:=#[],guard:=none},{dst:=some 52,op:=Op.nilCheck (Operand.tmp 51),type:=0,pos := "own.go:33",after:=#[⟨0,.data⟩],guard:=none},{dst:=some 53,op:=Op.fieldAddr 62 (Operand.tmp 52) 4,type:=0,pos := "own.go:33",after:=#[⟨1,.data⟩],guard:=none},{dst:=some 54,op:=Op.load 42 (Operand.tmp 53),type:=42,pos := "own.go:33",after:=#[⟨2,.data⟩],guard:=none},{dst:=some 55,op:=Op.call {callee:=Callee.builtin Builtin.len,args:=#[Operand.tmp 54],argTypes:=#[42]},type:=3,pos := "own.go:33",after:=#[⟨3,.data⟩],guard:=none},{dst:=some 56,op:=Op.move (Operand.tmp 0),type:=63,pos := "own.go:33",after:=#[],guard:=none},{dst:=some 57,op:=Op.nilCheck (Operand.tmp 56),type:=0,pos := "own.go:33",after:=#[⟨5,.data⟩],guard:=none},{dst:=some 58,op:=Op.fieldAddr 62 (Operand.tmp 57) 1,type:=0,pos := "own.go:33",after:=#[⟨6,.data⟩],guard:=none},{dst:=some 59,op:=Op.load 25 (Operand.tmp 58),type:=25,pos := "own.go:33",after:=#[⟨7,.data⟩],guard:=none},{dst:=some 60,op:=Op.call {callee:=Callee.builtin Builtin.len,args:=#[Operand.tmp 59],argTypes:=#[25]},type:=3,pos := "own.go:33",after:=#[⟨8,.data⟩],guard:=none},{dst:=some 61,op:=Op.binOp BinOp.geq 3 (Operand.tmp 55) (Operand.tmp 60) 3,type:=4,pos := "own.go:33",after:=#[⟨4,.data⟩,⟨9,.data⟩],guard:=none}] true).seq (Code.cond (Operand.tmp 61) ((Code.region 10 #[{dst:=some 4,op:=Op.assign (Operand.const (Value.bool false)),type:=4,pos := "own.go:34",after:=#[],guard:=none}] false).seq Code.ret) Code.skip)).seq ((Code.region 11 #[{dst:=some 63,op:=Op.move (Operand.tmp 0),type:=63,pos := "own.go:36",after:=#[],guard:=none},{dst:=some 64,op:=Op.nilCheck (Operand.tmp 63),type:=0,pos := "own.go:36",after:=#[⟨0,.data⟩],guard:=none},{dst:=some 65,op:=Op.fieldAddr 62 (Operand.tmp 64) 1,type:=0,pos := "own.go:36",after:=#[⟨1,.data⟩],guard:=none},{dst:=some 66,op:=Op.load 25 (Operand.tmp 65),type:=25,pos := "own.go:36",after:=#[⟨2,.data⟩],guard:=none},{dst:=some 67,op:=Op.move (Operand.tmp 0),type:=63,pos := "own.go:36",after:=#[],guard:=none},{dst:=some 68,op:=Op.nilCheck (Operand.tmp 67),type:=0,pos := "own.go:36",after:=#[⟨4,.data⟩],guard:=none},{dst:=some 69,op:=Op.fieldAddr 62 (Operand.tmp 68) 4,type:=0,pos := "own.go:36",after:=#[⟨5,.data⟩],guard:=none},{dst:=some 70,op:=Op.load 42 (Operand.tmp 69),type:=42,pos := "own.go:36",after:=#[⟨6,.data⟩],guard:=none},{dst:=some 71,op:=Op.call {callee:=Callee.builtin Builtin.len,args:=#[Operand.tmp 70],argTypes:=#[42]},type:=3,pos := "own.go:36",after:=#[⟨7,.data⟩],guard:=none},{dst:=some 72,op:=Op.indexAddr 25 (Operand.tmp 66) (Operand.tmp 71),type:=0,pos := "own.go:36",after:=#[⟨3,.data⟩,⟨8,.data⟩],guard:=none},{dst:=some 73,op:=Op.load 28 (Operand.tmp 72),type:=28,pos := "own.go:36",after:=#[⟨9,.data⟩],guard:=none},{dst:=some 74,op:=Op.call {callee:=Callee.value (Operand.func 47),args:=#[Operand.tmp 73],argTypes:=#[28]},type:=109,pos := "own.go:36",after:=#[⟨10,.data⟩],guard:=none},{dst:=some 62,op:=Op.move (Operand.tmp 74),type:=109,pos := "own.go:36",after:=#[⟨11,.data⟩],guard:=none},{dst:=some 75,op:=Op.extract (Operand.tmp 62) 0,type:=60,pos := "own.go:36",after:=#[⟨12,.data⟩],guard:=none},{dst:=some 76,op:=Op.extract (Operand.tmp 62) 1,type:=36,pos := "own.go:36",after:=#[⟨12,.data⟩,{on:=15,ground:=Ground.gcOnly Departure.lateStores}],guard:=none},{dst:=some 6,op:=Op.assign (Operand.tmp 75),type:=60,pos := "own.go:36",after:=#[⟨13,.data⟩,⟨11,.chain⟩,⟨0,.phase⟩,⟨1,.phase⟩,⟨2,.phase⟩,⟨3,.phase⟩,⟨4,.phase⟩,⟨5,.phase⟩,⟨6,.phase⟩,⟨7,.phase⟩,⟨8,.phase⟩,⟨9,.phase⟩,⟨10,.phase⟩,⟨11,.phase⟩,⟨12,.phase⟩,⟨13,.phase⟩,{on:=14,ground:=Ground.textOnly Departure.lateStores}],guard:=none},{dst:=some 7,op:=Op.assign (Operand.tmp 76),type:=36,pos := "own.go:36",after:=#[⟨14,.data⟩,⟨15,.chain⟩,⟨0,.phase⟩,⟨1,.phase⟩,⟨2,.phase⟩,⟨3,.phase⟩,⟨4,.phase⟩,⟨5,.phase⟩,⟨6,.phase⟩,⟨7,.phase⟩,⟨8,.phase⟩,⟨9,.phase⟩,⟨10,.phase⟩,⟨11,.phase⟩,⟨12,.phase⟩,⟨13,.phase⟩,⟨14,.phase⟩,⟨15,.phase⟩],guard:=none}] true).seq (((Code.region 12 #[{dst:=some 77,op:=Op.move (Operand.tmp 7),type:=36,pos := "own.go:37",after:=#[],guard:=none},{dst:=some 78,op:=Op.binOp BinOp.neq 36 (Operand.tmp 77) (Operand.const Value.nilIface) 36,type:=4,pos := "own.go:37",after:=#[⟨0,.data⟩],guard:=none}] false).seq (Code.cond (Operand.tmp 78) ((Code.region 13 #[{dst:=some 79,op:=Op.move (Operand.tmp 0),type:=63,pos := "own.go:38",after:=#[],guard:=none},{dst:=some 80,op:=Op.move (Operand.tmp 0),type:=63,pos := "own.go:38",after:=#[],guard:=none},{dst:=some 81,op:=Op.nilCheck (Operand.tmp 80),type:=0,pos := "own.go:38",after:=#[⟨1,.data⟩],guard:=none},{dst:=some 82,op:=Op.fieldAddr 62 (Operand.tmp 81) 4,type:=0,pos := "own.go:38",after:=#[⟨2,.data⟩],guard:=none},{dst:=some 83,op:=Op.load 42 (Operand.tmp 82),type:=42,pos := "own.go:38",after:=#[⟨3,.data⟩],guard:=none},{dst:=some 84,op:=Op.build 39 #[],type:=39,pos := "own.go:38",after:=#[],guard:=none},{dst:=some 85,op:=Op.buildSlice 42 1 #[(0,Operand.tmp 84)],type:=42,pos := "own.go:38",after:=#[⟨5,.data⟩],guard:=none},{dst:=some 86,op:=Op.call {callee:=Callee.builtin Builtin.append,args:=#[Operand.tmp 83,Operand.tmp 85],argTypes:=#[42,42]},type:=42,pos := "own.go:38",after:=#[⟨4,.data⟩,⟨6,.data⟩],guard:=none},{dst:=some 87,op:=Op.nilCheck (Operand.tmp 79),type:=0,pos := "own.go:38",after:=#[⟨0,.data⟩,⟨0,.phase⟩,⟨1,.phase⟩,⟨2,.phase⟩,⟨3,.phase⟩,⟨4,.phase⟩,⟨5,.phase⟩,⟨6,.phase⟩,⟨7,.phase⟩],guard:=none},{dst:=some 88,op:=Op.fieldAddr 62 (Operand.tmp 87) 4,type:=0,pos := "own.go:38",after:=#[⟨8,.data⟩,⟨0,.phase⟩,⟨1,.phase⟩,⟨2,.phase⟩,⟨3,.phase⟩,⟨4,.phase⟩,⟨5,.phase⟩,⟨6,.phase⟩,⟨7,.phase⟩],guard:=none},{dst:=none,op:=Op.store 42 (Operand.tmp 88) (Operand.tmp 86),type:=0,pos := "own.go:38",after:=#[⟨9,.data⟩,⟨7,.data⟩,⟨7,.chain⟩,⟨0,.phase⟩,⟨1,.phase⟩,⟨2,.phase⟩,⟨3,.phase⟩,⟨4,.phase⟩,⟨5,.phase⟩,⟨6,.phase⟩,⟨7,.phase⟩],guard:=none}] false).seq (Code.exit 1)) Code.skip)).seq ((Code.region 14 #[{dst:=some 89,op:=Op.move (Operand.tmp 0),type:=63,pos := "own.go:41",after:=#[],guard:=none},{dst:=some 90,op:=Op.move (Operand.tmp 6),type:=60,pos := "own.go:41",after:=#[],guard:=none},{dst:=some 91,op:=Op.nilCheck (Operand.tmp 89),type:=0,pos := "own.go:41",after:=#[⟨0,.data⟩,⟨0,.phase⟩,⟨1,.phase⟩],guard:=none},{dst:=some 92,op:=Op.fieldAddr 62 (Operand.tmp 91) 2,type:=0,pos := "own.go:41",after:=#[⟨2,.data⟩,⟨0,.phase⟩,⟨1,.phase⟩],guard:=none},{dst:=none,op:=Op.store 60 (Operand.tmp 92) (Operand.tmp 90),type:=0,pos := "own.go:41",after:=#[⟨3,.data⟩,⟨1,.data⟩,⟨0,.phase⟩,⟨1,.phase⟩],guard:=none}] false).seq ((Code.region 15 #[{dst:=some 93,op:=Op.move (Operand.tmp 0),type:=63,pos := "own.go:42",after:=#[],guard:=none},{dst:=some 94,op:=Op.nilCheck (Operand.tmp 93),type:=0,pos := "own.go:42",after:=#[⟨0,.data⟩,⟨0,.phase⟩],guard:=none},{dst:=some 95,op:=Op.fieldAddr 62 (Operand.tmp 94) 3,type:=0,pos := "own.go:42",after:=#[⟨1,.data⟩,⟨0,.phase⟩],guard:=none},{dst:=none,op:=Op.store 4 (Operand.tmp 95) (Operand.const (Value.bool true)),type:=0,pos := "own.go:42",after:=#[⟨2,.data⟩,⟨0,.phase⟩],guard:=none}] false).seq (((Code.region 16 #[{dst:=some 96,op:=Op.move (Operand.tmp 0),type:=63,pos := "own.go:43",after:=#[],guard:=none},{dst:=some 97,op:=Op.nilCheck (Operand.tmp 96),type:=0,pos := "own.go:43",after:=#[⟨0,.data⟩],guard:=none},{dst:=some 98,op:=Op.fieldAddr 62 (Operand.tmp 97) 0,type:=0,pos := "own.go:43",after:=#[⟨1,.data⟩],guard:=none},{dst:=some 99,op:=Op.load 40 (Operand.tmp 98),type:=40,pos := "own.go:43",after:=#[⟨2,.data⟩],guard:=none},{dst:=some 100,op:=Op.build 83 #[(0,Operand.const (Value.int IntKind.i64 1))],type:=83,pos := "own.go:43",after:=#[],guard:=none},{dst:=some 101,op:=Op.call {callee:=Callee.value (Operand.func 37),args:=#[Operand.tmp 99,Operand.tmp 100],argTypes:=#[40,83]},type:=36,pos := "own.go:43",after:=#[⟨3,.data⟩,⟨4,.data⟩],guard:=none},{dst:=some 102,op:=Op.binOp BinOp.neq 36 (Operand.tmp 101) (Operand.const Value.nilIface) 36,type:=4,pos := "own.go:43",after:=#[⟨5,.data⟩],guard:=none}] false).seq (Code.cond (Operand.tmp 102) ((Code.region 17 #[{dst:=some 4,op:=Op.assign (Operand.const (Value.bool false)),type:=4,pos := "own.go:44",after:=#[],guard:=none}] false).seq Code.ret) Code.skip)).seq (Code.exit 1))))))) Code.skip)).seq ((Code.region 18 #[{dst:=some 103,op:=Op.move (Operand.tmp 0),type:=63,pos := "own.go:48",after:=#[],guard:=none},{dst:=some 104,op:=Op.nilCheck (Operand.tmp 103),type:=0,pos := "own.go:48",after:=#[⟨0,.data⟩],guard:=none},{dst:=some 105,op:=Op.fieldAddr 62 (Operand.tmp 104) 2,type:=0,pos := "own.go:48",after:=#[⟨1,.data⟩],guard:=none},{dst:=some 106,op:=Op.load 60 (Operand.tmp 105),type:=60,pos := "own.go:48",after:=#[⟨2,.data⟩],guard:=none},{dst:=some 107,op:=Op.move (Operand.tmp 0),type:=63,pos := "own.go:48",after:=#[],guard:=none},{dst:=some 108,op:=Op.nilCheck (Operand.tmp 107),type:=0,pos := "own.go:48",after:=#[⟨4,.data⟩],guard:=none},{dst:=some 109,op:=Op.fieldAddr 62 (Operand.tmp 108) 0,type:=0,pos := "own.go:48",after:=#[⟨5,.data⟩],guard:=none},{dst:=some 110,op:=Op.load 40 (Operand.tmp 109),type:=40,pos := "own.go:48",after:=#[⟨6,.data⟩],guard:=none},{dst:=some 111,op:=Op.call {callee:=Callee.value (Operand.func 38),args:=#[Operand.tmp 110],argTypes:=#[40]},type:=86,pos := "own.go:48",after:=#[⟨7,.data⟩],guard:=none},{dst:=some 112,op:=Op.call {callee:=Callee.value (Operand.func 48),args:=#[Operand.tmp 106,Operand.tmp 111],argTypes:=#[60,86]},type:=83,pos := "own.go:48",after:=#[⟨3,.data⟩,⟨8,.data⟩,⟨8,.chain⟩],guard:=none},{dst:=some 8,op:=Op.alloc 83,type:=0,pos := "own.go:48",after:=#[],guard:=none},{dst:=none,op:=Op.store 83 (Operand.tmp 8) (Operand.tmp 112),type:=0,pos := "own.go:48",after:=#[⟨10,.data⟩,⟨9,.data⟩,⟨9,.chain⟩,⟨0,.phase⟩,⟨1,.phase⟩,⟨2,.phase⟩,⟨3,.phase⟩,⟨4,.phase⟩,⟨5,.phase⟩,⟨6,.phase⟩,⟨7,.phase⟩,⟨8,.phase⟩,⟨9,.phase⟩,⟨10,.phase⟩],guard:=none}] true).seq (((Code.region 19 #[{dst:=some 113,op:=Op.fieldAddr 83 (Operand.tmp 8) 0,type:=0,pos := "own.go:49",after:=#[],guard:=none},{dst:=some 114,op:=Op.load 3 (Operand.tmp 113),type:=3,pos := "own.go:49",after:=#[⟨0,.data⟩],guard:=none},{dst:=some 115,op:=Op.binOp BinOp.eql 3 (Operand.tmp 114) (Operand.const (Value.int IntKind.i64 12)) 3,type:=4,pos := "own.go:49",after:=#[⟨1,.data⟩],guard:=none}] false).seq (Code.cond (Operand.tmp 115) ((Code.region 20 #[{dst:=some 116,op:=Op.move (Operand.tmp 0),type:=63,pos := "own.go:50",after:=#[],guard:=none},{dst:=some 117,op:=Op.move (Operand.tmp 0),type:=63,pos := "own.go:50",after:=#[],guard:=none},{dst:=some 118,op:=Op.nilCheck (Operand.tmp 117),type:=0,pos := "own.go:50",after:=#[⟨1,.data⟩],guard:=none},{dst:=some 119,op:=Op.fieldAddr 62 (Operand.tmp 118) 4,type:=0,pos := "own.go:50",after:=#[⟨2,.data⟩],guard:=none},{dst:=some 120,op:=Op.load 42 (Operand.tmp 119),type:=42,pos := "own.go:50",after:=#[⟨3,.data⟩],guard:=none},{dst:=some 121,op:=Op.fieldAddr 83 (Operand.tmp 8) 6,type:=0,pos := "own.go:50",after:=#[],guard:=none},{dst:=some 122,op:=Op.load 39 (Operand.tmp 121),type:=39,pos := "own.go:50",after:=#[⟨5,.data⟩],guard:=none},{dst:=some 123,op:=Op.buildSlice 42 1 #[(0,Operand.tmp 122)],type:=42,pos := "own.go:50",after:=#[⟨6,.data⟩],guard:=none},{dst:=some 124,op:=Op.call {callee:=Callee.builtin Builtin.append,args:=#[Operand.tmp 120,Operand.tmp 123],argTypes:=#[42,42]},type:=42,pos := "own.go:50",after:=#[⟨4,.data⟩,⟨7,.data⟩],guard:=none},{dst:=some 125,op:=Op.nilCheck (Operand.tmp 116),type:=0,pos := "own.go:50",after:=#[⟨0,.data⟩,⟨0,.phase⟩,⟨1,.phase⟩,⟨2,.phase⟩,⟨3,.phase⟩,⟨4,.phase⟩,⟨5,.phase⟩,⟨6,.phase⟩,⟨7,.phase⟩,⟨8,.phase⟩],guard:=none},{dst:=some 126,op:=Op.fieldAddr 62 (Operand.tmp 125) 4,type:=0,pos := "own.go:50",after:=#[⟨9,.data⟩,⟨0,.phase⟩,⟨1,.phase⟩,⟨2,.phase⟩,⟨3,.phase⟩,⟨4,.phase⟩,⟨5,.phase⟩,⟨6,.phase⟩,⟨7,.phase⟩,⟨8,.phase⟩],guard:=none},{dst:=none,op:=Op.store 42 (Operand.tmp 126) (Operand.tmp 124),type:=0,pos := "own.go:50",after:=#[⟨10,.data⟩,⟨8,.data⟩,⟨8,.chain⟩,⟨0,.phase⟩,⟨1,.phase⟩,⟨2,.phase⟩,⟨3,.phase⟩,⟨4,.phase⟩,⟨5,.phase⟩,⟨6,.phase⟩,⟨7,.phase⟩,⟨8,.phase⟩],guard:=none}] true).seq ((Code.region 21 #[{dst:=some 127,op:=Op.move (Operand.tmp 0),type:=63,pos := "own.go:51",after:=#[],guard:=none},{dst:=some 128,op:=Op.nilCheck (Operand.tmp 127),type:=0,pos := "own.go:51",after:=#[⟨0,.data⟩,⟨0,.phase⟩],guard:=none},{dst:=some 129,op:=Op.fieldAddr 62 (Operand.tmp 128) 2,type:=0,pos := "own.go:51",after:=#[⟨1,.data⟩,⟨0,.phase⟩],guard:=none},{dst:=none,op:=Op.store 60 (Operand.tmp 129) (Operand.const (Value.pointer none)),type:=0,pos := "own.go:51",after:=#[⟨2,.data⟩,⟨0,.phase⟩],guard:=none}] false).seq (Code.exit 1))) Code.skip)).seq ((Code.region 22 #[{dst:=some 130,op:=Op.move (Operand.tmp 0),type:=63,pos := "own.go:54",after:=#[],guard:=none},{dst:=some 131,op:=Op.nilCheck (Operand.tmp 130),type:=0,pos := "own.go:54",after:=#[⟨0,.data⟩],guard:=none},{dst:=some 132,op:=Op.fieldAddr 62 (Operand.tmp 131) 0,type:=0,pos := "own.go:54",after:=#[⟨1,.data⟩],guard:=none},{dst:=some 133,op:=Op.load 40 (Operand.tmp 132),type:=40,pos := "own.go:54",after:=#[⟨2,.data⟩],guard:=none},{dst:=some 134,op:=Op.load 83 (Operand.tmp 8),type:=83,pos := "own.go:54",after:=#[],guard:=none},{dst:=some 135,op:=Op.call {callee:=Callee.value (Operand.func 37),args:=#[Operand.tmp 133,Operand.tmp 134],argTypes:=#[40,83]},type:=36,pos := "own.go:54",after:=#[⟨3,.data⟩,⟨4,.data⟩],guard:=none},{dst:=some 136,op:=Op.binOp BinOp.neq 36 (Operand.tmp 135) (Operand.const Value.nilIface) 36,type:=4,pos := "own.go:54",after:=#[⟨5,.data⟩],guard:=none}] true).seq (Code.cond (Operand.tmp 136) ((Code.region 23 #[{dst:=some 4,op:=Op.assign (Operand.const (Value.bool false)),type:=4,pos := "own.go:55",after:=#[],guard:=none}] false).seq Code.ret) Code.skip))))))).seq (Code.region 3 #[{dst:=some 23,op:=Op.move (Operand.tmp 5),type:=3,pos := "own.go:24",after:=#[],guard:=none},{dst:=some 24,op:=Op.binOp BinOp.add 3 (Operand.tmp 23) (Operand.const (Value.int IntKind.i64 1)) 3,type:=3,pos := "own.go:24",after:=#[⟨0,.data⟩],guard:=none},{dst:=some 5,op:=Op.assign (Operand.tmp 24),type:=3,pos := "own.go:24",after:=#[⟨1,.data⟩,⟨0,.phase⟩,⟨1,.phase⟩],guard:=none}] false)))
set_option maxRecDepth 100000 in
noncomputable abbrev Hr:Code:=((Code.region 24 #[{dst:=some 138,op:=Op.move (Operand.tmp 0),type:=63,pos := "own.go:58",after:=#[],guard:=none},{dst:=some 139,op:=Op.nilCheck (Operand.tmp 138),type:=0,pos := "own.go:58",after:=#[⟨0,.data⟩],guard:=none},{dst:=some 140,op:=Op.fieldAddr 62 (Operand.tmp 139) 0,type:=0,pos := "own.go:58",after:=#[⟨1,.data⟩],guard:=none},{dst:=some 141,op:=Op.load 40 (Operand.tmp 140),type:=40,pos := "own.go:58",after:=#[⟨2,.data⟩],guard:=none},{dst:=some 142,op:=Op.call {callee:=Callee.value (Operand.func 39),args:=#[Operand.tmp 141],argTypes:=#[40]},type:=100,pos := "own.go:58",after:=#[⟨3,.data⟩],guard:=none},{dst:=some 137,op:=Op.move (Operand.tmp 142),type:=100,pos := "own.go:58",after:=#[⟨4,.data⟩],guard:=none},{dst:=some 143,op:=Op.extract (Operand.tmp 137) 0,type:=92,pos := "own.go:58",after:=#[⟨5,.data⟩],guard:=none},{dst:=some 144,op:=Op.extract (Operand.tmp 137) 1,type:=4,pos := "own.go:58",after:=#[⟨5,.data⟩,{on:=9,ground:=Ground.gcOnly Departure.lateStores}],guard:=none},{dst:=some 9,op:=Op.alloc 92,type:=0,pos := "own.go:58",after:=#[],guard:=none},{dst:=none,op:=Op.store 92 (Operand.tmp 9) (Operand.tmp 143),type:=0,pos := "own.go:58",after:=#[⟨8,.data⟩,⟨6,.data⟩,⟨4,.chain⟩,⟨0,.phase⟩,⟨1,.phase⟩,⟨2,.phase⟩,⟨3,.phase⟩,⟨4,.phase⟩,⟨5,.phase⟩,⟨6,.phase⟩,{on:=7,ground:=Ground.textOnly Departure.lateStores},⟨8,.phase⟩],guard:=none},{dst:=some 10,op:=Op.assign (Operand.tmp 144),type:=4,pos := "own.go:58",after:=#[⟨7,.data⟩,⟨9,.chain⟩,⟨0,.phase⟩,⟨1,.phase⟩,⟨2,.phase⟩,⟨3,.phase⟩,⟨4,.phase⟩,⟨5,.phase⟩,⟨6,.phase⟩,⟨7,.phase⟩,⟨8,.phase⟩,⟨9,.phase⟩],guard:=none}] false).seq (((Code.region 25 #[{dst:=some 145,op:=Op.move (Operand.tmp 10),type:=4,pos := "own.go:59",after:=#[],guard:=none},{dst:=some 146,op:=Op.unOp UnOp.not 4 (Operand.tmp 145),type:=4,pos := "own.go:59",after:=#[⟨0,.data⟩],guard:=none}] false).seq (Code.cond (Operand.tmp 146) ((Code.region 26 #[{dst:=some 4,op:=Op.assign (Operand.const (Value.bool false)),type:=4,pos := "own.go:60",after:=#[],guard:=none}] false).seq Code.ret) Code.skip)).seq ((Code.region 27 #[{dst:=some 148,op:=Op.move (Operand.tmp 1),type:=29,pos := "own.go:62",after:=#[],guard:=none},{dst:=some 149,op:=Op.load 92 (Operand.tmp 9),type:=92,pos := "own.go:62",after:=#[],guard:=none},{dst:=some 150,op:=Op.call {callee:=Callee.value (Operand.func 32),args:=#[Operand.tmp 148,Operand.tmp 149],argTypes:=#[29,92]},type:=88,pos := "own.go:62",after:=#[⟨0,.data⟩,⟨1,.data⟩],guard:=none},{dst:=some 147,op:=Op.move (Operand.tmp 150),type:=88,pos := "own.go:62",after:=#[⟨2,.data⟩],guard:=none},{dst:=some 151,op:=Op.extract (Operand.tmp 147) 0,type:=86,pos := "own.go:62",after:=#[⟨3,.data⟩],guard:=none},{dst:=some 152,op:=Op.extract (Operand.tmp 147) 1,type:=36,pos := "own.go:62",after:=#[⟨3,.data⟩,{on:=7,ground:=Ground.gcOnly Departure.lateStores}],guard:=none},{dst:=some 11,op:=Op.alloc 86,type:=0,pos := "own.go:62",after:=#[],guard:=none},{dst:=none,op:=Op.store 86 (Operand.tmp 11) (Operand.tmp 151),type:=0,pos := "own.go:62",after:=#[⟨6,.data⟩,⟨4,.data⟩,⟨2,.chain⟩,⟨0,.phase⟩,⟨1,.phase⟩,⟨2,.phase⟩,⟨3,.phase⟩,⟨4,.phase⟩,{on:=5,ground:=Ground.textOnly Departure.lateStores},⟨6,.phase⟩],guard:=none},{dst:=some 12,op:=Op.assign (Operand.tmp 152),type:=36,pos := "own.go:62",after:=#[⟨5,.data⟩,⟨7,.chain⟩,⟨0,.phase⟩,⟨1,.phase⟩,⟨2,.phase⟩,⟨3,.phase⟩,⟨4,.phase⟩,⟨5,.phase⟩,⟨6,.phase⟩,⟨7,.phase⟩],guard:=none}] false).seq ((Code.region 28 #[{dst:=some 153,op:=Op.move (Operand.tmp 12),type:=36,pos := "own.go:63",after:=#[],guard:=none},{dst:=some 154,op:=Op.binOp BinOp.eql 36 (Operand.tmp 153) (Operand.const Value.nilIface) 36,type:=4,pos := "own.go:63",after:=#[⟨0,.data⟩],guard:=none},{dst:=some 155,op:=Op.move (Operand.tmp 154),type:=4,pos := "own.go:63",after:=#[⟨1,.data⟩],guard:=none},{dst:=some 156,op:=Op.move (Operand.tmp 0),type:=63,pos := "own.go:63",after:=#[⟨2,.guard⟩],guard:=some (2,true)},{dst:=some 157,op:=Op.nilCheck (Operand.tmp 156),type:=0,pos := "own.go:63",after:=#[⟨3,.data⟩,⟨2,.guard⟩],guard:=some (2,true)},{dst:=some 158,op:=Op.fieldAddr 62 (Operand.tmp 157) 0,type:=0,pos := "own.go:63",after:=#[⟨4,.data⟩,⟨2,.guard⟩],guard:=some (2,true)},{dst:=some 159,op:=Op.load 40 (Operand.tmp 158),type:=40,pos := "own.go:63",after:=#[⟨5,.data⟩,⟨2,.guard⟩],guard:=some (2,true)},{dst:=some 160,op:=Op.load 86 (Operand.tmp 11),type:=86,pos := "own.go:63",after:=#[⟨2,.guard⟩],guard:=some (2,true)},{dst:=some 161,op:=Op.call {callee:=Callee.value (Operand.func 40),args:=#[Operand.tmp 159,Operand.tmp 160],argTypes:=#[40,86]},type:=36,pos := "own.go:63",after:=#[⟨6,.data⟩,⟨7,.data⟩,⟨2,.chain⟩,⟨2,.guard⟩],guard:=some (2,true)},{dst:=some 162,op:=Op.binOp BinOp.eql 36 (Operand.tmp 161) (Operand.const Value.nilIface) 36,type:=4,pos := "own.go:63",after:=#[⟨8,.data⟩,⟨2,.guard⟩],guard:=some (2,true)},{dst:=some 163,op:=Op.pick (Operand.tmp 155) (Operand.tmp 162) (Operand.const (Value.bool false)),type:=4,pos := "own.go:63",after:=#[⟨2,.data⟩,⟨9,.data⟩],guard:=none},{dst:=some 4,op:=Op.assign (Operand.tmp 163),type:=4,pos := "own.go:63",after:=#[⟨10,.data⟩,⟨8,.chain⟩,⟨0,.phase⟩,⟨1,.phase⟩,⟨2,.phase⟩,⟨3,.phase⟩,⟨4,.phase⟩,⟨5,.phase⟩,⟨6,.phase⟩,⟨7,.phase⟩,⟨8,.phase⟩,⟨9,.phase⟩,⟨10,.phase⟩],guard:=none}] true).seq Code.ret))))
end Go.Proofs.YthomdlajobnmnaaGreatDoor.Cq
