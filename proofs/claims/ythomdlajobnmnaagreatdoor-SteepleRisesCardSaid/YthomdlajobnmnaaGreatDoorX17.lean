/- part 17 of the proof -/
import Derived.Test.YthomdlajobnmnaaGreatDoorX16
set_option linter.unusedSimpArgs false
set_option linter.unusedVariables false
namespace Go.Proofs.YthomdlajobnmnaaGreatDoor.Sk
open Go.Rex Gd
section
variable {S S':St} {n:Nat} {e:Int} {i m l k lv:Nat} {b:Int} {τ tk tok:Option Nd} {P C D N X:Nd} {w cur:Wd} {c:Cm} {x:Rp} {K:List Nat} {ok:List Nat->Prop} {l0:Lo} {t t':RT} {q:Ca} {R R':Rp->Prop} {p p':PS} {h:LR} {j:Jb} {o:Op} {v:Vk} {V V':Nat->Vk}
theorem abA (h:q.kind=5):∃a,(RT.begin l0 q).2=.one a:=by
 unfold RT.begin
 all_goals simp_all
theorem ale {N M:Nd} (h:rf N=rf M):N=M:=Eu (congrArg Wd.slot h) (congrArg Wd.gen h)
theorem V4 (f:Int):wF (rf N) f=na N f:=rfl
theorem rC {a d:Int} {j':Jb}:JN S n e i l0 j t (j'.fin a d):=.ans _ _ rfl
theorem yf {j':Jb} (H:EI n e S.p S.T S.own S.A) (z:i<n) (A:S.T i=(l0,.idle x)) (a:j'.op=j.op) (g:j.op.kind=6\/j.op.kind=7) (f:j'.node=rf N) (d:S.G.aj 0 N) (u:S.G.key N=j.op.key) (y:aQ j (.idle x)=some N):JN S n e i l0 j (.idle x) (j'.part (j.op.kind-5)):=by
 have s:j'.part (j.op.kind-5)=({j' with by':=j.op.kind-5,at':=101},gH (na N 7)):=by
  exact Prod.ext rfl (show gH (wF j'.node 7)=_ by rw [f];rfl)
 rw [s]
 refine .call _ _ mh.two a (show (101:Int)≠0 by decide) (λM r=>?_) λB=>.c1 N rfl (by show j'.op.kind=6\/j'.op.kind=7;rw [a];exact g) (by show j.op.kind-5=j'.op.kind-5;rw [a]) f d (by show S.G.key N=j'.op.key;rw [a];exact u) (Aw.go2 H z A mh.two λh=>absurd h (by show ¬((3:Int)=7\/(3:Int)=9);decide))
 rw [sH (N:=N) (j:={j' with by':=j.op.kind-5,at':=101}) (by show j'.op.kind=6\/j'.op.kind=7;rw [a];exact g) f (.inl rfl)] at r
 cases r
 exact y
theorem yg {j':Jb} (H:EI n e S.p S.T S.own S.A) (G:Li S.p S.own S.G) (s:i<n) (z:S.T i=(l0,.idle x)) (a:j'.op=j.op) (F:j.op.bP) (f:j.op.kind=6) (u:j'.node=rf N) (L:j'.cl=some c) (y:j'.level=lv) (g:Rf S e i j.op lv N c) (E:aQ j (.idle x)=some N):JN S n e i l0 j (.idle x) j'.link:=by
 have A:S.G.aj 0 N:=g.aj 0 (by have:=g.le;omega)
 unfold Jb.link
 rw [a,y]
 by_cases d:(lv:Int)>=j.op.dz
 ·rw [if_pos d]
  have:=yf (N:=N) (j:=j) (j':=j') H s z a (.inl f) u A g.key E
  rw [f] at this
  exact this
 rw [if_neg d]
 have J:lv<3:=by have:=(iH F f).2;omega
 have I:j'.ask 9 (gH (j'.field (2+(lv:Int))))=({j' with at':=9},gH (na N (2+lv))):=by rw [nS u];rfl
 rw [I]
 have r:j'.op.kind=6:=by rw [a];exact f
 refine .call _ _ mh.two a (show (9:Int)≠0 by decide) (λM O=>?_) λB=>.b9 N lv c rfl r u L (by show Rf _ e i j'.op lv N c;rw [a];exact g.go G B s) y (by show (lv:Int)<j'.op.dz;rw [a];omega) (Aw.go2 H s z mh.two λh=>absurd h (by show ¬((3:Int)=7\/(3:Int)=9);decide))
 all_goals grind [kY]
theorem TP {j':Jb} (H:EI n e S.p S.T S.own S.A) (G:Li S.p S.own S.G) (z:i<n) (J:S.T i=(l0,.idle x)) (d:j'.op=j.op) (F:j.op.bP) (r:j.op.kind=6) (A:j'.node=rf N) (E:j'.cl=some c) (u:j'.level=lv) (f:(lv:Int)<j.op.dz) (y:Rf S e i j.op lv N c) (I:Ptr S lv N (c.sp lv).cur) (T:aQ j (.idle x)=some N):JN S n e i l0 j (.idle x) j'.up:=by
 have a:lv<3:=by have:=(iH F r).2;omega
 have L:j'.up=({j' with at':=11},fM (c.sp lv).a (c.sp lv).cur (cB (c.sp lv).cur (rf N))):=by
  exact Prod.ext rfl (show fM (j'.place j'.level).a (j'.place j'.level).cur (cB (j'.place j'.level).cur j'.node)=_ by rw [TN E u a,A])
 rw [L]
 obtain ⟨P,O,-⟩:=(y.sp lv (Nat.le_refl _) a).1.ex
 have s:nQ (fM (c.sp lv).a (c.sp lv).cur (cB (c.sp lv).cur (rf N))):=by rw [O];exact (QN a).two
 have g:j'.op.kind=6:=by rw [d];exact r
 refine .call _ _ s d (show (11:Int)≠0 by decide) (λM Q=>?_) λB=>.b11 N lv c rfl g A E u (by show (lv:Int)<j'.op.dz;rw [d];exact f) (λ_=>⟨by show Rf _ e i j'.op lv N c;rw [d];exact y.go G B z,I⟩) (Aw.go2 H z J s λh=>absurd h (by show ¬((5:Int)=7\/(5:Int)=9);decide))
 all_goals grind [kY]
theorem yh {j':Jb} (H:EI n e S.p S.T S.own S.A) (r:i<n) (z:S.T i=(l0,.idle x)) (d:j'.op=j.op) (u:j.op.kind=7) (s:j'.node=rf N) (y:Fn S e i j.op.key N) (g:j'.level=lv) (a:(lv:Int)<S.G.ht N) (A:∀k:Nat,lv<k->(k:Int)<S.G.ht N->(S.c k N).mark=true):JN S n e i l0 j (.idle x) j'.look:=by
 have E:j'.look=({j' with at':=4},gH (na N (2+lv))):=by
  exact Prod.ext rfl (show gH (j'.field (2+j'.level))=_ by rw [nS s,g])
 rw [E]
 have f:j'.op.kind=7:=by rw [d];exact u
 refine .call _ _ mh.two d (show (4:Int)≠0 by decide) (λM F=>?_) λB=>.d4 N lv rfl f s (by show Fn _ e i j'.op.key N;rw [d];exact y.go B r) g a A (Aw.go2 H r z mh.two λh=>absurd h (by show ¬((3:Int)=7\/(3:Int)=9);decide))
 all_goals grind [vX]
theorem MW (H:EI n e S.p S.T S.own S.A) (y:Li S.p S.own S.G) (z:i<n) (A:S.T i=(l0,.idle x)) (a:j.op.kind=6\/j.op.kind=7) (E:j.node=rf N) (hd:(S.dn N).num≠0) (u:Tg S (j.op.key+1) (some N)) (I:aQ j (.idle x)=some N):JN S n e i l0 j (.idle x) ((j.gq 103 (j.op.key+1)).qb x):=by
 obtain ⟨q,F,g,d,r⟩:=pz (j:=j) (s:=103) (b:=j.op.key+1) (τ:=some N) (f:=λj=>j.ask 104 {Ca.of 10 with ay:=j.node}) H y z A
 unfold Jb.qb
 rw [g]
 refine .call _ _ d.two rfl (show (103:Int)≠0 by decide) (λM G=>?_) λB=>.c3 N rfl a E hd u (r B)
 all_goals grind [sH]
theorem QV {j':Jb} (H:EI n e S.p S.T S.own S.A) (T:Li S.p S.own S.G) (y:i<n) (Z:S.T i=(l0,.idle x)) (d:j'.op=j.op) (hg:j.op.bP) (O:j.op.kind=6) (z:j'.node=rf N) (F:Hd S i N) (Q:lI S N j.op.key) (L:uV S N j.op.dz) (A:j'.cl=some c) (E:CE S e i j.op.key none c) (W:c.found.slot=0) (Y:j'.level=lv)
  (hle:(lv:Int)<=j.op.dz) (U:∀k,k<lv->Ptr S k N (c.sp k).cur):JN S n e i l0 j (.idle x) j'.tie:=by
 have hgt:=iH hg O
 have r:j'.op.kind=6:=by rw [d];exact O
 unfold Jb.tie
 rw [d,Y]
 by_cases f:(lv:Int)<j.op.dz
 ·rw [if_pos f]
  have J:lv<3:=by omega
  have G:j'.ask 7 (si (j'.field (2+(lv:Int))) (j'.place lv).cur.bN)=({j' with at':=7},si (na N (2+lv)) (c.sp lv).cur.bN):=by rw [nS z,LH A J];rfl
  rw [G]
  have u:nQ (si (na N (2+lv)) (c.sp lv).cur.bN):=J3 F.s ⟨by omega,by omega⟩
  refine .call _ _ u d (show (7:Int)≠0 by decide) (λM s=>?_) λB=>.a7 N lv c rfl r z F.go (by show lI _ N j'.op.key;rw [d];exact Q) (by show uV _ N j'.op.dz;rw [d];exact L) A (by show CE _ e i j'.op.key none c;rw [d];exact E.go T B y) W Y (by show (lv:Int)<j'.op.dz;rw [d];exact f) U (Aw.go2 H y Z u λh=>absurd h (by show ¬((4:Int)=7\/(4:Int)=9);decide))
  all_goals grind [jg]
 ·rw [if_neg f]
  have G:j'.ask 8 (fM (j'.place 0).a (j'.place 0).cur (cB (j'.place 0).cur j'.node))=({j' with at':=8},fM (c.sp 0).a (c.sp 0).cur (cB (c.sp 0).cur (rf N))):=Prod.ext rfl (show fM (j'.place 0).a (j'.place 0).cur (cB (j'.place 0).cur j'.node)=_ by rw [show j'.place 0=c.sp 0 from LH (k:=0) A (by decide),z])
  rw [G]
  obtain ⟨P,I,-⟩:=(E.sp 0 (by decide)).1.ex
  have I:(c.sp 0).a=ad 0 P:=I
  have u:nQ (fM (c.sp 0).a (c.sp 0).cur (cB (c.sp 0).cur (rf N))):=by rw [I];exact (QN (by decide)).two
  refine .call _ _ u d (show (8:Int)≠0 by decide) (λM s=>?_) λB=>.a8 N c rfl r z A (λ_=>⟨F.go,by show lI _ N j'.op.key;rw [d];exact Q,by show uV _ N j'.op.dz;rw [d];exact L,by show CE _ e i j'.op.key none c;rw [d];exact E.go T B y,W,λk g=>U k (by have g:(k:Int)<j'.op.dz:=g;rw [d] at g;omega)⟩) (Aw.go2 H y Z u λh=>absurd h (by show ¬((5:Int)=7\/(5:Int)=9);decide))
  obtain ⟨a,ha⟩:=abA (l0:=l0) (q:=fM (c.sp 0).a (c.sp 0).cur (cB (c.sp 0).cur (rf N))) rfl
  rw [ha] at s
  unfold aQ at s
  rw [if_neg (by show ¬(j'.op.kind≠6/\_);omega),if_neg (show ¬((8:Int)=101\/(8:Int)=103) by decide),if_neg (show ¬(8:Int)=102 by decide),if_pos r,if_pos rfl] at s
  cases s
end
section
variable {S S':St} {n:Nat} {e:Int} {i m l k lv:Nat} {b:Int} {τ tk tok:Option Nd} {P C D N X:Nd} {w cur:Wd} {c:Cm} {x:Rp} {K:List Nat} {ok:List Nat->Prop} {l0:Lo} {t t':RT} {q:Ca} {R R':Rp->Prop} {p p':PS} {h:LR} {j:Jb} {o:Op} {v:Vk} {V V':Nat->Vk}
theorem alf (y:Li S.p S.own S.G) (g:CE S e i o.key none c) (d:Rt S o lv N) (z:c.found=rf N):Rf S e i o lv N c:=by
 refine ⟨d,λk G f=>⟨(g.sp k f).1,λC u H B=>?_⟩⟩
 have O:=d.s
 obtain ⟨F,E,J,Q,L,I⟩:=g.fd (by rw [z];show N.s≠0;omega)
 have s:N=F:=ale (by rw [<-z];exact E)
 subst s
 have r:=(g.sp k f).1.ay u H
 have a:=y.fB r
 have M:=I k (by have:=d.le;omega) f C u a (B.trans L.symm)
 have A:S.G.seq C≠S.G.seq N:=λq=>by
  have:=y.sj C N a J q
  rw [this] at r
  exact d.no k G r
 omega
theorem ae2 (h:j.op.bP):j.op.kind=6\/j.op.kind=7\/j.op.kind=8:=by
 have h:=h.2
 all_goals grind
theorem JI.next (h:JI S e i j) (hg:j.op.bP) (H:EI n e S.p S.T S.own S.A) (hL:Li S.p S.own S.G) (J:i<n) (O:S.T i=(l0,.idle x)) (hD:∀N,aQ j (.idle x)=some N->Pb S.p S.own N/\((S.dn N).num≠0->(S.c 0 N).mark=true)):JN S n e i l0 j (.idle x) (j.next x):=by
 have ai:∀{q:Ca} {R:Rp->Prop},Aw e i S.p q R (S.T i)->R x:=λ{q R} ha=>vW ha O
 have Ia:∀{k:Int},k≠7->k≠9->¬(k=7\/k=9):=λ{k} a b h=>h.elim a b
 have Ew:∀{b:Int} {τ:Option Nd} {f:Jb->Jb × Ca},fV S e i b τ j->(∃q u,j.walk x f=({j with cl:=some u},q)/\qy q/\(Bg S n e i l0 q->fV (S.go i (RT.begin l0 q)) e i b τ {j with cl:=some u}))\/∃u,j.walk x f=f {j with cl:=some u}/\CE S e i b τ u:=λ{b τ f} Y=>by
  obtain ⟨c,z,A⟩:=abz Y H hL J O
  exact YT z A
 have awT:∀{q:Ca},nQ q->Aw e i (S.go i (RT.begin l0 q)).p q (λ_=>True) ((S.go i (RT.begin l0 q)).T i):=by grind [Aw.go2]
 have tgN:∀{N:Nd},aQ j (.idle x)=some N->S.G.aj 0 N->S.G.key N=j.op.key->(S.dn N).num≠0->Tg S (j.op.key+1) (some N):=λ{N} I r hy hd D hDN=>by
  cases hDN
  obtain ⟨a,b⟩:=hD N I
  exact ⟨r,a.lv,b hd,by rw [hy]⟩
 have hal:∀{f:Bool},x.ok=f->f=false->YP S (S.T i):=λ{f} z A y hy=>by
  rw [O] at hy
  cases hy
  rw [z,A]
 cases h with
 | Ga r I =>
  rcases ae2 hg with d | d | d
  ·rw [nR d (by omega)]
   unfold Jb.insert
   rw [if_pos r]
   have W:nQ (Ca.of 8):=TM (k:=8) (w:=Wd.zero) (.inl rfl)
   refine .call _ _ W rfl (show (1:Int)≠0 by decide) (λM E=>?_) λB=>.a1 rfl d (Aw.go2 H J O W λh=>absurd h (Ia (show (8:Int)≠7 by decide) (show (8:Int)≠9 by decide)))
   all_goals grind [jg]
  ·rw [qP d (by omega)]
   unfold Jb.remove
   rw [if_pos r]
   unfold Jb.uN
   obtain ⟨q,u,z,A,T⟩:=pz (j:=j) (s:=1) (b:=j.op.key) (τ:=none) (f:=λj=>if j.found.slot=0 then Jb.fin {j with node:=j.found} 2 0 else Jb.ask {j with node:=j.found} 2 (gH (wF j.found 6))) H hL J O
   rw [z]
   refine .call _ _ A.two rfl (show (1:Int)≠0 by decide) (λM E=>?_) λB=>.d1 rfl (.inl d) (T B)
   all_goals grind [vX]
  ·rw [H9 d (by omega)]
   unfold Jb.get
   rw [if_pos r]
   unfold Jb.uP
   obtain ⟨q,u,z,A,T⟩:=pz (j:=j) (s:=1) (b:=j.op.key) (τ:=none) (f:=λj=>if j.found.slot=0 then Jb.fin {j with node:=j.found} 2 0 else Jb.ask {j with node:=j.found} 2 (gH (wF j.found 1))) H hL J O
   rw [z]
   refine .call _ _ A.two rfl (show (1:Int)≠0 by decide) (λM E=>?_) λB=>.d1 rfl (.inr d) (T B)
   rw [zX (j:={j with at':=1,cl:=some u}) ⟨by show j.op.kind≠6;omega,by show j.op.kind≠7;omega⟩] at E
   cases E
 | a1 r d I =>
  have hr:=ai I
  rw [nR d (by omega)]
  unfold Jb.insert
  rw [iN,if_pos r]
  by_cases ho:x.ok=false
  ·rw [if_pos ho];exact rC
  rw [if_neg ho]
  obtain ⟨N,n1,n2⟩:=hr (by simpa using ho)
  rw [n1,V4]
  have W:nQ (si (na N 0) (Wd.ig j.op.key)):=J3 n2.s ⟨by decide,by decide⟩
  refine .call _ _ W rfl (show (2:Int)≠0 by decide) (λM E=>?_) λB=>.a2 N rfl d rfl n2.go (Aw.go2 H J O W λh=>absurd h (Ia (show (4:Int)≠7 by decide) (show (4:Int)≠9 by decide)))
  all_goals grind [jg,rf]
 | a2 N r d g hh I =>
  have hr:=ai I
  rw [nR d (by omega)]
  unfold Jb.insert
  rw [iN,iN,if_pos r,nS g]
  have W:nQ (si (na N 1) (Wd.ig j.op.val)):=J3 hh.s ⟨by decide,by decide⟩
  refine .call _ _ W rfl (show (3:Int)≠0 by decide) (λM E=>?_) λB=>.a3 N rfl d g hh.go hr (awT W)
  all_goals grind [jg]
 | a3 N r d g hh g1 I =>
  rw [nR d (by omega)]
  unfold Jb.insert
  rw [iN,iN,iN,if_pos r,nS g]
  have W:nQ (si (na N 6) (Wd.ig j.op.dz)):=J3 hh.s ⟨by decide,by decide⟩
  refine .call _ _ W rfl (show (4:Int)≠0 by decide) (λM E=>?_) λB=>.a4 N rfl d g hh.go g1 (Aw.go2 H J O W λh=>absurd h (Ia (show (4:Int)≠7 by decide) (show (4:Int)≠9 by decide)))
  all_goals grind [jg]
 | a4 N r d g hh g1 I =>
  have hr:=ai I
  rw [nR d (by omega)]
  unfold Jb.insert
  rw [iN,iN,iN,iN,iN,iN,if_pos r]
  unfold Jb.qa
  obtain ⟨q,u,z,A,T⟩:=pz (j:=j) (s:=5) (b:=j.op.key) (τ:=none) (f:=λj=>if j.found.slot≠0 then j.ask 6 {Ca.of 9 with ay:=j.node} else Jb.tie {j with level:=0}) H hL J O
  rw [z]
  refine .call _ _ A.two rfl (show (5:Int)≠0 by decide) (λM E=>?_) λB=>.a5 N rfl d g hh.go g1 hr (T B)
  all_goals grind [jg]
 | a5 N r d g hh g1 u2 Y =>
  rw [nR d (by omega)]
  unfold Jb.insert
  rw [iN,iN,iN,iN,iN,iN,iN,if_pos r]
  unfold Jb.qa
  rcases Ew (f:=λj=>if j.found.slot≠0 then j.ask 6 {Ca.of 9 with ay:=j.node} else Jb.tie {j with level:=0}) Y with ⟨q,u,z,A,T⟩ | ⟨u,z,A⟩
  ·rw [z]
   refine .call _ _ A.two rfl (by show j.at'≠0;omega) (λM E=>?_) λB=>.a5 N r d g hh.go g1 u2 (T B)
   all_goals grind [jg]
  ·rw [z]
   simp only
   have pX:({j with cl:=some u}:Jb).found=u.found:=rfl
   rw [pX]
   by_cases G:u.found.slot≠0
   ·rw [if_pos G]
    have W:nQ {Ca.of 9 with ay:=rf N}:=TM (.inr rfl)
    have e1:({j with cl:=some u}:Jb).ask 6 {Ca.of 9 with ay:=j.node}=({j with cl:=some u,at':=6},{Ca.of 9 with ay:=rf N}):=Prod.ext rfl (show ({Ca.of 9 with ay:=j.node}:Ca)=_ by rw [g])
    rw [e1]
    refine .call _ _ W rfl (show (6:Int)≠0 by decide) (λM E=>?_) λB=>.a6 N rfl d g (.inr hh.go) (awT W)
    all_goals grind [jg]
   ·rw [if_neg G]
    exact QV (lv:=0) (c:=u) (j':={j with cl:=some u,level:=0}) H hL J O rfl hg d g hh g1 u2 rfl A (Decidable.not_not.1 G) rfl (by have:=(iH hg d).1;omega) (λk d=>absurd d (Nat.not_lt_zero _))
 | a6 N r d g hh I =>
  grind [nR,Jb.insert,rC]
 | a7 N lv c r d g hh g1 u2 Y hE G hl U hp I =>
  have hr:=ai I
  rw [nR d (by omega)]
  unfold Jb.insert
  rw [iN,iN,iN,iN,iN,iN,iN,iN,if_pos r]
  refine QV (lv:=lv+1) (c:=c) (j':={j with level:=j.level+1}) H hL J O rfl hg d g hh g1 u2 Y hE G (by show j.level+1=((lv+1:Nat):Int);omega) (by omega) (λk hk'=>?_)
  all_goals grind
 | a8 N c r d g Y hh I =>
  have hr:=ai I
  rw [nR d (by omega)]
  unfold Jb.insert
  rw [iN,iN,iN,iN,iN,if_pos r]
  by_cases ho:x.ok=true
  ·grind [yg,QR]
  ·rw [if_neg ho]
   obtain ⟨q1,q2,q3,-⟩:=hh (hal (f:=false) (by simpa using ho) rfl)
   unfold Jb.qa
   obtain ⟨q,u,z,A,T⟩:=pz (j:=j) (s:=5) (b:=j.op.key) (τ:=none) (f:=λj=>if j.found.slot≠0 then j.ask 6 {Ca.of 9 with ay:=j.node} else Jb.tie {j with level:=0}) H hL J O
   rw [z]
   refine .call _ _ A.two rfl (show (5:Int)≠0 by decide) (λM E=>?_) λB=>.a5 N rfl d g q1.go q2 q3 (T B)
   all_goals grind [jg]
 | b9 N lv c r d g Y hr hl U I =>
  have L:=ai I
  have Q:aQ j (.idle x)=some N:=kY d g (by omega)
  have hlv:lv<3:=by have:=(iH hg d).2;omega
  rw [BX d (by omega)]
  unfold Jb.raise
  rw [if_pos r]
  have Z:=hr.aj 0 (by have:=hr.le;omega)
  by_cases hm:x.word.mark=true
  ·rw [if_pos hm]
   have:=yf (N:=N) (j:=j) (j':=j) H J O rfl (.inl d) g Z hr.key Q
   rw [d] at this
   exact this
  rw [if_neg hm,TN Y hl hlv]
  by_cases hrf:x.word.bN≠(c.sp lv).cur.bN
  ·rw [if_pos hrf]
   have e1:j.ask 10 (fM (j.field (2+j.level)) x.word (cB x.word (c.sp lv).cur))=({j with at':=10},fM (na N (2+lv)) x.word (cB x.word (c.sp lv).cur)):=Prod.ext rfl (show fM (j.field (2+j.level)) x.word (cB x.word (c.sp lv).cur)=_ by rw [nS g,hl])
   rw [e1]
   have W:nQ (fM (na N (2+lv)) x.word (cB x.word (c.sp lv).cur)):=LG hr.s ⟨by omega,by omega⟩
   refine .call _ _ W rfl (show (10:Int)≠0 by decide) (λM E=>?_) λB=>.b10 N lv c x.word rfl d g Y (hr.go hL B J) hl U (by simpa using hm) (Aw.go2 H J O W λh=>absurd h (Ia (show (5:Int)≠7 by decide) (show (5:Int)≠9 by decide)))
   all_goals grind [kY]
  all_goals grind [TP]
 | b10 N lv c w r d g Y hr hl U hm I =>
  grind [aQ,kY,BX,Jb.raise,yg,TP]
 | b11 N lv c r d g Y hl U hh I =>
  have L:=ai I
  have Q:aQ j (.idle x)=some N:=kY d g (by omega)
  rw [BX d (by omega)]
  unfold Jb.raise
  rw [iN,iN,if_pos r]
  by_cases ho:x.ok=true
  ·rw [if_pos ho]
   exact yg (lv:=lv+1) (j':={j with level:=j.level+1}) H hL J O rfl hg d g Y (by show j.level+1=((lv+1:Nat):Int);omega) (L ho) Q
  ·rw [if_neg ho]
   obtain ⟨q1,-⟩:=hh (hal (f:=false) (by simpa using ho) rfl)
   unfold Jb.qF
   obtain ⟨q,u,z,A,T⟩:=pz (j:=j) (s:=12) (b:=j.op.key) (τ:=none) (f:=λj=>if j.found≠j.node.bN then j.part 1 else j.link) H hL J O
   rw [z]
   refine .call _ _ A.two rfl (show (12:Int)≠0 by decide) (λM E=>?_) λB=>.b12 N lv rfl d g q1.toRt.go hl U (T B)
   all_goals grind [kY]
 | b12 N lv r d g hr hl U Y =>
  have Q:aQ j (.idle x)=some N:=kY d g (by omega)
  have Z:=hr.aj 0 (by have:=hr.le;omega)
  rw [BX d (by omega)]
  unfold Jb.raise
  rw [iN,iN,iN,if_pos r]
  unfold Jb.qF
  rcases Ew (f:=λj=>if j.found≠j.node.bN then j.part 1 else j.link) Y with ⟨q,u,z,A,T⟩ | ⟨u,z,A⟩
  ·rw [z]
   refine .call _ _ A.two rfl (by show j.at'≠0;omega) (λM E=>?_) λB=>.b12 N lv r d g hr.go hl U (T B)
   all_goals grind [kY]
  ·rw [z]
   simp only
   have pX:({j with cl:=some u}:Jb).found=u.found:=rfl
   rw [pX]
   by_cases G:u.found≠j.node.bN
   ·rw [if_pos G]
    have:=yf (N:=N) (j:=j) (j':={j with cl:=some u}) H J O rfl (.inl d) g Z hr.key Q
    rw [d] at this
    exact this
   ·rw [if_neg G]
    exact yg (lv:=lv) (c:=u) (j':={j with cl:=some u}) H hL J O rfl hg d g rfl hl (alf hL A hr (by rw [Decidable.not_not.1 G,g];rfl)) Q
 | c1 N r d hb g Z hy I =>
  have L:=ai I
  have Q:aQ j (.idle x)=some N:=sH d g (.inl r)
  rw [BV (by omega)]
  unfold Jb.finish
  rw [if_pos r]
  by_cases hz:x.word.num=0
  ·rw [if_pos hz]
   have e1:j.ask 102 (fM (j.field 7) x.word (uT x.word j.by'))=({j with at':=102},fM (na N 7) x.word (uT x.word j.by')):=Prod.ext rfl (show fM (j.field 7) x.word (uT x.word j.by')=_ by rw [nS g])
   rw [e1]
   have hN1:=(hL.nz N Z).1
   have W:nQ (fM (na N 7) x.word (uT x.word j.by')):=LG hN1 ⟨by decide,by decide⟩
   refine .call _ _ W rfl (show (102:Int)≠0 by decide) (λM E=>?_) λB=>.c2 N x.word rfl d hb g Z hy hz (λ_=>L) (Aw.go2 H J O W λh=>absurd h (Ia (show (5:Int)≠7 by decide) (show (5:Int)≠9 by decide)))
   obtain ⟨a,ha⟩:=abA (l0:=l0) (q:=fM (na N 7) x.word (uT x.word j.by')) rfl
   all_goals grind [Ev]
  all_goals grind [MW]
 | c2 N w r d hb g Z hy hw hd I =>
  grind [BV,Jb.finish,rC,aQ,Ev,MW]
 | c3 N r d g hd eH Y =>
  have Q:aQ j (.idle x)=some N:=sH d g (.inr r)
  rw [BV (by omega)]
  unfold Jb.finish
  rw [iN,iN,iN]
  unfold Jb.qb
  rcases Ew (f:=λj=>j.ask 104 {Ca.of 10 with ay:=j.node}) Y with ⟨q,u,z,A,T⟩ | ⟨u,z,A⟩
  ·rw [z]
   refine .call _ _ A.two rfl (by show j.at'≠0;omega) (λM E=>?_) λB=>.c3 N r d g hd eH (T B)
   all_goals grind [sH]
  ·rw [z]
   simp only
   have e1:({j with cl:=some u}:Jb).ask 104 {Ca.of 10 with ay:=j.node}=({j with cl:=some u,at':=104},{Ca.of 10 with ay:=rf N}):=Prod.ext rfl (show ({Ca.of 10 with ay:=j.node}:Ca)=_ by rw [g])
   rw [e1]
   exact .ret _ N rfl rfl g d Q hd λk d=>(A.sp k d).2 N rfl
 | c4 N r d g I =>
  grind [BV,Jb.finish,rC]
 | d1 r d Y =>
  rcases d with d | d
  ·rw [qP d (by omega)]
   unfold Jb.remove
   rw [iN,if_pos r]
   unfold Jb.uN
   rcases Ew (f:=λj=>if j.found.slot=0 then Jb.fin {j with node:=j.found} 2 0 else Jb.ask {j with node:=j.found} 2 (gH (wF j.found 6))) Y with ⟨q,u,z,A,T⟩ | ⟨u,z,A⟩
   ·rw [z]
    refine .call _ _ A.two rfl (by show j.at'≠0;omega) (λM E=>?_) λB=>.d1 r (.inl d) (T B)
    all_goals grind [vX]
   ·rw [z]
    simp only
    have pX:({j with cl:=some u}:Jb).found=u.found:=rfl
    rw [pX]
    by_cases G:u.found.slot=0
    ·rw [if_pos G];exact rC
    ·rw [if_neg G]
     obtain ⟨F,f1,f2,f3,f4,f5⟩:=A.fd G
     have hfn:Fn S e i j.op.key F:=⟨f3,f2,f4⟩
     have f1:u.found=rf F:=f1
     rw [f1,V4]
     refine .call _ _ mh.two rfl (show (2:Int)≠0 by decide) (λM E=>?_) λB=>.d2 F rfl d rfl (hfn.go B J) (Aw.go2 H J O mh.two λh=>absurd h (Ia (show (3:Int)≠7 by decide) (show (3:Int)≠9 by decide)))
     all_goals grind [vX,rf]
  ·rw [H9 d (by omega)]
   unfold Jb.get
   rw [iN,if_pos r]
   unfold Jb.uP
   rcases Ew (f:=λj=>if j.found.slot=0 then Jb.fin {j with node:=j.found} 2 0 else Jb.ask {j with node:=j.found} 2 (gH (wF j.found 1))) Y with ⟨q,u,z,A,T⟩ | ⟨u,z,A⟩
   ·rw [z]
    refine .call _ _ A.two rfl (by show j.at'≠0;omega) (λM E=>?_) λB=>.d1 r (.inr d) (T B)
    rw [zX (j:={j with cl:=some u}) ⟨by show j.op.kind≠6;omega,by show j.op.kind≠7;omega⟩] at E
    cases E
   ·rw [z]
    simp only
    have pX:({j with cl:=some u}:Jb).found=u.found:=rfl
    rw [pX]
    by_cases G:u.found.slot=0
    ·rw [if_pos G];exact rC
    ·rw [if_neg G]
     obtain ⟨F,f1,f2,f3,f4,f5⟩:=A.fd G
     have hfn:Fn S e i j.op.key F:=⟨f3,f2,f4⟩
     have f1:u.found=rf F:=f1
     rw [f1,V4]
     refine .call _ _ mh.two rfl (show (2:Int)≠0 by decide) (λM E=>?_) λB=>.g2 F rfl d rfl (hfn.go B J) (awT mh.two)
     rw [zX (j:={j with cl:=some u,node:=rf F,at':=2}) ⟨by show j.op.kind≠6;omega,by show j.op.kind≠7;omega⟩] at E
     cases E
 | d2 N r d g G I =>
  have L:=ai I
  rw [qP d (by omega)]
  unfold Jb.remove
  rw [iN,iN,if_pos r,L]
  have z:=hL.hi 0 N G.aj
  have T:=(hL.nz N G.aj).2.2.2
  rw [iN]
  have e1:({j with level:=S.G.ht N-1}:Jb).ask 3 (gH (j.field 1))=({j with level:=S.G.ht N-1,at':=3},gH (na N 1)):=Prod.ext rfl (show gH (j.field 1)=_ by rw [nS g])
  have e2:({j with level:=S.G.ht N-1}:Jb).ask 3 (gH (({j with level:=S.G.ht N-1}:Jb).field 1))=({j with level:=S.G.ht N-1,at':=3},gH (na N 1)):=e1
  refine (e1 ▸ ?_:JN S n e i l0 j (.idle x) (({j with level:=S.G.ht N-1}:Jb).ask 3 (gH (j.field 1))))
  refine .call _ _ mh.two rfl (show (3:Int)≠0 by decide) (λM E=>?_) λB=>.d3 N (S.G.ht N-1).toNat rfl d g (G.go B J) (by show S.G.ht N-1=_;omega) (by show (((S.G.ht N-1).toNat:Nat):Int)+1=S.G.ht N;omega) (awT mh.two)
  rw [vX (j:={j with level:=S.G.ht N-1,at':=3}) d (show (3:Int)<5 by decide) (show (0:Int)<=3 by decide)] at E
  cases E
 | d3 N lv r d g G hl U I =>
  grind [qP,Jb.remove,yh,Wb.num]
 | d4 N lv r d g G hl U hm I =>
  have L:=ai I
  have hlv:lv<3:=by have:=(hL.nz N G.aj).2.2.2;omega
  rw [qP d (by omega)]
  unfold Jb.remove
  rw [iN,iN,iN,iN,if_pos r]
  by_cases hw:x.word.mark=false
  ·rw [if_pos hw]
   have e1:j.ask 5 (fM (j.field (2+j.level)) x.word (uS x.word))=({j with at':=5},fM (na N (2+lv)) x.word (uS x.word)):=Prod.ext rfl (show fM (j.field (2+j.level)) x.word (uS x.word)=_ by rw [nS g,hl])
   rw [e1]
   have W:nQ (fM (na N (2+lv)) x.word (uS x.word)):=LG (hL.nz N G.aj).1 ⟨by omega,by omega⟩
   refine .call _ _ W rfl (show (5:Int)≠0 by decide) (λM E=>?_) λB=>.d5 N lv x.word rfl d g (G.go B J) hl U hm hw ⟨L.le,L.eq,L.mr⟩ (Aw.go2 H J O W λh=>absurd h (Ia (show (5:Int)≠7 by decide) (show (5:Int)≠9 by decide)))
   obtain ⟨a,ha⟩:=abA (l0:=l0) (q:=fM (na N (2+lv)) x.word (uS x.word)) rfl
   rw [ha] at E
   unfold aQ at E
   rw [if_neg (by show ¬(j.op.kind≠6/\j.op.kind≠7);omega),if_neg (show ¬((5:Int)=101\/(5:Int)=103) by decide),if_neg (show ¬(5:Int)=102 by decide),if_neg (by show ¬j.op.kind=6;omega),if_pos rfl,if_neg (λh=>by have:=h.1;cases this)] at E
   cases E
  ·rw [if_neg hw]
   by_cases hz:j.level=0
   ·rw [if_pos hz];exact rC
   ·rw [if_neg hz]
    have hml:(S.c lv N).mark=true:=by rw [<-L.mr (by simpa using hw)];simpa using hw
    refine yh (lv:=lv-1) (j':={j with level:=j.level-1}) H J O rfl d g G (by show j.level-1=((lv-1:Nat):Int);omega) (by omega) (λk a b=>?_)
    all_goals grind
 | d5 N lv w r d g G hl U hm hw hsn I =>
  have L:=ai I
  rw [qP d (by omega)]
  unfold Jb.remove
  rw [iN,iN,iN,iN,iN,if_pos r]
  by_cases ho:x.ok=false
  ·grind [yh]
  rw [if_neg ho]
  have ho':x.ok=true:=by simpa using ho
  have hml:=L ho'
  by_cases hz:j.level > 0
  ·rw [if_pos hz]
   refine yh (lv:=lv-1) (j':={j with level:=j.level-1}) H J O rfl d g G (by show j.level-1=((lv-1:Nat):Int);omega) (by omega) (λk a b=>?_)
   all_goals grind
  ·rw [if_neg hz]
   have Q:aQ j (.idle x)=some N:=by
    unfold aQ
    rw [g]
    rw [iN,iN,iN,iN,if_pos r,if_pos ⟨H7.2 ⟨x,rfl,ho'⟩,by omega⟩]
    rfl
   unfold Jb.uO
   obtain ⟨q,u,z,A,T⟩:=pz (j:=j) (s:=6) (b:=j.op.key+1) (τ:=none) (f:=λj=>j.part 2) H hL J O
   rw [z]
   refine .call _ _ A.two rfl (show (6:Int)≠0 by decide) (λM E=>?_) λB=>.d6 N rfl d g G.aj G.key (T B)
   all_goals grind [QS]
 | d6 N r d g Z hy Y =>
  have Q:aQ j (.idle x)=some N:=QS d g r
  rw [qP d (by omega)]
  unfold Jb.remove
  rw [iN,iN,iN,iN,iN,iN,if_pos r]
  unfold Jb.uO
  rcases Ew (f:=λj=>j.part 2) Y with ⟨q,u,z,A,T⟩ | ⟨u,z,A⟩
  ·rw [z]
   refine .call _ _ A.two rfl (by show j.at'≠0;omega) (λM E=>?_) λB=>.d6 N r d g Z hy (T B)
   all_goals grind [QS]
  ·rw [z]
   have:=yf (N:=N) (j:=j) (j':={j with cl:=some u}) H J O rfl (.inr d) g Z hy Q
   rw [d] at this
   exact this
 | g2 N r d g G I =>
  grind [H9,Jb.get,rC]
end
def Vk.fQ (v:Vk) (x:Rp):Vk :=
 match v.j with
 | none =>
  if v.aj=true then ({v with aj:=false}:Vk).with (RT.begin v.l (Ca.of 2))
  else if ¬v.op.bP then {v with said:=v.said ++ [(0,0)]}
  else ({v with j:=some (Jb.new v.op),aj:=true}:Vk).with (RT.begin v.l (Ca.of 1))
 | some j=>if (j.next x).2.kind=12 then {v with said:=v.said ++ [((j.next x).2.code,(j.next x).2.val)],j:=none} else ({v with j:=some (j.next x).1}:Vk).with (RT.begin v.l (j.next x).2)
def Vk.done (v:Vk):Prop:=v.t.aH=0/\v.j=none/\v.aj=false/\v.said.length>=v.ops.length
def Vk.may (v:Vk) (x:Rp):Prop :=
 match v.j with
 | none=>v.aj=true\/(v.aj=false/\v.said.length<v.ops.length)
 | some j=>((j.next x).2.kind=12->v.said.length<v.ops.length)/\((j.next x).2.kind≠12->(j.next x).2.OK)
section
variable {S S':St} {n:Nat} {e:Int} {i m l k lv:Nat} {b:Int} {τ tk tok:Option Nd} {P C D N X:Nd} {w cur:Wd} {c:Cm} {x:Rp} {K:List Nat} {ok:List Nat->Prop} {l0:Lo} {t t':RT} {q:Ca} {R R':Rp->Prop} {p p':PS} {h:LR} {j:Jb} {o:Op} {v:Vk} {V V':Nat->Vk}
theorem kD {c:Prop} [Decidable c] {a b:LR} (f:c->a.1.s.is=true) (d:¬c->b.1.s.is=true):(if c then a else b).1.s.is=true:=by
 grind
theorem YU (h:l0.s.is=true) (f:q.kind≠2):(RT.begin l0 q).1.s.is=true:=by
 have a:∀l:Lo,l.s.is=true->(RT.scan l).1.s.is=true:=λl h=>kD (λ_=>h) λ_=>kD (λ_=>h) λ_=>h
 have d:∀l:Lo,l.s.is=true->(RT.bQ l).1.s.is=true:=λl h=>kD (λ_=>a l h) λ_=>h
 exact kD (λ_=>kD (λ_=>h) λ_=>h) λ_=>kD (λk=>absurd k f) λ_=>kD (λ_=>h) λ_=>kD (λ_=>h) λ_=>kD (λ_=>h) λ_=>kD (λ_=>h) λ_=>kD (λ_=>kD (λ_=>h) λ_=>h) λ_ =>
  kD (λ_=>kD (λ_=>h) λ_=>h) λ_=>kD (λ_=>h) λ_=>kD (λ_=>kD (λ_=>d _ h) λ_=>kD (λ_=>h) λ_=>kD (λ_=>h) λ_=>h) λ_=>a l0 h
theorem ae3:aQ (Jb.new o) t=none:=by
 by_cases d:o.kind=6
 ·grind [jg,Jb.new]
 ·by_cases a:o.kind=7
  all_goals grind [vX,Jb.new,zX]
theorem aiQ (r:Li S.p S.own S.G) (g:∀j,j<n->∀K N,S.sf e j K N->(S.go m h).sf e j K N):Mid S (S.go m h) n e m none :=
 ⟨Mb.go r h,λi a=>Gd.bR _ _ a,λi a _ K N s=>g i a K N s,λi a d N f=>⟨f.go,λ_=>rfl⟩⟩
theorem Sy.go (H:Sy n e S V) (B:i<n) (g:EI n e (S.go i h).p (S.go i h).T (S.go i h).own (S.go i h).A) (y:∀j,j<n->∀K N,S.sf e j K N->(S.go i h).sf e j K N) (s:JV (S.go i h) e i v) (u:∀N,v.tok=some N->(V i).tok=some N/\v.kind=(V i).kind):Sy n e (S.go i h) (Gd.bD V i v):=by
 have M:=aiQ (h:=h) (m:=i) H.li y
 refine ⟨g,H.li,λk f=>?_,?_⟩
 ·by_cases d:k=i
  ·subst d
   rw [Gd.aG]
   exact s
  ·rw [Gd.bR _ _ d]
   exact H.others M (λa r A N z=>(H.di.tk a r N z).1) (λ_ _ _ _ _ _=>by simp) k f d
 ·refine H.di.mv H.li M.mb.B (λN h=>h) (λ_ _ N _ h=>h) (λN=>Iff.rfl) (λN _=>rfl) λk f N=>?_
  by_cases d:k=i
  ·subst d
   rw [Gd.aG]
   exact u N
  ·rw [Gd.bR _ _ d]
   exact λh=>⟨h,rfl⟩
theorem Sy.said (H:Sy n e S V) (r:i<n) (f:JV S e i v) (g:v.tok=none):Sy n e S (Gd.bD V i v):=by
 refine ⟨H.ei,H.li,λk d=>?_,?_⟩
 ·by_cases a:k=i
  ·subst a
   rw [Gd.aG]
   exact f
  ·rw [Gd.bR _ _ a]
   exact H.th k d
 ·refine H.di.mv H.li (nC.same rfl rfl) (λN h=>h) (λ_ _ N _ h=>h) (λN=>Iff.rfl) (λN _=>rfl) λk d N=>?_
  by_cases a:k=i
  ·subst a
   rw [Gd.aG,g]
   exact λh=>by cases h
  ·rw [Gd.bR _ _ a]
   exact λh=>⟨h,rfl⟩
theorem ae4 (H:Sy n e S V) (g:i<n) (f:(V i).tok=some N) (r:(V i).kind=6\/(V i).kind=7) (hd:(S.dn N).num≠0):(S.c 0 N).mark=true:=by
 obtain ⟨a,b,c,d⟩:=H.di.tk i g N f
 obtain ⟨d1,d2⟩:=H.di.dd N a b
 all_goals grind
theorem BZ (h:v.tok=some N):v.kind=6\/v.kind=7:=by
 unfold Vk.tok at h
 unfold Vk.kind
 cases a:v.j with
 | none=>rw [a] at h;cases h
 | some j =>
  rw [a] at h
  show j.op.kind=6\/j.op.kind=7
  by_cases d:j.op.kind≠6/\j.op.kind≠7
  all_goals grind [aQ,zX]
theorem Sy.ret (H:Sy n e S V) (I:i<n) (hx:S.T i=(l0,.idle x)) (hN:(V i).tok=some N) (hd:(S.dn N).num≠0) (hL:∀k,k<3->N ∉ S.G.L k) (hq:q={Ca.of 10 with ay:=rf N}) (ht:v.tok=none)
  (hJ:∀S',S'.p=S.p->S'.T i=RT.begin l0 q->Aw e i S'.p q (λ_=>True) (S'.T i)->JV S' e i v):∃S',S'.p=S.p/\Sy n e S' (Gd.bD V i v):=by
 obtain ⟨a,b,c,d⟩:=H.di.tk i I N hN
 have Y:q.kind=10:=by rw [hq];rfl
 have hN1:=(H.li.nz N b).1
 have hold:q.ay=rf N:=by rw [hq]
 obtain ⟨Z,ho1,W⟩:=H.ei.YC I hx Y (by rw [hold];exact a.1) (by rw [hold];exact a.2)
 have e1:q.ay.slot=N.s:=by rw [hold];rfl
 rw [e1] at W
 obtain ⟨S',y⟩:∃S':St,S'=⟨S.p,Gd.bD S.T i (RT.begin l0 q),λs=>if s=N.s then Z else S.own s,S.A,S.G⟩:=⟨_,rfl⟩
 have ap3:Z≠.free:=by rcases ho1 with h | h | h <;> rw [h] <;> simp
 have A:∀s,s≠N.s->S'.own s=S.own s:=by simp_all
 have apX:S'.own N.s=Z:=by rw [y];exact if_pos rfl
 have z:S'.p=S.p:=by rw [y]
 have J:S'.G=S.G:=by rw [y]
 have Q:∀X,Pb S'.p S'.own X->Pb S.p S.own X/\X≠N:=λX r=>by
  have B:X.s≠N.s:=λq=>by
   have:=r.1
   all_goals grind
  exact ⟨⟨by rw [<-A _ B];exact r.1,by rw [<-z];exact r.2⟩,λq=>B (by rw [q])⟩
 have G:∀X,Pb S.p S.own X->X≠N->Pb S'.p S'.own X:=λX r hn=>by
  have B:X.s≠N.s:=λq=>hn (r.lv.eq a.lv q)
  exact ⟨by rw [A _ B];exact r.1,by rw [z];exact r.2⟩
 have Cw:Li S'.p S'.own S'.G:=by
  rw [J]
  refine H.li.same (λk u X r=>G X (H.li.pb k u X r) λq=>hL k u (by rw [<-q];exact r)) (λX _ h=>⟨λq=>?_,by rw [<-z];exact h.2⟩) (λk u=>by rw [z]) (λX _ _ f _=>by rw [z]) (λf=>by rw [z];exact Int.le_refl _)
  by_cases hs:X.s=N.s
  ·rw [hs,a.1] at q;cases q
  ·exact h.1 ((A _ hs).trans q)
 have hB:nC S S' none:=nC.same z J
 have Gb:EI n e S'.p S'.T S'.own S'.A:=by rw [y];exact W.1
 have M:Mid S S' n e i none:=by
  refine ⟨⟨hB,H.li,Cw⟩,λk u=>by rw [y];exact Gd.bR _ _ u,λk u _ K X s=>by rw [y];exact W.2 k u K trivial _ _ s,λk u g X F=>⟨⟨F.s,?_,by rw [z];exact F.gen,by rw [J];exact F.no,by unfold St.dn;rw [z];exact F.dn,λm hm=>by unfold St.c;rw [z];exact F.mr m hm⟩,λf=>by rw [z]⟩⟩
  rw [A _ λq=>?_]
  ·exact F.own
  ·have:=F.own
   rw [q,a.1] at this
   cases this
 have O:∀k,k<n->k≠i->(V k).tok≠some N:=λk u g E=>by
  obtain ⟨a',b',c',d'⟩:=H.di.tk k u N E
  by_cases U:(V k).kind=(V i).kind
  ·exact g (H.di.un k i u I N E hN U)
  ·have h2:=BZ hN
   have h3:=BZ E
   have h4:=(H.di.dd N a b).1
   omega
 have fU:S'.T i=RT.begin l0 q:=by rw [y];exact Gd.aG _ _ _
 have T:Aw e i S'.p q (λ_=>True) (S'.T i):=by
  rw [fU,z]
  have L:=H.ei.loc i I
  rw [hx] at L
  exact Aw.begin L (V3 (S:=S) H.ei) (by rw [hq];exact nP ⟨⟨show (1:Int)<=10 by decide,show (10:Int)<=11 by decide⟩,z9,z9⟩) (λ_ _ _ _ _ _=>trivial) (by omega)
 refine ⟨S',z,Gb,Cw,λk u=>?_,?_⟩
 ·by_cases g:k=i
  ·subst g
   rw [Gd.aG]
   exact hJ S' z fU T
  ·rw [Gd.bR _ _ g]
   exact H.others M (λa ha hai X r=>G X (H.di.tk a ha X r).1 λq=>O a ha hai (by rw [<-q];exact r)) (λ_ _ _ _ _ _=>by simp) k u g
 ·refine H.di.mv H.li hB (λX r=>(Q X r).1) (λk u X r hp=>?_) (λX=>by rw [J]) (λX _=>by unfold St.dn;rw [z]) λk u X=>?_
  ·by_cases g:k=i
   ·subst g
    rw [Gd.aG,ht] at r
    cases r
   ·rw [Gd.bR _ _ g] at r
    all_goals grind
  ·by_cases g:k=i
   ·subst g
    rw [Gd.aG,ht]
    exact λh=>by cases h
   ·rw [Gd.bR _ _ g]
    exact λh=>⟨h,rfl⟩
theorem Sy.fQ (H:Sy n e S V) (u:i<n) (ht:(V i).t=.idle x) (hd:¬(V i).done):(V i).may x/\∃S',S'.p=S.p/\Sy n e S' (Gd.bD V i ((V i).fQ x)):=by
 have J:=H.th i u
 have z:S.T i=((V i).l,.idle x):=by rw [J.lr,ht]
 have hC:=V3 (S:=S) H.ei
 have L:=H.ei.loc i u
 rw [z] at L
 unfold Vk.may Vk.fQ
 rcases J.st with ⟨T,g2,Y⟩ | ⟨j,T,g2,Y,g4,g5,Z⟩
 ·rw [T]
  simp only
  by_cases f:(V i).aj=true
  ·rw [if_pos f]
   refine ⟨.inl f,S.go i (RT.begin (V i).l (Ca.of 2)),rfl,?_⟩
   have a:=H.ei.abm (c:=Ca.of 2) u z rfl
   refine H.go u a.1 (λj hj K N s=>a.2 j hj K trivial _ _ s) ⟨xk,J.ops,J.sl,.inl ⟨rfl,λq=>(by cases q),?_⟩⟩ (λN g=>by cases g)
   ·rw [xk]
    exact Aw.begin (p:=S.p) L hC (nP ⟨⟨show (1:Int)<=2 by decide,show (2:Int)<=11 by decide⟩,z9,z9⟩) (λ_ _ _ _ _ _=>trivial) (show (2:Int)≠11 by decide)
  rw [if_neg f]
  have A:(V i).aj=false:=by simpa using f
  have M:(V i).said.length<(V i).ops.length:=by
   rcases Nat.lt_or_ge (V i).said.length (V i).ops.length with h | h
   ·exact h
   ·exact absurd ⟨by rw [ht];rfl,T,A,h⟩ hd
  refine ⟨.inr ⟨A,M⟩,?_⟩
  by_cases d:¬(V i).op.bP
  ·rw [if_pos d]
   refine ⟨S,rfl,H.said u ⟨J.lr,J.ops,by show ((V i).said ++ [(0,0)]).length<=_;rw [List.length_append];exact M,.inl ⟨rfl,g2,Y⟩⟩ rfl⟩
  rw [if_neg d]
  refine ⟨S.go i (RT.begin (V i).l (Ca.of 1)),rfl,?_⟩
  have y:(Ca.of 1).OK:=nP ⟨⟨show (1:Int)<=1 by decide,show (1:Int)<=11 by decide⟩,z9,z9⟩
  have a:=H.ei.fQ (c:=Ca.of 1) u z y ⟨show (1:Int)≠2 by decide,show (1:Int)≠7 by decide,show (1:Int)≠10 by decide⟩ (λh=>absurd h (show ¬((1:Int)=4\/(1:Int)=5) by decide))
  refine H.go u a.1 (λj hj K N s=>a.2 j hj K trivial _ _ s) ⟨xk,J.ops,J.sl,.inr ⟨Jb.new (V i).op,rfl,rfl,Decidable.not_not.1 d,M,.Ga rfl ?_,?_⟩⟩ (λN g=>?_)
  ·rw [xk]
   exact Aw.begin (p:=S.p) L hC y (λ_ _ _ _ _ _=>trivial) (show (1:Int)≠11 by decide)
  ·rw [if_pos (show (Jb.new (V i).op).at'=0 from rfl),xk]
   intro O
   refine .inl ?_
   have hsp:=L.bJ.2 O
   show (RT.begin (V i).l (Ca.of 1)).2=.mW
   unfold RT.begin
   all_goals grind [Ca.of]
  ·have g:aQ (Jb.new (V i).op) (RT.begin (V i).l (Ca.of 1)).2=some N:=g
   rw [ae3] at g
   cases g
 ·rw [T]
  simp only
  have oD:(V i).tok=aQ j (.idle x):=by unfold Vk.tok;rw [T,ht]
  have F:(V i).kind=j.op.kind:=by unfold Vk.kind;rw [T]
  have f:Ins e (S.T i):=by
   by_cases Q:j.at'=0
   ·rw [if_pos Q] at Z
    intro O
    rcases Z O with h | h
    ·rw [z] at h;cases h
    ·exact h
   ·rw [if_neg Q] at Z
    exact Z
  have g:=g5.next Y H.ei H.li u z λN g=>by
   have I:(V i).tok=some N:=oD.trans g
   exact ⟨(H.di.tk i u N I).1,λhd=>ae4 H u I (BZ I) hd⟩
  generalize hr:j.next x=r at g
  cases g with
  | ans E q y =>
   simp only
   rw [if_pos y]
   refine ⟨⟨λ_=>g4,λh=>absurd y h⟩,S,rfl,H.said u ⟨J.lr,J.ops,by show ((V i).said ++ [_]).length<=_;rw [List.length_append];exact g4,.inl ⟨rfl,λ_=>⟨x,ht⟩,?_⟩⟩ rfl⟩
   rw [z]
   trivial
  | call E q y W Q G hJ =>
   simp only
   have U:q.kind≠12:=by have:=y.2.1;omega
   rw [if_neg U]
   have B:=aiO H.ei u z y
   refine ⟨⟨λh=>absurd h U,λ_=>y.1⟩,S.go i (RT.begin (V i).l q),rfl,H.go u B.ei B.sf ⟨xk,J.ops,J.sl,.inr ⟨E,rfl,g2,by rw [W];exact Y,g4,hJ B,?_⟩⟩ λN g=>?_⟩
   ·rw [if_neg Q,xk]
    intro O
    have:=f O
    rw [z] at this
    exact YU this (by have:=y.2.1;omega)
   ·have g:aQ E (RT.begin (V i).l q).2=some N:=g
    refine ⟨by rw [oD];exact G N g,?_⟩
    show E.op.kind=_
    rw [W,F]
  | ret E N Q W hn hk G hdn hL =>
   simp only
   rw [if_neg (show ¬(Ca.of 10).kind=12 by decide)]
   refine ⟨⟨λh=>absurd h (show ¬(10:Int)=12 by decide),λ_=>nP ⟨⟨show (1:Int)<=10 by decide,show (10:Int)<=11 by decide⟩,z9,z9⟩⟩,?_⟩
   refine H.ret (q:={Ca.of 10 with ay:=rf N}) u z (oD.trans G) hdn hL rfl ?_ λS' hP hT hAw=>?_
   ·show aQ E _=none
    all_goals grind [aQ]
   ·refine ⟨hT,J.ops,J.sl,.inr ⟨E,rfl,g2,by rw [W];exact Y,g4,.c4 N Q (by rw [W];exact hk) hn hAw,?_⟩⟩
    rw [iN,hT]
    intro O
    have:=f O
    rw [z] at this
    exact YU this (show (10:Int)≠2 by decide)
end
section
variable {S S':St} {n:Nat} {e:Int} {i m l k lv:Nat} {b:Int} {τ tk tok:Option Nd} {P C D N X:Nd} {w cur:Wd} {c:Cm} {x:Rp} {K:List Nat} {ok:List Nat->Prop} {l0:Lo} {t t':RT} {q:Ca} {R R':Rp->Prop} {p p':PS} {h:LR} {j:Jb} {o:Op} {v:Vk} {V V':Nat->Vk} {a:Ac}
theorem Hd.of (d:Hd S i N) (s:S'.own N.s=S.own N.s) (u:S'.p.gen (N.s-1).toNat=S.p.gen (N.s-1).toNat) (y:S'.G.aj 0 N->S.G.aj 0 N) (g:∀f,S'.p.cell (N.s-1).toNat f=S.p.cell (N.s-1).toNat f):Hd S' i N :=
 ⟨d.s,s.trans d.own,u.trans d.gen,λh=>d.no (y h),by unfold St.dn;rw [g];exact d.dn,λk r=>by rw [d.ce g];exact d.mr k r⟩
theorem Qx.hd (Q:Qx S S' n e m l0 t x) (d:Hd S i N):Hd S' i N/\∀f,S'.p.cell (N.s-1).toNat f=S.p.cell (N.s-1).toNat f:=by
 have g:=Q.cl N.s i d.s d.own
 exact ⟨d.of (by rw [Q.own]) (by rw [Q.gen]) (Q.aj 0 N).1 g,g⟩
theorem Qx.mid (Q:Qx S S' n e m l0 t x):Mid S S' n e m none :=
 ⟨Q.mb,λi d=>by rw [Q.T];exact Gd.bR _ _ d,λi d _ K N s=>Q.sf d s,λi _ _ N f=>Q.hd f⟩
theorem Qx.pb (Q:Qx S S' n e m l0 t x) (N:Nd):Pb S'.p S'.own N↔Pb S.p S.own N:=by unfold Pb;rw [Q.own,Q.gen]
theorem Sy.step (H:Sy n e S V) (G:i<n) (M:Mid S S' n e i tk) (z:EI n e S'.p S'.T S'.own S'.A) (B:JV S' e i v) (A:∀N,Pb S'.p S'.own N->Pb S.p S.own N) (g:∀N,Pb S.p S.own N->Pb S'.p S'.own N) (r:∀N,S'.G.aj 0 N↔S.G.aj 0 N) (hd:∀N,Pb S.p S.own N->S'.dn N=S.dn N) (s:∀N,v.tok=some N->(V i).tok=some N/\v.kind=(V i).kind) (y:∀k,k<n->k≠i->∀N,(V k).tok=some N->(V k).k6->tk≠some N):Sy n e S' (Gd.bD V i v):=by
 refine ⟨z,M.mb.L',λk f=>?_,?_⟩
 ·by_cases d:k=i
  ·subst d
   rw [Gd.aG]
   exact B
  ·rw [Gd.bR _ _ d]
   exact H.others M (λa F E X u=>g X (H.di.tk a F X u).1) y k f d
 ·refine H.di.mv H.li M.mb.B A (λ_ _ N _ h=>g N h) r hd λk f X=>?_
  by_cases d:k=i
  ·subst d
   rw [Gd.aG]
   exact s X
  ·rw [Gd.bR _ _ d]
   exact λh=>⟨h,rfl⟩
theorem pU (J:JV S e i v) (f:v.j=some j) (r:S'.T i=RT.aB v.l v.t x) (y:∀k,v.t≠.eD k) (A:j.at'≠0) (z:JI S' e i j):JV S' e i (v.with (RT.aB v.l v.t x)):=by
 rcases J.st with ⟨d,-⟩ | ⟨E,d,g2,B,s,F,g⟩
 ·rw [f] at d;cases d
 ·rw [f] at d
  cases d
  refine ⟨r,J.ops,J.sl,.inr ⟨j,f,g2,B,s,z,?_⟩⟩
  rw [if_neg A] at g ⊢
  rw [r]
  intro u
  have:=g u
  rw [J.lr] at this
  exact LF y this
theorem Sy.qx (H:Sy n e S V) (g:i<n) (f:(V i).j=some j) (Q:Qx S S' n e i (V i).l (V i).t x) (r:∀k,(V i).t≠.eD k) (u:j.at'≠0) (s:JI S' e i j) (y:∀N,aQ j (RT.aB (V i).l (V i).t x).2=some N->aQ j (V i).t=some N):Sy n e S' (Gd.bD V i ((V i).with (RT.aB (V i).l (V i).t x))):=by
 refine H.step g Q.mid Q.on.1 (pU (H.th i g) f Q.Ti r u s) (λN h=>(Q.pb N).1 h) (λN h=>(Q.pb N).2 h) (Q.aj 0) (λN _=>Q.dn N) (λN d=>?_) (λ_ _ _ _ _ _=>by simp)
 have d:(match (V i).j with | none=>none | some j=>aQ j (RT.aB (V i).l (V i).t x).2)=some N:=d
 rw [f] at d
 refine ⟨?_,rfl⟩
 unfold Vk.tok
 rw [f]
 exact y N d
theorem fV.JR (h:fV S e i b τ j) (H:EI n e S.p S.T S.own S.A) (y:Li S.p S.own S.G) (z:i<n) (g:S.T i=(l0,.bX q)) (d:e=4\/e=5->l0.s.is=true) (u:Tg S b τ):∃S' x,Qx S S' n e i l0 (.bX q) x/\fV S' e i b τ j:=by
 obtain ⟨c,l,r,f,s⟩:=h
 obtain ⟨S',x,Q,a,b⟩:=s.JR f H y z g d u
 exact ⟨S',x,Q,c,l,r,a,b⟩
theorem fV.one (h:fV S e i b τ j) (H:EI n e S.p S.T S.own S.A) (u:Li S.p S.own S.G) (y:i<n) (f:S.T i=(l0,.one a)) (s:Tg S b τ):∃S' x,Qx S S' n e i l0 (.one a) x/\fV S' e i b τ j:=by
 obtain ⟨c,l,g,d,r⟩:=h
 obtain ⟨S',x,Q,a,b⟩:=r.one d H u y f s
 exact ⟨S',x,Q,c,l,g,a,b⟩
theorem Fx:Tg S b none:=λD h=>by cases h
theorem alg (Q:Qx S S' n e i l0 t x) (s:Li S.p S.own S.G) (f:Pb S.p S.own N) (r:Tg S b (some N)):Tg S' b (some N):=λD u=>by
 cases u
 obtain ⟨d1,d2,d3,d4⟩:=r N rfl
 have g:=(s.nz N d1).1
 have d:=(Q.pb N).2 f
 exact ⟨(Q.aj 0 N).2 d1,d.lv,j4 Q.mb.B (by decide) (sI f g) (sI d g) d3,by rw [(Q.mb.B.jJ N d1).1];exact d4⟩
theorem N8 (Q:Qx S S' n e i l0 t x) (h:Rt S o lv N):Rt S' o lv N:=h.ni Q.mb (by simp)
theorem JI.adB (h:JI S e i j) (H:Li S.p S.own S.G) (A:∀N,aQ j t=some N->Pb S.p S.own N) (T:S.T i=(l0,t)) (y:∀b τ,fV S e i b τ j->Tg S b τ->∃S' x,Qx S S' n e i l0 t x/\fV S' e i b τ j) (g:j.at'=5/\j.op.kind=6\/j.at'=12\/j.at'=103\/(j.at'=1/\j.op.kind≠6)\/(j.at'=6/\j.op.kind=7)):∃S' x,Qx S S' n e i l0 t x/\JI S' e i j:=by
 cases h with
 | a5 N d f s M I G g =>
  obtain ⟨S',x,Q,r⟩:=y _ _ g Fx
  obtain ⟨B,u⟩:=Q.hd M
  exact ⟨S',x,Q,.a5 N d f s B (by unfold lI;rw [u];exact I) (by unfold uV;rw [u];exact G) r⟩
 | b12 N lv d f s O J z g =>
  obtain ⟨S',x,Q,r⟩:=y _ _ g Fx
  exact ⟨S',x,Q,.b12 N lv d f s (N8 Q O) J z r⟩
 | c3 N d f s hd E g =>
  obtain ⟨S',x,Q,r⟩:=y _ _ g E
  exact ⟨S',x,Q,.c3 N d f s (by rw [Q.dn];exact hd) (alg Q H (A N (sH f s (.inr d))) E) r⟩
 | d1 d f g =>
  obtain ⟨S',x,Q,r⟩:=y _ _ g Fx
  exact ⟨S',x,Q,.d1 d f r⟩
 | d6 N d f s F L g =>
  obtain ⟨S',x,Q,r⟩:=y _ _ g Fx
  exact ⟨S',x,Q,.d6 N d f s ((Q.aj 0 N).2 F) ((Q.mb.B.jJ N F).1.trans L) r⟩
 | _=>exfalso;omega
theorem TQ (H:Sy n e S V) (g:i<n) (d:(V i).j=some j) (N:Nd) (f:aQ j (V i).t=some N):Pb S.p S.own N:=(H.di.tk i g N (by unfold Vk.tok;rw [d];exact f)).1
theorem TR (h:JI S e i j) (d:j.at'=5/\j.op.kind=6\/j.at'=12\/j.at'=103\/(j.at'=1/\j.op.kind≠6)\/(j.at'=6/\j.op.kind=7)):aQ j t=aQ j t':=H8 (by omega) (by omega) (by omega)
theorem Sy.anL (H:Sy n e S V) (A:i<n) (d:(V i).t=.bX q):∃S' x,S.p.act ((V i).t.acc (V i).l)=(S'.p,some x)/\Sy n e S' (Gd.bD V i ((V i).with (RT.aB (V i).l (V i).t x))):=by
 have J:=H.th i A
 rcases J.st with ⟨F,g2,O⟩ | ⟨j,F,g2,O,g4,I,T⟩
 ·rw [J.lr,d] at O
  exact absurd O.1 (show ¬(2:Int)=6 by decide)
 have no:∀{q:Ca} {R:Rp->Prop},Aw e i S.p q R (S.T i)->q.kind≠6->False:=λ{q R} Z hq=>by
  rw [J.lr,d] at Z
  exact hq Z.1
 have u:j.at'=5/\j.op.kind=6\/j.at'=12\/j.at'=103\/(j.at'=1/\j.op.kind≠6)\/(j.at'=6/\j.op.kind=7):=by
  cases I with
  | a5 N f g=>exact .inl ⟨f,g⟩
  | b12 N lv f=>exact .inr (.inl f)
  | c3 N f=>exact .inr (.inr (.inl f))
  | d1 f g=>exact .inr (.inr (.inr (.inl ⟨f,by omega⟩)))
  | d6 N f g=>exact .inr (.inr (.inr (.inr ⟨f,g⟩)))
  | Ga f d=>exact (no d (show (1:Int)≠6 by decide)).elim
  | a1 f g d=>exact (no d (show (8:Int)≠6 by decide)).elim
  | a2 N f g r z d=>exact (no d (show (4:Int)≠6 by decide)).elim
  | a3 N f g r z W d=>exact (no d (show (4:Int)≠6 by decide)).elim
  | a4 N f g r z W d=>exact (no d (show (4:Int)≠6 by decide)).elim
  | a6 N f g r z d=>exact (no d (show (9:Int)≠6 by decide)).elim
  | a7 N lv c f g r z W u2 u hE B y s hp d=>exact (no d (show (4:Int)≠6 by decide)).elim
  | a8 N c f g r u z d=>exact (no d (show (5:Int)≠6 by decide)).elim
  | b9 N lv c f g r u hr y s d=>exact (no d (show (3:Int)≠6 by decide)).elim
  | b10 N lv c w f g r u hr y s Y d=>exact (no d (show (5:Int)≠6 by decide)).elim
  | b11 N lv c f g r u y s z d=>exact (no d (show (5:Int)≠6 by decide)).elim
  | c1 N f g hb r A hy d=>exact (no d (show (3:Int)≠6 by decide)).elim
  | c2 N w f g hb r A hy hw hd d=>exact (no d (show (5:Int)≠6 by decide)).elim
  | c4 N f g r d=>exact (no d (show (10:Int)≠6 by decide)).elim
  | d2 N f g r B d=>exact (no d (show (3:Int)≠6 by decide)).elim
  | d3 N lv f g r B y s d=>exact (no d (show (3:Int)≠6 by decide)).elim
  | d4 N lv f g r B y s Y d=>exact (no d (show (3:Int)≠6 by decide)).elim
  | d5 N lv w f g r B y s Y hw hs d=>exact (no d (show (5:Int)≠6 by decide)).elim
  | g2 N f g r B d=>exact (no d (show (3:Int)≠6 by decide)).elim
 have U:S.T i=((V i).l,.bX q):=by rw [J.lr,d]
 have G:e=4\/e=5->(V i).l.s.is=true:=by
  rw [iN] at T
  intro he
  have:=T he
  rw [J.lr] at this
  exact this
 have E:=TQ H A F
 obtain ⟨S',x,Q,hJ⟩:=I.adB H.li (t:=.bX q) (λN M=>E N (by rw [d];exact M)) U (λb τ L eH=>L.JR H.ei H.li A U G eH) u
 rw [<-d] at Q
 exact ⟨S',x,Q.act,H.qx A F Q (λk g=>by rw [d] at g;cases g) (by omega) hJ λN M=>by rw [TR I u (t':=(RT.aB (V i).l (V i).t x).2)];exact M⟩
end
section
variable {S S':St} {n:Nat} {e:Int} {i m l k lv:Nat} {b:Int} {τ tk tok:Option Nd} {P C D N X:Nd} {w cur:Wd} {c:Cm} {x:Rp} {K:List Nat} {ok:List Nat->Prop} {l0:Lo} {t t':RT} {q:Ca} {R R':Rp->Prop} {p p':PS} {h:LR} {j:Jb} {o:Op} {v:Vk} {V V':Nat->Vk} {a:Ac}
structure Pv (S S':St) (n:Nat) (e:Int) (i:Nat) (l0:Lo) (a:Ac) (N:Nd) (f:Nat) (w:Wd):Prop where
 act:S.p.act a=(S'.p,some ⟨Wd.zero,true⟩)
 T:S'.T i=(l0,.idle ⟨Wd.zero,true⟩)
 M:Mid S S' n e i none
 ei:EI n e S'.p S'.T S'.own S'.A
 G:S'.G=S.G
 sf:∀K N,S.sf e i K N->S'.sf e i K N
 hd:Hd S' i N
 new:S'.p.cell (N.s-1).toNat f=w
 ay:∀k,k≠f->S'.p.cell (N.s-1).toNat k=S.p.cell (N.s-1).toNat k
 pb:∀X,Pb S'.p S'.own X↔Pb S.p S.own X
 dn:∀X,S'.dn X=S.dn X
theorem V5 (d:Hd S i N):Lv S.p S.own N:=⟨by rw [d.own];simp,d.gen⟩
theorem Pv.of (H:EI n e S.p S.T S.own S.A) (B:Li S.p S.own S.G) (U:i<n) (hT:S.T i=(l0,.one a)) (r:Hd S i N) {f:Nat} (I:f<9/\f≠7) {o:Wd} (hw:w.mark=false) (ha:a=⟨2,N.s,N.g,f,o,w⟩):∃S',Pv S S' n e i l0 a N f w:=by
 have T:=r.s
 obtain ⟨v1,v2,v3⟩:=xm H T (V5 r) (f:=f) ⟨by omega,by omega⟩
 have L:=Eg (p:=S.p) (o:=o) (w:=w) v1 v2
 rw [<-ha] at L
 have y:=H.put U hT (s:=N.s) (f:=f) w ⟨Wd.zero,true⟩ (λh=>by omega) (λ_=>by omega)
 obtain ⟨q1,q2,q3,q4,q5,z,q7⟩:=BS (p:={S.p with steps:=S.p.steps+1}) (s:=N.s) (f:=f) (w:=w)
 have g:∀(i k:Nat),(i≠(N.s-1).toNat\/k≠f)->(PS.put {S.p with steps:=S.p.steps+1} N.s f w).cell i k=S.p.cell i k:=λi k h=>tQ (p:={S.p with steps:=S.p.steps+1}) (.inr (h.imp id λh=>by omega)) (by omega) w
 have F:∀k,(PS.put {S.p with steps:=S.p.steps+1} N.s f w).bd k=S.p.bd k:=λk=>JS (p:={S.p with steps:=S.p.steps+1}) (.inl (by omega)) (by omega) w
 have E:(PS.put {S.p with steps:=S.p.steps+1} N.s f w).cell (N.s-1).toNat f=w:=by
  grind [PS.put]
 generalize Y:PS.put {S.p with steps:=S.p.steps+1} N.s f w=p' at *
 have J:∀X,S.kn X\/(1<=X.s/\Lv S.p S.own X/\S.G.aj 0 X)->X=dG\/(X.s-1).toNat≠(N.s-1).toNat:=λX d=>by
  have key:1<=X.s->X.s≠N.s->(X.s-1).toNat≠(N.s-1).toNat:=λa b=>by omega
  rcases d with (d | d) | d
  ·exact .inl d
  ·exact .inr (key d.1 λq=>d.2.1.2 i (by rw [q];exact r.own))
  ·exact .inr (key d.1 λq=>r.no (by rw [<-d.2.1.eq (V5 r) q];exact d.2.2))
 have A:∀X l,S.kn X->ce p' l X=S.c l X:=λX l d=>by
  grind [St.c,ce,dG]
 have Cw:Li p' S.own S.G:=by
  refine B.same (λl O X d=>⟨(B.pb l O X d).1,by rw [z];exact (B.pb l O X d).2⟩) (λX _ h=>⟨h.1,by rw [<-show p'.gen=S.p.gen from z];exact h.2⟩) (λl _=>F l) (λX d Q k _=>?_) (λk=>by rw [z];exact Int.le_refl _)
  have Z:Lv S.p S.own X:=⟨Q.1,by rw [<-show p'.gen=S.p.gen from z];exact Q.2⟩
  rcases J X (.inr ⟨(B.nz X d).1,Z,d⟩) with h | h
  ·have:=(B.nz X d).1
   rw [h] at this
   exact absurd this (by decide)
  ·exact g _ _ (.inl h)
 have hB:nC S ⟨p',Gd.bD S.T i (l0,.idle ⟨Wd.zero,true⟩),S.own,S.A,S.G⟩ none :=
  ⟨λ_ _ h=>h,λ_ _=>⟨rfl,rfl,rfl⟩,λl _ X d _=>.inl (A X l d),λl _ X d _ _ _ _=>⟨congrArg Wd.slot (A X l d),congrArg Wd.gen (A X l d)⟩,λ_ _ _ h=>.inl h,λ_ _ h=>.inl h,λX _ _ _=>.inl (g _ 7 (.inr (Ne.symm I.2))),by show aF S.p<=aF p';unfold aF;rw [F];exact Int.le_refl _⟩
 refine ⟨⟨p',Gd.bD S.T i (l0,.idle ⟨Wd.zero,true⟩),S.own,S.A,S.G⟩,L,Gd.aG _ _ _,⟨⟨hB,B,Cw⟩,λk u=>Gd.bR _ _ u,λk u _ K X s=>y.2 k u K trivial _ _ s,λk u G X d=>?_⟩,y.1,rfl,λK X s=>y.2 i U K trivial _ _ s,⟨T,r.own,by rw [z];exact r.gen,r.no,?_,λk u=>?_⟩,E,λk u=>g _ _ (.inr u),λX=>by unfold Pb;rw [z],λX=>g _ 7 (.inr (Ne.symm I.2))⟩
 ·have W:X.s≠N.s:=λq=>by
   have:=d.own
   rw [q,r.own] at this
   cases this
   exact G rfl
  have M:∀f,p'.cell (X.s-1).toNat f=S.p.cell (X.s-1).toNat f:=λf=>g _ _ (.inl (by have:=d.s;omega))
  exact ⟨d.of rfl (by rw [z]) id M,M⟩
 ·exact (congrArg Wd.num (g _ 7 (.inr (Ne.symm I.2)))).trans r.dn
 ·have h2:=r.mr k u
  all_goals grind [St.c,ce]
theorem Pv.ce (Q:Pv S S' n e i l0 a N (2+lv) w) (k:Nat) (f:1<=N.s):S'.c k N=if k=lv then w else S.c k N:=by
 have d:∀S:St,S.c k N=S.p.cell (N.s-1).toNat (2+k):=λS=>iN
 rw [d,d]
 by_cases g:k=lv
 ·rw [if_pos g,g];exact Q.new
 ·rw [if_neg g];exact Q.ay _ (by omega)
theorem zY {C:Int} (h:Ca.acc q C a) (d:q.kind=3):a=Ac.load q.slot q.gen q.field:=by
 rcases h with h | h | h | h
 all_goals grind
theorem J4 {C:Int} (h:Ca.acc q C a) (d:q.kind=4):a=⟨2,q.slot,q.gen,q.field,q.ay,q.new⟩:=by
 rcases h with h | h | h | h
 all_goals grind
theorem Ey {C:Int} (h:Ca.acc q C a) (d:q.kind=5):a=⟨3,q.slot,q.gen,q.field,q.ay,q.new⟩:=by
 rcases h with h | h | h | h
 all_goals grind
theorem aiT {C:Int} (h:Ca.acc q C a) (d:q.kind=8):∃b,b<=C/\a=⟨4,0,0,0,Wd.zero,Wd.ig b⟩:=by
 rcases h with h | h | h | h
 all_goals grind
theorem gW (d:(V i).t=.one a):RT.aB (V i).l (V i).t x=((V i).l,.idle x):=by rw [d];rfl
theorem Sy.V6 (H:Sy n e S V) (s:i<n) (A:(V i).j=some j) (d:(V i).t=.one a) {f:Nat} (Q:Pv S S' n e i (V i).l a N f w) (u:j.at'≠0) (z:JI S' e i j) (B:∀t,aQ j t=none):∃S' x,S.p.act ((V i).t.acc (V i).l)=(S'.p,some x)/\Sy n e S' (Gd.bD V i ((V i).with (RT.aB (V i).l (V i).t x))):=by
 have y:S'.T i=RT.aB (V i).l (V i).t ⟨Wd.zero,true⟩:=by rw [gW d];exact Q.T
 refine ⟨S',⟨Wd.zero,true⟩,by rw [d];exact Q.act,H.step s Q.M Q.ei (pU (H.th i s) A y (λk r=>by rw [d] at r;cases r) u z) (λX h=>(Q.pb X).1 h) (λX h=>(Q.pb X).2 h) (λX=>by rw [Q.G]) (λX _=>Q.dn X) (λX g=>?_) (λ_ _ _ _ _ _=>by simp)⟩
 have g:(match (V i).j with | none=>none | some j=>aQ j (RT.aB (V i).l (V i).t ⟨Wd.zero,true⟩).2)=some X:=g
 all_goals grind
theorem Sy.alloc (H:Sy n e S V) (W:i<n) (hj:(V i).j=some j) (F:(V i).t=.one a) (L:j.at'=1) (y:j.op.kind=6) {b:Int} (hb:b<=aF S.p) (ha:a=⟨4,0,0,0,Wd.zero,Wd.ig b⟩):∃S' x,S.p.act ((V i).t.acc (V i).l)=(S'.p,some x)/\Sy n e S' (Gd.bD V i ((V i).with (RT.aB (V i).l (V i).t x))):=by
 have J:=H.th i W
 have hT:S.T i=((V i).l,.one a):=by rw [J.lr,F]
 have u:S.p.act ((V i).t.acc (V i).l)=((PS.alloc {S.p with steps:=S.p.steps+1} b).1,some (PS.alloc {S.p with steps:=S.p.steps+1} b).2):=by
  rw [F]
  show S.p.act a=_
  rw [ha]
  exact aeI
 have oD:∀t,aQ j t=none:=by grind [jg]
 by_cases h0:S.p.nf=0
 ·rw [VV h0] at u
  have Q:=Qx.read H.li J.lr u (by rw [gW F];exact H.ei.one W hT _)
  refine ⟨_,_,Q.act,H.qx W hj Q (λk y=>by rw [F] at y;cases y) (by omega) (.a1 L y ?_) λN hN=>by rw [oD] at hN;cases hN⟩
  rw [Q.Ti,gW F]
  intro ho
  cases ho
 ·obtain ⟨q,hq,hfree,hr,Y,z⟩:=H.ei.alloc W hT hb h0
  rw [Y] at u z
  have e1:PS.alloc {S.p with steps:=S.p.steps+1} b=({S.p with steps:=S.p.steps+1,nf:=S.p.nf-1,made:=S.p.made+1,gen:=λi=>if i=(q-1).toNat then S.p.gen (q-1).toNat+1 else S.p.gen i,used:=λi=>if i=(q-1).toNat then true else S.p.used i,cell:=λi k=>if i=(q-1).toNat/\k<10 then iF b k else S.p.cell i k},⟨⟨q,S.p.gen (q-1).toNat+1,0,0,false⟩,true⟩):=by
   grind [PS.alloc]
  rw [e1] at u z
  simp only at u z
  have hcell:∀(i k:Nat),i≠(q-1).toNat->(if i=(q-1).toNat/\k<10 then iF b k else S.p.cell i k)=S.p.cell i k:=λi k h=>if_neg λg=>h g.1
  have A:∀X:Nd,1<=X.s->S.own X.s≠.free->X.s≠q/\(X.s-1).toNat≠(q-1).toNat:=λX L h2=>by
   grind
  obtain ⟨S',r⟩:∃S':St,S'=⟨{S.p with steps:=S.p.steps+1,nf:=S.p.nf-1,made:=S.p.made+1,gen:=λi=>if i=(q-1).toNat then S.p.gen (q-1).toNat+1 else S.p.gen i,used:=λi=>if i=(q-1).toNat then true else S.p.used i,cell:=λi k=>if i=(q-1).toNat/\k<10 then iF b k else S.p.cell i k},Gd.bD S.T i ((V i).l,.idle ⟨⟨q,S.p.gen (q-1).toNat+1,0,0,false⟩,true⟩),λs=>if s=q then .hand i else S.own s,S.A,S.G⟩:=⟨_,rfl⟩
  have G:S'.G=S.G:=by rw [r]
  have E:∀s,s≠q->S'.own s=S.own s:=by simp_all
  have ng:∀k,k≠(q-1).toNat->S'.p.gen k=S.p.gen k:=by grind
  have B:∀k f,k≠(q-1).toNat->S'.p.cell k f=S.p.cell k f:=by simp_all
  have Z:S'.p.bd=S.p.bd:=by rw [r]
  have Gb:EI n e S'.p S'.T S'.own S'.A:=by rw [r];exact z.1
  have hgq:S'.p.gen (q-1).toNat=S.p.gen (q-1).toNat+1:=by rw [r];exact if_pos rfl
  have anM:∀k,S.p.gen k<=S'.p.gen k:=λk=>by
   grind
  have ap4:∀X,S.kn X->X=dG\/(X.s-1).toNat≠(q-1).toNat:=λX d=>d.imp id λh=>(A X h.1 h.2.1.1).2
  have U:∀X l,S.kn X->S'.c l X=S.c l X:=λX l d=>by
   grind [St.c,ce,dG]
  have TS:∀X,S.G.aj 0 X->Lv S'.p S'.own X->Lv S.p S.own X/\(X.s-1).toNat≠(q-1).toNat:=λX d hL=>by
   have L:=H.li.nz X d
   have hs:X.s≠q:=λg=>by
    have h2:=hL.2
    all_goals grind
   have O:(X.s-1).toNat≠(q-1).toNat:=by omega
   exact ⟨⟨by rw [<-E _ hs];exact hL.1,by rw [<-ng _ O];exact hL.2⟩,O⟩
  have I:∀X,1<=X.s->(Pb S'.p S'.own X↔Pb S.p S.own X):=λX L=>by
   grind [fG,Pb]
  have Cw:Li S'.p S'.own S'.G:=by
   rw [G]
   refine H.li.same (λl hl X d=>(I X (H.li.s1 hl d)).2 (H.li.pb l hl X d)) (λX d h=>(TS X d h).1) (λl _=>by rw [Z]) (λX d jV k _=>B _ _ (TS X d jV).2) anM
  have hB:nC S S' none:=⟨by rw [G];exact λ_ _ h=>h,by rw [G];exact λ_ _=>⟨rfl,rfl,rfl⟩,λl _ X d _=>.inl (U X l d),λl _ X d _ _ _ _=>by rw [U X l d];exact ⟨rfl,rfl⟩,by rw [G];exact λ_ _ _ h=>.inl h,by rw [G];exact λ_ _ h=>.inl h,λX L d _=>.inl (B _ _ (d.elim (λh=>absurd h (BU L)) λh=>(A X h.1 h.2.1.1).2)),by unfold aF;rw [Z];exact Int.le_refl _⟩
  have M:Mid S S' n e i none:=by
   refine ⟨⟨hB,H.li,Cw⟩,λk y=>by rw [r];exact Gd.bR _ _ y,λk y _ K X s=>by rw [r];exact z.2 k y K trivial _ _ s,λk y hki X d=>?_⟩
   have Y:=A X d.s (by rw [d.own];simp)
   have hc:∀f,S'.p.cell (X.s-1).toNat f=S.p.cell (X.s-1).toNat f:=λf=>B _ _ Y.2
   exact ⟨d.of (E _ Y.1) (ng _ Y.2) (by rw [G];exact id) hc,hc⟩
  have hdn:∀X,Pb S.p S.own X->S'.dn X=S.dn X:=λX d=>by
   have hr:=H.ei.out X.s (by rw [d.1];simp)
   exact B _ _ (A X hr.1 (by rw [d.1];simp)).2
  have anN:∀X,Pb S'.p S'.own X->Pb S.p S.own X:=λX d=>(I X (Gb.out X.s (by rw [d.1];simp)).1).1 d
  have anO:∀X,Pb S.p S.own X->Pb S'.p S'.own X:=λX d=>(I X (H.ei.out X.s (by rw [d.1];simp)).1).2 d
  have fU:S'.T i=RT.aB (V i).l (V i).t ⟨⟨q,S.p.gen (q-1).toNat+1,0,0,false⟩,true⟩:=by rw [gW F,r];exact Gd.aG _ _ _
  have T:∀k,k<9->S'.p.cell (q-1).toNat k=Wd.zero:=λk y=>by
   have:S'.p.cell (q-1).toNat k=iF b k:=by rw [r];exact if_pos ⟨rfl,by omega⟩
   all_goals grind [iF]
  have hJ:JI S' e i j:=by
   refine .a1 L y ?_
   rw [fU,gW F]
   intro _
   refine ⟨⟨q,S.p.gen (q-1).toNat+1⟩,rfl,hr.1,by rw [r];exact if_pos rfl,hgq,λh=>?_,?_,λk hk3=>?_⟩
   ·rw [G] at h
    have:=(H.li.nz _ h).2.1
    all_goals grind
   ·show (S'.p.cell (q-1).toNat 7).num=0
    rw [T 7 (by decide)];rfl
   ·have e2:S'.c k ⟨q,S.p.gen (q-1).toNat+1⟩=S'.p.cell (q-1).toNat (2+k):=if_neg (by show ¬q=0;omega)
    rw [e2,T _ (by omega)];rfl
  refine ⟨S',_,by rw [r];exact u,H.step W M Gb (pU J hj fU (λk y=>by rw [F] at y;cases y) (by omega) hJ) anN anO (λX=>by rw [G]) hdn (λX d=>?_) (λ_ _ _ _ _ _=>by simp)⟩
  have d:(match (V i).j with | none=>none | some j=>aQ j _)=some X:=d
  rw [hj] at d
  have d:aQ j _=some X:=d
  rw [oD] at d
  cases d
theorem Sy.drop (H:Sy n e S V) (W:i<n) (hj:(V i).j=some j) (h6:j.at'=6) (y:j.op.kind=6) (hn:j.node=rf N) (L:Hd S i N) (E:(V i).t=.fin ⟨5,0,0,0,rf N,Wd.zero⟩):∃S' x,S.p.act ((V i).t.acc (V i).l)=(S'.p,some x)/\Sy n e S' (Gd.bD V i ((V i).with (RT.aB (V i).l (V i).t x))):=by
 have J:=H.th i W
 have Z:S.T i=((V i).l,.fin ⟨5,0,0,0,rf N,Wd.zero⟩):=by rw [J.lr,E]
 have oD:∀t,aQ j t=none:=by grind [jg]
 obtain ⟨I,F⟩:=H.ei.drop W Z L.own L.gen
 have hs:=L.s
 obtain ⟨S',d⟩:∃S':St,S'=⟨PS.free {S.p with steps:=S.p.steps+1} N.s,Gd.bD S.T i ((V i).l,.idle Rp.yes),λs=>if s=N.s then .free else S.own s,S.A,S.G⟩:=⟨_,rfl⟩
 have B:S'.G=S.G:=by rw [d]
 have r:∀s,s≠N.s->S'.own s=S.own s:=λs h=>by rw [d];exact if_neg h
 have Gb:EI n e S'.p S'.T S'.own S'.A:=by rw [d];exact F.1
 have Q:S'.p.gen=S.p.gen:=by rw [d];rfl
 have z:S'.p.cell=S.p.cell:=by rw [d];rfl
 have O:S'.p.bd=S.p.bd:=by rw [d];rfl
 have G:∀k X,S'.c k X=S.c k X:=by grind [St.c,ce]
 have Y:∀X,Lv S'.p S'.own X->Lv S.p S.own X:=λX u=>by
  by_cases g:X.s=N.s
  ·have:=u.1
   all_goals grind
  ·exact ⟨by rw [<-r _ g];exact u.1,by rw [<-Q];exact u.2⟩
 have A:∀X,Pb S'.p S'.own X↔Pb S.p S.own X:=λX=>by
  by_cases g:X.s=N.s
  ·constructor
   ·intro h
    have:=h.1
    all_goals grind
   ·intro h
    have:=h.1
    rw [g,L.own] at this
    cases this
  ·unfold Pb
   rw [r _ g,Q]
 have Cw:Li S'.p S'.own S'.G:=by
  rw [B]
  exact H.li.same (λl hl X u=>(A X).2 (H.li.pb l hl X u)) (λX _ h=>Y X h) (λl _=>by rw [O]) (λX _ _ k _=>by rw [z]) (λk=>by rw [Q];exact Int.le_refl _)
 have hB:nC S S' none:=⟨by rw [B];exact λ_ _ h=>h,by rw [B];exact λ_ _=>⟨rfl,rfl,rfl⟩,λl _ X _ _=>.inl (G l X),λl _ X _ _ _ _ _=>by rw [G];exact ⟨rfl,rfl⟩,by rw [B];exact λ_ _ _ h=>.inl h,by rw [B];exact λ_ _ h=>.inl h,λX _ _ _=>.inl (by unfold St.dn;rw [z]),by unfold aF;rw [O];exact Int.le_refl _⟩
 have M:Mid S S' n e i none:=by
  refine ⟨⟨hB,H.li,Cw⟩,λk y=>by rw [d];exact Gd.bR _ _ y,λk y _ K X s=>by rw [d];exact F.2 k y K trivial _ _ s,λk y T X u=>?_⟩
  have G:∀f,S'.p.cell (X.s-1).toNat f=S.p.cell (X.s-1).toNat f:=λf=>by rw [z]
  refine ⟨u.of (r _ λq=>?_) (by rw [Q]) (by rw [B];exact id) G,G⟩
  have:=u.own
  rw [q,L.own] at this
  cases this
  exact T rfl
 have U:S'.T i=RT.aB (V i).l (V i).t ⟨Wd.zero,true⟩:=by rw [E,d];exact Gd.aG _ _ _
 have hJ:JI S' e i j:=.a6 N h6 y hn (.inl ⟨Rp.yes,by rw [U,E];rfl⟩) (by rw [U,E];trivial)
 refine ⟨S',⟨Wd.zero,true⟩,by rw [E,d];exact I,H.step W M Gb (pU J hj U (λk y=>by rw [E] at y;cases y) (by omega) hJ) (λX=>(A X).1) (λX=>(A X).2) (λX=>by rw [B]) (λX _=>by unfold St.dn;rw [z]) (λX u=>?_) (λ_ _ _ _ _ _=>by simp)⟩
 have u:(match (V i).j with | none=>none | some j=>aQ j _)=some X:=u
 all_goals grind
end
section
variable {S S':St} {n:Nat} {e:Int} {i m l k lv:Nat} {b:Int} {τ tk tok:Option Nd} {P C D N X:Nd} {w cur:Wd} {c:Cm} {x:Rp} {K:List Nat} {ok:List Nat->Prop} {l0:Lo} {t t':RT} {q:Ca} {R R':Rp->Prop} {p p':PS} {h:LR} {j:Jb} {o:Op} {v:Vk} {V V':Nat->Vk} {a:Ac} {G':Gh} {own':Int->fG}
theorem Cb (H:EI n e S.p S.T S.own S.A) (f:l<3) (r:Nl S.p S.own P) (g:a=⟨3,(ad l P).slot,(ad l P).gen,(ad l P).field,cur,w⟩):S.p.act a=if eY (S.c l P) cur then (PS.put {S.p with steps:=S.p.steps+1} P.s (jq l P) w,some ⟨S.c l P,true⟩) else ({S.p with steps:=S.p.steps+1},some ⟨S.c l P,false⟩):=by
 obtain ⟨y,u,s⟩:=tY H f r
 have d:=BA (p:=S.p) (o:=cur) (w:=w) y u
 rw [<-g,s] at d
 exact d
theorem YV (d:P=dG\/(1<=P.s/\∀j,S.own P.s≠.hand j)) (s:l<3) (y:1<=X.s) (r:S.own X.s=.hand k) (f:Nat):(PS.put {S.p with steps:=S.p.steps+1} P.s (jq l P) w).cell (X.s-1).toNat f=S.p.cell (X.s-1).toNat f:=by
 refine tQ (p:={S.p with steps:=S.p.steps+1}) ?_ (by unfold jq;split <;> omega) _
 rcases d with h | ⟨u,g⟩
 ·exact .inl (by rw [h];rfl)
 all_goals grind
theorem Sy.fail (H:Sy n e S V) (g:i<n) (y:(V i).j=some j) (f:(V i).t=.one a) {w:Wd} (d:S.p.act a=({S.p with steps:=S.p.steps+1},some ⟨w,false⟩)) (A:j.at'≠0) (z:∀S',Qx S S' n e i (V i).l (.one a) ⟨w,false⟩->S'.T i=((V i).l,.idle ⟨w,false⟩)->JI S' e i j):∃S' x,S.p.act ((V i).t.acc (V i).l)=(S'.p,some x)/\Sy n e S' (Gd.bD V i ((V i).with (RT.aB (V i).l (V i).t x))):=by
 have J:=H.th i g
 have u:S.T i=((V i).l,.one a):=by rw [J.lr,f]
 obtain ⟨S',Q⟩:∃S',Qx S S' n e i (V i).l (.one a) ⟨w,false⟩:=⟨_,Qx.read (x:=⟨w,false⟩) H.li u d (H.ei.one g u _)⟩
 have r:=z S' Q Q.Ti
 rw [<-f] at Q
 refine ⟨_,_,Q.act,H.qx g y Q (λk s=>by rw [f] at s;cases s) A r λN B=>?_⟩
 rw [gW f] at B
 all_goals grind [aQ,zb]
theorem Sy.alh (H:Sy n e S V) (hi:i<n) (hj:(V i).j=some j) (hg:j.op.bP) (ht:(V i).t=.one a) (h8:j.at'=8) (z:j.op.kind=6) (hn:j.node=rf N) (hc:j.cl=some c) (y:Hd S i N) (h1:lI S N j.op.key) (h2:uV S N j.op.dz) (hE:CE S e i j.op.key none c) (hf:c.found.slot=0)
  (hp:∀k:Nat,(k:Int)<j.op.dz->Ptr S k N (c.sp k).cur) (ha:a=⟨3,(c.sp 0).a.slot,(c.sp 0).a.gen,(c.sp 0).a.field,(c.sp 0).cur,cB (c.sp 0).cur (rf N)⟩):∃S' x,S.p.act ((V i).t.acc (V i).l)=(S'.p,some x)/\Sy n e S' (Gd.bD V i ((V i).with (RT.aB (V i).l (V i).t x))):=by
 have J:=H.th i hi
 have hT:S.T i=((V i).l,.one a):=by rw [J.lr,ht]
 have hg3:=iH hg z
 have L:(0:Nat)<3:=by decide
 obtain ⟨P,YW,EA,YX⟩:=(hE.sp 0 L).1.ex
 have YW:(c.sp 0).a=ad 0 P:=YW
 have YX:jG S 0 P (c.sp 0).cur:=YX
 have hmr:(c.sp 0).cur.mark=false:=(hE.sp 0 L).1.mr
 have eZ:Nl S.p S.own P:=H.li.pl EA.pl
 have E:=Cb (a:=a) (cur:=(c.sp 0).cur) (w:=cB (c.sp 0).cur (rf N)) H.ei L eZ (by rw [ha,YW])
 by_cases g:eY (S.c 0 P) (c.sp 0).cur
 rotate_left
 ·rw [if_neg g] at E
  refine H.fail hi hj ht E (by omega) λS' Q fU=>.a8 N c h8 z hn hc (λ_=>?_) (by rw [fU];intro h;cases h)
  obtain ⟨hh',hc'⟩:=Q.hd y
  exact ⟨hh',by unfold lI;rw [hc'];exact h1,by unfold uV;rw [hc'];exact h2,hE.mv Q.mb (λ_ _=>by simp) (λk _ N s=>Q.sf hi s) (λN s=>Q.sf hi s),hf,λk z=>by unfold Ptr;rw [y.ce hc'];exact hp k z⟩
 rw [if_pos g] at E
 have bH:=aA YX g
 have hpm:(S.c 0 P).mark=false:=by rw [bH];exact hmr
 have hs:=y.s
 have hNP:N≠P:=λq=>by
  rcases EA with h | h
  ·rw [q,h] at hs;exact absurd hs (by decide)
  ·exact y.no (by rw [q];exact H.li.fB h.1)
 have ap5:N.s≠P.s:=λq=>hNP (Nl.eq (.inr ⟨hs,V5 y⟩) eZ q)
 have hA:=H.li.jJ y.no j.op.key j.op.dz
 obtain ⟨u,A⟩:∃u,u=S.G.jJ N j.op.key j.op.dz:=⟨_,rfl⟩
 rw [<-A] at hA
 have k1:u.key N=j.op.key:=by rw [A];exact if_pos rfl
 have k2:u.ht N=j.op.dz:=by rw [A];exact if_pos rfl
 have k3:u.seq N=S.G.c:=by rw [A];exact if_pos rfl
 have k4:∀X,X≠N->u.key X=S.G.key X/\u.ht X=S.G.ht X/\u.seq X=S.G.seq X:=λX d=>by rw [A];exact ⟨if_neg d,if_neg d,if_neg d⟩
 have k5:∀l X,u.aj l X↔S.G.aj l X:=λl X=>by rw [A];exact Iff.rfl
 have k6:∀l,u.L l=S.G.L l:=λl=>by rw [A];rfl
 have k7:∀X,S.G.aj 0 X->X≠N:=λX d q=>y.no (q ▸ d)
 obtain ⟨W,how⟩:∃W:Int->fG,W=λs=>if s=N.s then .Er else S.own s:=⟨_,rfl⟩
 have o1:W N.s=.Er:=by rw [how];exact if_pos rfl
 have o2:∀s,s≠N.s->W s=S.own s:=λs h=>by rw [how];exact if_neg h
 have hlv:∀X,Lv S.p W X↔Lv S.p S.own X:=λX=>by
  unfold Lv
  by_cases q:X.s=N.s
  ·rw [q,o1,y.own];simp
  ·rw [o2 _ q]
 have hA2:Li S.p W u:=hA.same (λl hl X d=>by
   have F9:=H.li.pb l hl X (by rw [<-k6];exact d)
   exact ⟨by rw [o2 _ λq=>by have:=F9.1;rw [q,y.own] at this;cases this];exact F9.1,F9.2⟩) (λX _ h=>(hlv X).1 h) (λ_ _=>rfl) (λ_ _ _ _ _=>rfl) (λ_=>Int.le_refl _)
 have anP:P=dG\/u.aj 0 P/\Lv S.p W P:=by grind [Li.pl,sF.pl,Aw.imp]
 have U:=tV (p:=S.p) eZ.s0 L (cB (c.sp 0).cur (rf N)) (S.p.steps+1)
 have aiU:u.ky P=S.G.ky P:=by
  unfold Gh.ky
  all_goals grind
 have hkP:S.G.ky P<j.op.key:=EA.ky H.li (by have:=hg.1.1;omega)
 have Y:u.ky N=j.op.key:=(iN).trans k1
 have hCk:∀C,nm (S.c 0 P) C->1<=C.s->j.op.key<u.ky C:=λC T fT=>by
  rw [bH] at T
  obtain ⟨C',c1,c2,c3⟩:=(hE.sp 0 L).1.cu (x9 T fT)
  have:=xh T c1
  subst this
  have hne:=hE.no hf C T fT
  all_goals grind [Gh.ky,sF.ky]
 have ali:=hp 0 (by omega)
 obtain ⟨M,hM,hMm⟩:=hA2.link U L anP hpm ⟨⟨rfl,rfl⟩,rfl⟩ ⟨o1,y.gen⟩ hs (λh=>y.no ((k5 0 N).1 h)) (by rw [k2];omega) (by
     show (S.c 0 N).slot=(S.c 0 P).slot/\(S.c 0 N).gen=(S.c 0 P).gen
     rw [bH];exact ali) (.inl (by rw [aiU,Y];exact hkP)) (λC T fT=>.inl (by rw [Y];exact hCk C T fT)) (λh=>absurd rfl h)
  (λ_=>⟨λX d=>by
    have d:=(k5 0 X).1 d
    rw [(k4 X (k7 X d)).2.2,k3]
    exact H.li.sq X d,by rw [k3,A];show S.G.c<S.G.c+1;omega,⟨by rw [y.gen];exact Int.le_refl _,by rw [k1];exact hg.1.1,by rw [k2];exact hg3.2⟩,⟨by rw [k1];exact h1,by rw [k2];exact h2⟩,y.mr 0 L,by rw [aiU,Y];exact hkP,λC T fT=>by rw [Y];exact hCk C T fT⟩)
 obtain ⟨S',B⟩:∃S':St,S'=⟨PS.put {S.p with steps:=S.p.steps+1} P.s (jq 0 P) (cB (c.sp 0).cur (rf N)),Gd.bD S.T i ((V i).l,.idle ⟨S.c 0 P,true⟩),W,S.A,u.ins 0 N M⟩:=⟨_,rfl⟩
 have F:S'.p=PS.put {S.p with steps:=S.p.steps+1} P.s (jq 0 P) (cB (c.sp 0).cur (rf N)):=by rw [B]
 have jw:S'.G=u.ins 0 N M:=by rw [B]
 have O:S'.own=W:=by rw [B]
 have ng:S'.p.gen=S.p.gen:=by rw [F];exact U.gen
 have hdn:∀X,S'.dn X=S.dn X:=λX=>by unfold St.dn;rw [F];exact U.cell _ 7 (.inr (by decide))
 have hin:∀l X,S'.G.aj l X↔S.G.aj l X\/(l=0/\X=N):=λl X=>by rw [jw];show u.aj l X\/_↔_;rw [k5]
 have hon:=H.ei.put hi hT (s:=P.s) (f:=jq 0 P) (cB (c.sp 0).cur (rf N)) ⟨S.c 0 P,true⟩ (zW L).1 (zW L).2
 have Gb:EI n e S'.p S'.T S'.own S'.A:=by
  have:=hon.1.YB (s0:=N.s) (o1:=.Er) (.inr ⟨i,y.own⟩) (by simp)
  rw [B,how]
  exact this
 have QW:∀k,k<n->∀K X,S.sf e k K X->S'.sf e k K X:=λk z K X s=>by
  have:=(hon.2 k z K trivial _ _ s).vH (s0:=N.s) (o1:=.Er) ⟨by simp,by simp⟩
  rw [B,how]
  exact this
 have Cw:Li S'.p S'.own S'.G:=by rw [F,O,jw];exact hM
 have hB:nC S S' (some N):=by
  refine zV (G':=u.ins 0 N M) (l:=0) (w:=cB (c.sp 0).cur (rf N)) eZ L hpm (by rw [bH];show (c.sp 0).cur.tag<(c.sp 0).cur.tag+1;omega) (λl X h=>.inl ((k5 l X).2 h)) (λX d=>?_) (λl hl X d=>?_) (λl X d=>?_) (EA.imp id λh=>.inl h.1) F jw
  ·exact k4 X (k7 X d)
  ·have d:X∈(if l=0 then M else u.L l):=d
   all_goals grind
  all_goals grind
 have abB:Mid S S' n e i (some N):=by
  refine ⟨⟨hB,H.li,Cw⟩,λk z=>by rw [B];exact Gd.bR _ _ z,λk z _ K X s=>QW k z K X s,λk z r X d=>?_⟩
  have YY:X.s≠N.s:=λq=>by
   have:=d.own
   rw [q,y.own] at this
   cases this
   exact r rfl
  have hc:∀f,S'.p.cell (X.s-1).toNat f=S.p.cell (X.s-1).toNat f:=λf=>by
   rw [F]
   refine YV (EA.imp id λh=>⟨(H.li.nz P (H.li.fB h.1)).1,(gY.kn h.2.1).2⟩) L d.s d.own f
  refine ⟨d.of (by rw [O];exact o2 _ YY) (by rw [ng]) (λh=>?_) hc,hc⟩
  all_goals grind
 have aiV:Pb S'.p S'.own N:=⟨by rw [O];exact o1,by rw [ng];exact y.gen⟩
 have hPb:∀X,Pb S'.p S'.own X->Pb S.p S.own X\/X=N:=λX d=>by
  by_cases q:X.s=N.s
  ·exact .inr (d.lv.eq aiV.lv q)
  ·exact .inl ⟨by rw [<-o2 _ q,<-O];exact d.1,by rw [<-ng];exact d.2⟩
 have anQ:∀X,Pb S.p S.own X->Pb S'.p S'.own X:=λX d=>by
  have q:X.s≠N.s:=λq=>by have:=d.1;rw [q,y.own] at this;cases this
  exact ⟨by rw [O,o2 _ q];exact d.1,by rw [ng];exact d.2⟩
 have aiW:¬Pb S.p S.own N:=λh=>by have:=h.1;rw [y.own] at this;cases this
 have hNi:S'.G.aj 0 N:=(hin 0 N).2 (.inr ⟨rfl,rfl⟩)
 have fU:S'.T i=RT.aB (V i).l (V i).t ⟨S.c 0 P,true⟩:=by rw [gW ht,B];exact Gd.aG _ _ _
 have hJ:JI S' e i j:=by
  refine .a8 N c h8 z hn hc (λhal=>?_) ?_
  ·have:=hal ⟨S.c 0 P,true⟩ (by rw [fU,gW ht])
   cases this
  ·rw [fU,gW ht]
   intro _
   refine ⟨⟨hs,λk hk0=>by rw [show k=0 by omega];exact hNi,λk hk1 h=>?_,by rw [jw];exact k1,by rw [jw];exact k2,⟨Nat.le_refl _,by omega⟩⟩,λk hk1 hk3=>⟨(hE.sp k hk3).1.mv ⟨hB,H.li,Cw⟩ hk3 (λX s=>QW i hi _ X s),λC T fT hkC=>?_⟩⟩
   ·grind [Sy.li,Li.fB]
   ·have hCi:=H.li.fB ((hE.sp k hk3).1.ay T fT)
    rw [jw]
    show u.seq C<u.seq N
    rw [(k4 C (k7 C hCi)).2.2,k3]
    exact H.li.sq C hCi
 have oD:(Gd.bD V i ((V i).with (RT.aB (V i).l (V i).t ⟨S.c 0 P,true⟩)) i).tok=some N:=by
  rw [Gd.aG]
  show (match (V i).j with | none=>none | some j=>aQ j (RT.aB (V i).l (V i).t ⟨S.c 0 P,true⟩).2)=some N
  rw [hj,gW ht]
  exact QR z hn h8 rfl rfl
 have I:(Gd.bD V i ((V i).with (RT.aB (V i).l (V i).t ⟨S.c 0 P,true⟩)) i).kind=6:=by
  rw [Gd.aG]
  show (match (V i).j with | none=>0 | some j=>j.op.kind)=6
  rw [hj]
  exact z
 have Z:∀k,k≠i->Gd.bD V i ((V i).with (RT.aB (V i).l (V i).t ⟨S.c 0 P,true⟩)) k=V k:=λk z=>Gd.bR _ _ z
 have hnot:∀k,k<n->k≠i->(V k).tok≠some N:=λk z r h=>aiW (H.di.tk k z N h).1
 refine ⟨S',⟨S.c 0 P,true⟩,by rw [ht,F];exact E,Gb,Cw,λk G=>?_,λk G X d=>?_,λk m G MX X h1 h2 h3=>?_,λX d YZ=>?_⟩
 ·by_cases r:k=i
  ·subst r
   rw [Gd.aG]
   all_goals grind [pU]
  ·rw [Z k r]
   exact H.others abB (λa ha hai X d=>anQ X (H.di.tk a ha X d).1) (λa ha hai X d _ q=>by cases q;exact hnot a ha hai d) k G r
 ·by_cases r:k=i
  ·subst r
   rw [oD] at d
   cases d
   refine ⟨aiV,hNi,λq=>by rw [I] at q;omega,?_⟩
   rw [hdn,I,y.dn]
   decide
  ·rw [Z k r] at d ⊢
   obtain ⟨a1,b1,c1,d1⟩:=H.di.tk k G X d
   have hX1:=(H.li.nz X b1).1
   all_goals grind [j4,sI]
 ·by_cases r:k=i
  ·grind
  ·by_cases MZ:m=i
   ·grind
   ·rw [Z k r] at h1 h3
    rw [Z m MZ] at h2 h3
    exact H.di.un k m G MX X h1 h2 h3
 ·rw [hdn]
  rcases hPb X d with h | h
  ·rcases (hin 0 X).1 YZ with h' | h'
   ·obtain ⟨d1,d2⟩:=H.di.dd X h h'
    have hX1:=(H.li.nz X h').1
    all_goals grind [j4,sI]
   ·exact absurd (h'.2 ▸ h) aiW
  ·rw [h,y.dn]
   all_goals grind
end
section
variable {S S':St} {n:Nat} {e:Int} {i m l k lv:Nat} {b:Int} {τ tk tok:Option Nd} {P C D N X:Nd} {w cur:Wd} {c:Cm} {x:Rp} {K:List Nat} {ok:List Nat->Prop} {l0:Lo} {t t':RT} {q:Ca} {R R':Rp->Prop} {p p':PS} {h:LR} {j:Jb} {o:Op} {v:Vk} {V V':Nat->Vk} {a:Ac} {G':Gh} {own':Int->fG}
theorem M3 (H:Sy n e S V) (B:i<n) (E:(V i).tok=some N) (y:(V i).kind=6) {m:Nat} (A:m<n) (F:m≠i) (f:(V m).tok=some N) (O:(V m).k6):False:=by
 obtain ⟨a,b,-,d⟩:=H.di.tk i B N E
 obtain ⟨-,-,-,J⟩:=H.di.tk m A N f
 have Y:=(H.di.dd N a b).1
 have u:(V m).kind≠6:=λh=>F (H.di.un m i A B N f E (h.trans y.symm))
 have r:=(BZ f).resolve_left u
 obtain ⟨j,s,z⟩:=O
 have L:j.op.kind=7:=by unfold Vk.kind at r;rw [s] at r;exact r
 have I:j.at'=103:=z.resolve_left (by omega)
 rcases (H.th m A).st with ⟨g,-⟩ | ⟨T,g,-,-,-,Q,-⟩
 ·rw [s] at g;cases g
 ·rw [s] at g
  cases g
  have M:(S.dn N).num≠0:=by
   have G:aQ j (V m).t=some N:=by unfold Vk.tok at f;rw [s] at f;exact f
   cases Q with
   | c3 Z U y hn hd W hc =>
    grind [sH]
   | _=>omega
  rw [y] at d
  rw [r] at J
  omega
theorem LJ (H:Sy n e S V) (E:i<n) (O:S.T i=(l0,.one a)) (u:l<3) (F:P=dG\/(1<=P.s/\∀j,S.own P.s≠.hand j)) (x:Rp) (d:S'=⟨PS.put {S.p with steps:=S.p.steps+1} P.s (jq l P) w,Gd.bD S.T i (l0,.idle x),S.own,S.A,G'⟩) (Q:nC S S' tk) (A:Li S'.p S'.own S'.G) (z:∀X,S'.G.aj 0 X↔S.G.aj 0 X) :
  Mid S S' n e i tk/\EI n e S'.p S'.T S'.own S'.A/\(∀K X,S.sf e i K X->S'.sf e i K X)/\(∀X,Pb S'.p S'.own X↔Pb S.p S.own X)/\(∀X,S'.dn X=S.dn X)/\S'.T i=(l0,.idle x):=by
 have M:0<=P.s:=by rcases F with h | h;rw [h];exact Int.le_refl _;omega
 have U:=tV (p:=S.p) M u w (S.p.steps+1)
 have r:=H.ei.put E O (s:=P.s) (f:=jq l P) w x (zW u).1 (zW u).2
 have J:S'.p.gen=S.p.gen:=by rw [d];exact U.gen
 have B:S'.own=S.own:=by rw [d]
 have G:∀k,k<n->∀K X,S.sf e k K X->S'.sf e k K X:=λk g K X s=>by rw [d];exact r.2 k g K trivial _ _ s
 refine ⟨⟨⟨Q,H.li,A⟩,λk g=>by rw [d];exact Gd.bR _ _ g,λk g _ K X s=>G k g K X s,λk g L X y=>?_⟩,by rw [d];exact r.1,G i E,λX=>by unfold Pb;rw [B,J],λX=>by unfold St.dn;rw [d];exact U.cell _ 7 (.inr (by decide)),by rw [d];exact Gd.aG _ _ _⟩
 have I:∀f,S'.p.cell (X.s-1).toNat f=S.p.cell (X.s-1).toNat f:=λf=>by rw [d];exact YV F u y.s y.own f
 exact ⟨y.of (by rw [B]) (by rw [J]) (z X).1 I,I⟩
theorem ae5 (h:Pb S.p S.own N) (k:Nat):S.own N.s≠.hand k:=by rw [h.1];simp
theorem QX (d:(V i).j=some j) (f:aQ j (V i).t=some N):(V i).tok=some N:=by unfold Vk.tok;rw [d];exact f
theorem LK (d:(V i).j=some j):(V i).kind=j.op.kind:=by unfold Vk.kind;rw [d]
theorem Ib (f:(V i).j=some j) (g:(V i).t=.one a) (d:((V i).with (RT.aB (V i).l (V i).t x)).tok=some N):aQ j (.idle x)=some N:=by
 have d:(match (V i).j with | none=>none | some j=>aQ j (RT.aB (V i).l (V i).t x).2)=some N:=d
 rw [f,gW g] at d
 exact d
theorem Sy.alj (H:Sy n e S V) (G:i<n) (O:(V i).j=some j) (hg:j.op.bP) (F:(V i).t=.one a) (h11:j.at'=11) (u:j.op.kind=6) (hn:j.node=rf N) (hc:j.cl=some c) (hl:j.level=lv) (E:(lv:Int)<j.op.dz) (d:Rf S e i j.op lv N c) (hp:Ptr S lv N (c.sp lv).cur)
  (ha:a=⟨3,(c.sp lv).a.slot,(c.sp lv).a.gen,(c.sp lv).a.field,(c.sp lv).cur,cB (c.sp lv).cur (rf N)⟩):∃S' x,S.p.act ((V i).t.acc (V i).l)=(S'.p,some x)/\Sy n e S' (Gd.bD V i ((V i).with (RT.aB (V i).l (V i).t x))):=by
 have J:=H.th i G
 have hT:S.T i=((V i).l,.one a):=by rw [J.lr,F]
 have hg3:=iH hg u
 have f:lv<3:=by omega
 have hle:=d.le
 obtain ⟨P,YW,W,YX⟩:=(d.sp lv (Nat.le_refl _) f).1.ex
 have hmr:=(d.sp lv (Nat.le_refl _) f).1.mr
 have eZ:Nl S.p S.own P:=H.li.pl W.pl
 have r:=Cb (a:=a) (cur:=(c.sp lv).cur) (w:=cB (c.sp lv).cur (rf N)) H.ei f eZ (by rw [ha,YW])
 have htk:(V i).tok=some N:=QX O (kY u hn (by omega))
 have hkd:(V i).kind=6:=(LK O).trans u
 obtain ⟨d1,d2,-,-⟩:=H.di.tk i G N htk
 by_cases g:eY (S.c lv P) (c.sp lv).cur
 rotate_left
 ·rw [if_neg g] at r
  refine H.fail G O F r (by omega) λS' Q fU=>.b11 N lv c h11 u hn hc hl E (λ_=>?_) (by rw [fU];intro h;cases h)
  have kN:=sI d1 d.s
  have kN':=sI ((Q.pb N).2 d1) d.s
  exact ⟨d.mv (N8 Q d.toRt) Q.mb (λk _ X s=>Q.sf G s),hp.ni Q.mb f ⟨kN,kN'⟩ (d.no lv (Nat.le_refl _)) (BU d.s) (by simp)⟩
 rw [if_pos g] at r
 have bH:=aA YX g
 have L:(S.c lv P).mark=false:=by rw [bH];exact hmr
 have U:=tV (p:=S.p) eZ.s0 f (cB (c.sp lv).cur (rf N)) (S.p.steps+1)
 have hkP:S.G.ky P<j.op.key:=W.ky H.li (by have:=hg.1.1;omega)
 have hkN:S.G.ky N=j.op.key:=(mZ d.s).trans d.key
 obtain ⟨M,hM,hMm⟩:=H.li.link U f W.pl L ⟨⟨rfl,rfl⟩,rfl⟩ d1 d.s (d.no lv (Nat.le_refl _)) (by rw [d.ht];exact E) (by
     show (S.c lv N).slot=(S.c lv P).slot/\(S.c lv N).gen=(S.c lv P).gen
     rw [bH];exact hp) (.inl (by rw [hkN];exact hkP)) (λC A fT=>by
     have A:nm (S.c lv P) C:=A
     rw [bH] at A
     obtain ⟨C',c1,c2,c3⟩:=(d.sp lv (Nat.le_refl _) f).1.cu (x9 A fT)
     have:=xh A c1
     subst this
     have hsq:=(d.sp lv (Nat.le_refl _) f).2 C A fT
     unfold Gh.Lt
     rw [hkN,mZ fT]
     all_goals grind) (λ_=>d.aj (lv-1) (by omega)) (λh=>by omega)
 obtain ⟨S',z⟩:∃S':St,S'=⟨PS.put {S.p with steps:=S.p.steps+1} P.s (jq lv P) (cB (c.sp lv).cur (rf N)),Gd.bD S.T i ((V i).l,.idle ⟨S.c lv P,true⟩),S.own,S.A,S.G.ins lv N M⟩:=⟨_,rfl⟩
 have Y:S'.G=S.G.ins lv N M:=by rw [z]
 have hSp:S'.p=PS.put {S.p with steps:=S.p.steps+1} P.s (jq lv P) (cB (c.sp lv).cur (rf N)):=by rw [z]
 have hin:∀k X,S'.G.aj k X↔S.G.aj k X\/(k=lv/\X=N):=λk X=>by rw [Y];exact Iff.rfl
 have Z:∀X,S'.G.aj 0 X↔S.G.aj 0 X:=by grind
 have hB:nC S S' (some N):=by
  refine zV (G':=S.G.ins lv N M) (l:=lv) (w:=cB (c.sp lv).cur (rf N)) eZ f L (by rw [bH];show (c.sp lv).cur.tag<(c.sp lv).cur.tag+1;omega) (λ_ _ h=>.inl h) (λ_ _=>⟨rfl,rfl,rfl⟩) (λk y X B=>?_) (λk X B=>B.imp id λh=>by rw [h.2]) (W.imp id λh=>.inl h.1) hSp Y
  have B:X∈(if k=lv then M else S.G.L k):=B
  all_goals grind
 have hL':Li S'.p S'.own S'.G:=by rw [z];exact hM
 obtain ⟨m1,m2,m3,m4,m5,m6⟩:=LJ H G hT f (W.imp id λh=>⟨(H.li.nz P (H.li.fB h.1)).1,(gY.kn h.2.1).2⟩) ⟨S.c lv P,true⟩ z hB hL' Z
 have fU:S'.T i=RT.aB (V i).l (V i).t ⟨S.c lv P,true⟩:=by rw [gW F];exact m6
 have hJ:JI S' e i j:=by
  refine .b11 N lv c h11 u hn hc hl E (λhal=>?_) ?_
  ·have:=hal ⟨S.c lv P,true⟩ (by rw [m6])
   cases this
  ·rw [m6]
   intro _
   refine ⟨⟨d.s,λk I=>?_,λk I h=>?_,by rw [Y];exact d.key,by rw [Y];exact d.ht,by omega,by omega⟩,λk hk1 y=>⟨(d.sp k (by omega) y).1.mv ⟨hB,H.li,hL'⟩ y (λX s=>m3 _ X s),λC A fT T=>by rw [Y] at T ⊢;exact (d.sp k (by omega) y).2 C A fT T⟩⟩
   ·by_cases hkl:k=lv
    ·grind
    ·exact (hin k N).2 (.inl (d.aj k (by omega)))
   ·rcases (hin k N).1 h with h | h
    ·exact d.no k (by omega) h
    ·omega
 refine ⟨S',⟨S.c lv P,true⟩,by rw [F,hSp];exact r,H.step G m1 m2 (pU J O fU (λk u=>by rw [F] at u;cases u) (by omega) hJ) (λX=>(m4 X).1) (λX=>(m4 X).2) Z (λX _=>m5 X) (λX B=>?_) (λk I hki X B h6 q=>?_)⟩
 ·have:=Ib O F B
  rw [kY u hn (by omega)] at this
  cases this
  exact ⟨htk,rfl⟩
 ·grind [M3]
theorem Sy.VX (H:Sy n e S V) (F:i<n) (M:(V i).j=some j) (hg:j.op.bP) (E:(V i).t=.one a) (h10:j.at'=10) (u:j.op.kind=6) (T:j.node=rf N) (hc:j.cl=some c) (hl:j.level=lv) (z:(lv:Int)<j.op.dz) (f:Rf S e i j.op lv N c) (Y:w.mark=false)
  (ha:a=⟨3,(ad lv N).slot,(ad lv N).gen,(ad lv N).field,w,cB w (c.sp lv).cur⟩):∃S' x,S.p.act ((V i).t.acc (V i).l)=(S'.p,some x)/\Sy n e S' (Gd.bD V i ((V i).with (RT.aB (V i).l (V i).t x))):=by
 have J:=H.th i F
 have hT:S.T i=((V i).l,.one a):=by rw [J.lr,E]
 have hg3:=iH hg u
 have r:lv<3:=by omega
 have hle:=f.le
 have G:(V i).tok=some N:=QX M (kY u T (by omega))
 have hkd:(V i).kind=6:=(LK M).trans u
 obtain ⟨d1,d2,-,-⟩:=H.di.tk i F N G
 have O:Nl S.p S.own N:=.inr ⟨f.s,d1.lv⟩
 have d:=Cb (a:=a) (cur:=w) (w:=cB w (c.sp lv).cur) H.ei r O ha
 by_cases g:eY (S.c lv N) w
 rotate_left
 ·rw [if_neg g] at d
  exact H.fail F M E d (by omega) λS' Q W=>.b10 N lv c w h10 u T hc (f.mv (N8 Q f.toRt) Q.mb (λk _ X s=>Q.sf F s)) hl z Y (by rw [W];intro h;cases h)
 rw [if_pos g] at d
 have I:(S.c lv N).mark=false:=by rw [g.2.2.2];exact Y
 have U:=tV (p:=S.p) O.s0 r (cB w (c.sp lv).cur) (S.p.steps+1)
 have hM:=H.li.VX U r d2 d1.lv (f.no lv (Nat.le_refl _)) (by rw [f.ht];exact z) I
 obtain ⟨S',y⟩:∃S':St,S'=⟨PS.put {S.p with steps:=S.p.steps+1} N.s (jq lv N) (cB w (c.sp lv).cur),Gd.bD S.T i ((V i).l,.idle ⟨S.c lv N,true⟩),S.own,S.A,S.G⟩:=⟨_,rfl⟩
 have A:S'.G=S.G:=by rw [y]
 have B:S'.p=PS.put {S.p with steps:=S.p.steps+1} N.s (jq lv N) (cB w (c.sp lv).cur):=by rw [y]
 have hB:nC S S' (some N):=zV (G':=S.G) (l:=lv) (w:=cB w (c.sp lv).cur) O r I (by rw [g.2.1];show w.tag<w.tag+1;omega) (λ_ _ h=>h) (λ_ _=>⟨rfl,rfl,rfl⟩) (λ_ _ _ h=>.inl h) (λ_ _ h=>.inl h) (.inr (.inr (.inl rfl))) B A
 have L:Li S'.p S'.own S'.G:=by rw [y];exact hM
 obtain ⟨m1,m2,m3,m4,m5,m6⟩:=LJ H F hT r (.inr ⟨f.s,ae5 d1⟩) ⟨S.c lv N,true⟩ y hB L (λX=>by rw [A])
 have W:S'.T i=RT.aB (V i).l (V i).t ⟨S.c lv N,true⟩:=by rw [gW E];exact m6
 have Z:Rt S' j.op lv N:=⟨f.s,by rw [A];exact f.aj,by rw [A];exact f.no,by rw [A];exact f.key,by rw [A];exact f.ht,f.le⟩
 have hJ:JI S' e i j:=by
  refine .b10 N lv c w h10 u T hc (f.mv Z ⟨hB,H.li,L⟩ λk _ X s=>m3 _ X s) hl z Y ?_
  rw [m6]
  intro _
  have:S'.c lv N=cB w (c.sp lv).cur:=by unfold St.c;rw [B];exact U.at O.s0
  unfold Ptr
  rw [this]
  exact ⟨rfl,rfl⟩
 refine ⟨S',⟨S.c lv N,true⟩,by rw [E,B];exact d,H.step F m1 m2 (pU J M W (λk u=>by rw [E] at u;cases u) (by omega) hJ) (λX=>(m4 X).1) (λX=>(m4 X).2) (λX=>by rw [A]) (λX _=>m5 X) (λX hX=>?_) (λk hk' hki X hX h6 q=>?_)⟩
 ·have:=Ib M E hX
  rw [kY u T (by omega)] at this
  cases this
  exact ⟨G,rfl⟩
 ·grind [M3]
end
section
variable {S S':St} {n:Nat} {e:Int} {i m l k lv:Nat} {b:Int} {τ tk tok:Option Nd} {P C D N X:Nd} {w cur:Wd} {c:Cm} {x:Rp} {K:List Nat} {ok:List Nat->Prop} {l0:Lo} {t t':RT} {q:Ca} {R R':Rp->Prop} {p p':PS} {h:LR} {j:Jb} {o:Op} {v:Vk} {V V':Nat->Vk} {a:Ac} {G':Gh} {own':Int->fG}
theorem Sy.alk (H:Sy n e S V) (hi:i<n) (hj:(V i).j=some j) (M:(V i).t=.one a) (h5:j.at'=5) (G:j.op.kind=7) (hn:j.node=rf N) (u:Fn S e i j.op.key N) (hl:j.level=lv) (hlt:(lv:Int)<S.G.ht N) (hm:∀k:Nat,lv<k->(k:Int)<S.G.ht N->(S.c k N).mark=true) (hw:w.mark=false) (W:jG S lv N w)
  (ha:a=⟨3,(ad lv N).slot,(ad lv N).gen,(ad lv N).field,w,uS w⟩):∃S' x,S.p.act ((V i).t.acc (V i).l)=(S'.p,some x)/\Sy n e S' (Gd.bD V i ((V i).with (RT.aB (V i).l (V i).t x))):=by
 have J:=H.th i hi
 have hT:S.T i=((V i).l,.one a):=by rw [J.lr,M]
 have hN1:=(H.li.nz N u.aj).1
 have r:lv<3:=by have:=(H.li.nz N u.aj).2.2.2;omega
 have TS:=sG u.sf
 have eZ:Nl S.p S.own N:=.inr ⟨hN1,TS⟩
 have f:=Cb (a:=a) (cur:=w) (w:=uS w) H.ei r eZ ha
 have ap7:∀x:Rp,aQ j (.idle x)=if zb (.idle x) true=true/\j.level=0 then some N else none:=λx=>by
  unfold aQ
  rw [hn]
  rw [iN,iN,iN,iN,if_pos h5]
  rfl
 by_cases g:eY (S.c lv N) w
 rotate_left
 ·rw [if_neg g] at f
  refine H.fail hi hj M f (by omega) λS' Q fU=>?_
  obtain ⟨f1,T,kN⟩:=u.mv Q.mb (λs=>Q.sf hi s)
  exact .d5 N lv w h5 G hn f1 hl (by rw [T];exact hlt) (λk a b=>j4 Q.mb.B (by rw [T] at b;have:=(H.li.nz N u.aj).2.2.2;omega) kN.1 kN.2 (hm k a (by rw [<-T];exact b))) hw (W.mG Q.mb.B r kN.1 kN.2) (by rw [fU];intro h;cases h)
 rw [if_pos g] at f
 have bH:=aA W g
 have A:(S.c lv N).mark=false:=by rw [bH];exact hw
 have U:=tV (p:=S.p) eZ.s0 r (uS w) (S.p.steps+1)
 have hM:=H.li.mark U r u.aj TS (by show w.slot=(S.c lv N).slot/\w.gen=(S.c lv N).gen/\true=true;rw [bH];exact ⟨rfl,rfl,rfl⟩) (λh0 k k0 O=>hm k (by omega) O)
 obtain ⟨S',F⟩:∃S':St,S'=⟨PS.put {S.p with steps:=S.p.steps+1} N.s (jq lv N) (uS w),Gd.bD S.T i ((V i).l,.idle ⟨S.c lv N,true⟩),S.own,S.A,S.G⟩:=⟨_,rfl⟩
 have jw:S'.G=S.G:=by rw [F]
 have E:S'.p=PS.put {S.p with steps:=S.p.steps+1} N.s (jq lv N) (uS w):=by rw [F]
 have hB:nC S S' none:=zV (G':=S.G) (l:=lv) (w:=uS w) eZ r A (by rw [bH];show w.tag<w.tag+1;omega) (λ_ _ h=>h) (λ_ _=>⟨rfl,rfl,rfl⟩) (λ_ _ _ h=>.inl h) (λ_ _ h=>.inl h) (.inr (.inr (.inr (by rw [bH];exact ⟨rfl,rfl⟩)))) E jw
 have Y:Li S'.p S'.own S'.G:=by rw [F];exact hM
 have pq:Mb S S' none:=⟨hB,H.li,Y⟩
 obtain ⟨m1,m2,m3,Z,m5,m6⟩:=LJ H hi hT r (.inr ⟨hN1,(gY.kn u.sf).2⟩) ⟨S.c lv N,true⟩ F hB Y (λX=>by rw [jw])
 have fU:S'.T i=RT.aB (V i).l (V i).t ⟨S.c lv N,true⟩:=by rw [gW M];exact m6
 have I:(S'.c lv N).mark=true:=by
  have:S'.c lv N=uS w:=by unfold St.c;rw [E];exact U.at eZ.s0
  rw [this];rfl
 obtain ⟨f1,T,kN⟩:=u.mv pq (λs=>m3 _ N s)
 have hJ:JI S' e i j:=by
  refine .d5 N lv w h5 G hn f1 hl (by rw [T];exact hlt) (λk a b=>j4 hB (by rw [T] at b;have:=(H.li.nz N u.aj).2.2.2;omega) kN.1 kN.2 (hm k a (by rw [<-T];exact b))) hw (W.mG hB r kN.1 kN.2) ?_
  rw [m6]
  exact λ_=>I
 have hjv:=pU J hj fU (λk G=>by rw [M] at G;cases G) (by omega) hJ
 have hx:zb (.idle ⟨S.c lv N,true⟩) true=true:=rfl
 by_cases h0:lv=0
 rotate_left
 ·refine ⟨S',⟨S.c lv N,true⟩,by rw [M,E];exact f,H.step hi m1 m2 hjv (λX=>(Z X).1) (λX=>(Z X).2) (λX=>by rw [jw]) (λX _=>m5 X) (λX z=>?_) (λ_ _ _ _ _ _=>by simp)⟩
  have:=Ib hj M z
  all_goals grind
 ·
  subst h0
  have hNP:Pb S.p S.own N:=by
   rcases H.li.F8 0 (by decide) N u.aj TS with h | h
   ·exact H.li.pb 0 (by decide) N h
   ·have h:(S.c 0 N).mark=true:=h
    rw [A] at h;cases h
  have oD:(Gd.bD V i ((V i).with (RT.aB (V i).l (V i).t ⟨S.c 0 N,true⟩)) i).tok=some N:=by
   rw [Gd.aG]
   show (match (V i).j with | none=>none | some j=>aQ j (RT.aB (V i).l (V i).t ⟨S.c 0 N,true⟩).2)=some N
   all_goals grind
  have L:(Gd.bD V i ((V i).with (RT.aB (V i).l (V i).t ⟨S.c 0 N,true⟩)) i).kind=7:=by
   rw [Gd.aG]
   show (match (V i).j with | none=>0 | some j=>j.op.kind)=7
   rw [hj]
   exact G
  have B:∀k,k≠i->Gd.bD V i ((V i).with (RT.aB (V i).l (V i).t ⟨S.c 0 N,true⟩)) k=V k:=λk G=>Gd.bR _ _ G
  have hno:∀k,k<n->(V k).tok=some N->(V k).kind=7->False:=λk O h h7=>by
   have:=(H.di.tk k O N h).2.2.1 h7
   rw [A] at this
   cases this
  refine ⟨S',⟨S.c 0 N,true⟩,by rw [M,E];exact f,m2,Y,λk y=>?_,λk y X z=>?_,λk m y MX X h1 h2 h3=>?_,λX z YZ=>?_⟩
  ·by_cases d:k=i
   ·subst d
    rw [Gd.aG]
    exact hjv
   ·rw [B k d]
    exact H.others m1 (λa ha hai X z=>(Z X).2 (H.di.tk a ha X z).1) (λ_ _ _ _ _ _=>by simp) k y d
  ·by_cases d:k=i
   ·subst d
    rw [oD] at z
    cases z
    refine ⟨(Z N).2 hNP,by rw [jw];exact u.aj,λ_=>I,?_⟩
    rw [m5,L]
    intro q
    have:=(H.di.dd N hNP u.aj).2 (by omega)
    rw [A] at this
    cases this
   ·rw [B k d] at z ⊢
    obtain ⟨a1,b1,c1,d1⟩:=H.di.tk k y X z
    have hX1:=(H.li.nz X b1).1
    all_goals grind [j4,sI]
  ·by_cases d:k=i
   ·grind
   ·by_cases MZ:m=i
    ·grind
    ·rw [B k d] at h1 h3
     rw [B m MZ] at h2 h3
     exact H.di.un k m y MX X h1 h2 h3
  ·have F9:=(Z X).1 z
   have QY:S.G.aj 0 X:=by rw [<-jw];exact YZ
   obtain ⟨d1,d2⟩:=H.di.dd X F9 QY
   have hX1:=(H.li.nz X QY).1
   all_goals grind [j4,sI]
theorem Sy.done (H:Sy n e S V) (hi:i<n) (hj:(V i).j=some j) (U:(V i).t=.one a) (G:j.at'=102) (z:j.op.kind=6\/j.op.kind=7) (hb:j.by'=j.op.kind-5) (hn:j.node=rf N) (L:S.G.aj 0 N) (hy:S.G.key N=j.op.key) (hw:w.num=0) (hd:S.dn N=w\/(S.dn N).num≠0)
  (ha:a=⟨3,N.s,N.g,7,w,uT w j.by'⟩):∃S' x,S.p.act ((V i).t.acc (V i).l)=(S'.p,some x)/\Sy n e S' (Gd.bD V i ((V i).with (RT.aB (V i).l (V i).t x))):=by
 have J:=H.th i hi
 have hT:S.T i=((V i).l,.one a):=by rw [J.lr,U]
 have hN1:=(H.li.nz N L).1
 have htk:(V i).tok=some N:=QX hj (Ev z hn G λy hy=>by rw [U] at hy;cases hy)
 obtain ⟨d1,d2,d3,d4⟩:=H.di.tk i hi N htk
 obtain ⟨v1,v2,v3⟩:=xm H.ei hN1 d1.lv (f:=7) ⟨by decide,by decide⟩
 have u:=BA (p:=S.p) (o:=w) (w:=uT w j.by') v1 v2
 rw [<-ha,v3] at u
 have hdn:S.p.cell (N.s-1).toNat (7:Int).toNat=S.dn N:=rfl
 rw [hdn] at u
 by_cases g:eY (S.dn N) w
 rotate_left
 ·rw [if_neg g] at u
  refine H.fail hi hj U u (by omega) λS' Q fU=>?_
  have hnz:(S'.dn N).num≠0:=by
   rw [Q.dn]
   rcases hd with q | q
   ·rw [q] at g;exact absurd ⟨rfl,rfl,rfl,rfl⟩ g
   ·exact q
  exact .c2 N w G z hb hn ((Q.aj 0 N).2 L) ((Q.mb.B.jJ N L).1.trans hy) hw (λ_=>.inr hnz) (by rw [fU];exact λ_=>hnz)
 rw [if_pos g] at u
 have hz:(S.dn N).num=0:=g.2.2.1.trans hw
 have hon:=H.ei.put hi hT (s:=N.s) (f:=7) (uT w j.by') ⟨S.dn N,true⟩ (λh=>by omega) (λ_=>by omega)
 obtain ⟨q1,q2,q3,q4,q5,q6,q7⟩:=BS (p:={S.p with steps:=S.p.steps+1}) (s:=N.s) (f:=7) (w:=uT w j.by')
 obtain ⟨S',A⟩:∃S':St,S'=⟨PS.put {S.p with steps:=S.p.steps+1} N.s 7 (uT w j.by'),Gd.bD S.T i ((V i).l,.idle ⟨S.dn N,true⟩),S.own,S.A,S.G⟩:=⟨_,rfl⟩
 have F:S'.G=S.G:=by rw [A]
 have Z:S'.own=S.own:=by rw [A]
 have E:S'.p=PS.put {S.p with steps:=S.p.steps+1} N.s 7 (uT w j.by'):=by rw [A]
 have ng:S'.p.gen=S.p.gen:=by rw [E];exact q6
 have W:∀k X,k<3->0<=X.s->S'.c k X=S.c k X:=λk X z _=>by
  unfold St.c
  rw [E]
  exact aeY (p:={S.p with steps:=S.p.steps+1}) z hN1 ⟨by decide,.inr (by decide)⟩ _
 have hcl:∀(i k:Nat),i≠(N.s-1).toNat\/k≠7->S'.p.cell i k=S.p.cell i k:=λi k h=>by
  rw [E]
  exact tQ (p:={S.p with steps:=S.p.steps+1}) (.inr (h.imp id λh=>by omega)) (by decide) _
 have hbd:∀k,S'.p.bd k=S.p.bd k:=λk=>by rw [E];exact JS (p:={S.p with steps:=S.p.steps+1}) (.inl (by omega)) (by decide) _
 have T:S'.dn N=uT w j.by':=by
  grind [St.dn,PS.put]
 have aiZ:∀X,1<=X.s->X.s≠N.s->S'.dn X=S.dn X:=λX Y G=>hcl _ _ (.inl (by omega))
 have I:∀X,Pb S'.p S'.own X↔Pb S.p S.own X:=λX=>by unfold Pb;rw [Z,ng]
 have QW:∀k,k<n->∀K X,S.sf e k K X->S'.sf e k K X:=λk z K X s=>by rw [A];exact hon.2 k z K trivial _ _ s
 have Gb:EI n e S'.p S'.T S'.own S'.A:=by rw [A];exact hon.1
 have hby:w.num+j.by'=j.op.kind-5:=by rw [hw,hb];omega
 have hL':Li S'.p S'.own S'.G:=by
  rw [F]
  exact H.li.same (λl hl X r=>(I X).2 (H.li.pb l hl X r)) (λX _ h=>⟨by rw [<-Z];exact h.1,by rw [<-ng];exact h.2⟩) (λl _=>hbd l) (λX r _ k hk7=>hcl _ _ (.inr hk7)) (λk=>by rw [ng];exact Int.le_refl _)
 have kn0:∀X,S.kn X->0<=X.s:=λX h=>(ady h).s0
 have hB:nC S S' none:=⟨by rw [F];exact λ_ _ h=>h,by rw [F];exact λ_ _=>⟨rfl,rfl,rfl⟩,λl hl X r _=>.inl (W l X hl (kn0 X r)),λl hl X r _ _ _ _=>by rw [W l X hl (kn0 X r)];exact ⟨rfl,rfl⟩,by rw [F];exact λ_ _ _ h=>.inl h,by rw [F];exact λ_ _ h=>.inl h,λX Y r _=>by
   by_cases q:X.s=N.s
   · refine .inr ?_
     have:X=N:=by
       rcases r with h | h
       · exact absurd h (BU Y)
       · exact Eu q (by rw [<-h.2.2,q,d1.2])
     rw [this,T]
     exact ⟨hz,by show w.num+j.by'≠0;omega⟩
   all_goals grind,by unfold aF;rw [hbd];exact Int.le_refl _⟩
 have abB:Mid S S' n e i none:=by
  refine ⟨⟨hB,H.li,hL'⟩,λk z=>by rw [A];exact Gd.bR _ _ z,λk z _ K X s=>QW k z K X s,λk z d X r=>?_⟩
  have hne:X.s≠N.s:=λq=>by have:=r.own;rw [q,d1.1] at this;cases this
  have W:∀f,S'.p.cell (X.s-1).toNat f=S.p.cell (X.s-1).toNat f:=λf=>hcl _ _ (.inl (by have:=r.s;omega))
  exact ⟨r.of (by rw [Z]) (by rw [ng]) (by rw [F];exact id) W,W⟩
 have m6:S'.T i=((V i).l,.idle ⟨S.dn N,true⟩):=by rw [A];exact Gd.aG _ _ _
 have fU:S'.T i=RT.aB (V i).l (V i).t ⟨S.dn N,true⟩:=by rw [gW U];exact m6
 have hJ:JI S' e i j:=by
  refine .c2 N w G z hb hn (by rw [F];exact L) (by rw [F];exact hy) hw (λhal=>?_) ?_
  ·have:=hal ⟨S.dn N,true⟩ (by rw [m6])
   cases this
  ·rw [m6]
   intro h
   cases h
 have hjv:=pU J hj fU (λk z=>by rw [U] at z;cases z) (by omega) hJ
 have oD:(Gd.bD V i ((V i).with (RT.aB (V i).l (V i).t ⟨S.dn N,true⟩)) i).tok=none:=by
  rw [Gd.aG]
  show (match (V i).j with | none=>none | some j=>aQ j (RT.aB (V i).l (V i).t ⟨S.dn N,true⟩).2)=none
  rw [hj,gW U]
  show aQ j (.idle ⟨S.dn N,true⟩)=none
  unfold aQ
  rw [iN,iN,if_pos G]
  exact if_pos rfl
 have M:∀k,k≠i->Gd.bD V i ((V i).with (RT.aB (V i).l (V i).t ⟨S.dn N,true⟩)) k=V k:=λk z=>Gd.bR _ _ z
 have hkd:=LK hj
 refine ⟨S',⟨S.dn N,true⟩,by rw [U,E];exact u,Gb,hL',λk B=>?_,λk B X r=>?_,λk m B MX X Y G h3=>?_,λX r YZ=>?_⟩
 ·by_cases d:k=i
  ·subst d
   rw [Gd.aG]
   exact hjv
  ·rw [M k d]
   exact H.others abB (λa ha hai X r=>(I X).2 (H.di.tk a ha X r).1) (λ_ _ _ _ _ _=>by simp) k B d
 ·by_cases d:k=i
  ·subst d
   rw [oD] at r
   cases r
  ·rw [M k d] at r ⊢
   obtain ⟨a1,b1,c1,e1⟩:=H.di.tk k B X r
   have O:=(H.li.nz X b1).1
   refine ⟨(I X).2 a1,by rw [F];exact b1,λq=>by rw [W 0 X (by decide) (by omega)];exact c1 q,?_⟩
   by_cases q:X.s=N.s
   ·have YY:=a1.lv.eq d1.lv q
    subst YY
    rw [T]
    show w.num+j.by'≠_
    intro h
    exact d (H.di.un k i B hi X r htk (by omega))
   ·rw [aiZ X O q];exact e1
 ·by_cases d:k=i
  ·subst d
   rw [oD] at Y
   cases Y
  ·by_cases MZ:m=i
   ·subst MZ
    rw [oD] at G
    cases G
   ·rw [M k d] at Y h3
    rw [M m MZ] at G h3
    exact H.di.un k m B MX X Y G h3
 ·have F9:=(I X).1 r
  have QY:S.G.aj 0 X:=by rw [<-F];exact YZ
  have O:=(H.li.nz X QY).1
  rw [W 0 X (by decide) (by omega)]
  by_cases q:X.s=N.s
  ·have YY:=F9.lv.eq d1.lv q
   subst YY
   rw [T]
   show (w.num+j.by'=0\/w.num+j.by'=1\/w.num+j.by'=2)/\(w.num+j.by'=2->_)
   all_goals grind
  ·rw [aiZ X O q]
   exact H.di.dd X F9 QY
end
end Go.Proofs.YthomdlajobnmnaaGreatDoor.Sk
