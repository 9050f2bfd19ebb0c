/- part 16 of the proof -/
import Derived.Test.YthomdlajobnmnaaGreatDoorX15
set_option linter.unusedSimpArgs false
set_option linter.unusedVariables false
namespace Go.Proofs.YthomdlajobnmnaaGreatDoor.Sk
open Go.Rex Gd
structure Mb (S S':St) (tk:Option Nd):Prop where
 B:nC S S' tk
 L:Li S.p S.own S.G
 L':Li S'.p S'.own S'.G
structure Mv (S S':St) (e:Int) (i:Nat) (tk:Option Nd) (ok:List Nat->Prop):Prop extends Mb S S' tk where
 sf:∀K,ok K->∀N,S.sf e i K N->S'.sf e i K N
 aw:∀q R R',Aw e i S.p q R (S.T i)->((q.kind≠6->q.kind≠3->q.kind≠4->q.kind≠5->q.kind≠8->∀x,R' x)/\((∀K N,S.sf e i K N->S'.sf e i K N)->∀x,R x->R' x))->Aw e i S'.p q R' (S'.T i)
section
variable {S S':St} {e:Int} {i l k:Nat} {b:Int} {τ tk:Option Nd} {P C D N X:Nd} {w cur:Wd} {c:Cm} {x:Rp} {K:List Nat} {ok:List Nat->Prop}
theorem Mb.kn (M:Mb S S' tk) {k:Nat} (g:S.G.aj k N) (f:S.sf e i K N) (a:S'.sf e i K N):S.kn N/\S'.kn N:=by
 have d:=(M.L.nz N (M.L.fB g)).1
 exact ⟨adu f d,adu a d⟩
theorem sF.mv (h:sF S e i l b P) (M:Mb S S' tk) (f:S.sf e i (Us l) P->S'.sf e i (Us l) P):sF S' e i l b P/\S.kn P/\S'.kn P:=by
 rcases h with h | ⟨d,a,g⟩
 ·exact ⟨.inl h,.inl h,.inl h⟩
 ·have:=M.kn d a (f a)
  exact ⟨.inr ⟨M.B.aj l P d,f a,by rw [(M.B.jJ P (M.L.fB d)).1];exact g⟩,this⟩
theorem za.mv (h:za S e i l k w) (M:Mb S S' tk) (g:∀N,S.sf e i [k] N->S'.sf e i [k] N):za S' e i l k w:=by
 obtain ⟨X,d,a,f⟩:=h
 exact ⟨X,d,M.B.aj l X a,g X f⟩
theorem nO.mv {s:Pt} (h:nO S e i l b s) (M:Mb S S' tk) (g:l<3) (p:∀N,S.sf e i (Us l) N->S'.sf e i (Us l) N):nO S' e i l b s:=by
 obtain ⟨P,m,j,o⟩:=h.ex
 obtain ⟨a,d,f⟩:=j.mv M (p P)
 refine ⟨⟨P,m,a,o.mG M.B g d f⟩,h.mr,λn=>?_⟩
 obtain ⟨C,c1,c2,c3⟩:=h.cu n
 exact ⟨C,c1,M.B.aj l C c2,by rw [(M.B.jJ C (M.L.fB c2)).1];exact c3⟩
theorem Nx.mv (h:Nx S e i l b τ C w) (M:Mb S S' tk) (a:l<3) (o:S.G.aj l C) (m:∀D,τ=some D->tk≠some D) (n:∀N,S.sf e i [3 * l] N->S'.sf e i [3 * l] N):Nx S' e i l b τ C w :=
 ⟨λg=>(h.cu g).mv M n,λf d j=>(h.MI f d (by rw [<-(M.B.jJ C (M.L.fB o)).1];exact j)).mG M.B a m⟩
theorem R3.mv (h:R3 S e i l b τ P C cur w) (M:Mb S S' tk) (a:l<3) (m:S.G.aj l C) (kP:S.kn P/\S'.kn P) (j:jG S l P cur) (d:S.kn C/\S'.kn C) (f:∀D,τ=some D->tk≠some D) (g:∀N,S.sf e i [3 * l] N->S'.sf e i [3 * l] N):R3 S' e i l b τ P C cur w :=
 ⟨h.1.mG M.B a d.1 d.2,λq=>(h.2 (j.back M.B a kP.1 kP.2 q)).mv M a m f g⟩
theorem Old.mv {F:Nd} (h:Old S.G c F) (M:Mb S S' tk) (o:S.G.aj 0 F) (m:∀k:Nat,0<k->k<3->∀C,nm (c.sp k).cur C->S'.G.aj 0 C->S.G.aj 0 C):Old S'.G c F:=λk f d C g n j=>by
 have a:=m k f d C g n
 have a1:=M.B.jJ C a
 have a2:=M.B.jJ F o
 rw [a1.2.2,a2.2.2]
 rw [a1.1,a2.1] at j
 exact h k f d C g a j
theorem nO.ay {s:Pt} (h:nO S e i l b s) (d:nm s.cur C) (a:1<=C.s):S.G.aj l C:=by
 grind [nO.cu,Nx.cu,x9,xh]
def QK (a:Int) (l:Nat) (K:List Nat):Prop:=(∃k,l<k/\k<3/\K=Us k)\/(a≠7/\a≠9/\K=Us l)\/(a=9/\K=Us (l+1))\/((a=3\/a=4\/a=5\/a=6\/a=7)/\K=[3 * l+1])\/((a=4\/a=5\/a=6\/a=7\/a=8)/\K=[3 * l])
theorem CC.mv (h:CC S e i b τ l c) (M:Mv S S' e i tk (QK c.at' l)) (f:∀D,τ=some D->tk≠some D):CC S' e i b τ l c :=
 ⟨h.l3,h.iG,h.bd,h.fd,λk d a=>⟨(h.sp k d a).1.mv M.toMb a (M.sf _ (.inl ⟨k,d,a,rfl⟩)),(h.sp k d a).2.mG M.B a f⟩⟩
theorem lg.mv (h:lg S e i l b c P) (M:Mb S S' tk) (g:l<3) (j:∀N,S.sf e i (Us l) N->S'.sf e i (Us l) N):lg S' e i l b c P/\S.kn P/\S'.kn P:=by
 obtain ⟨a,d,f⟩:=h.ok.mv M (j P)
 exact ⟨⟨h.pv,a,h.sn.mG M.B g d f,h.mr⟩,d,f⟩
theorem CI.mv (h:CI S e i b τ l c) (U:CC S e i b τ l c) (M:Mv S S' e i tk (QK c.at' l)) (t:∀D,τ=some D->tk≠some D) (V:(S'.T i).1.h=(S.T i).1.h\/c.at'=2\/c.at'=3):CI S' e i b τ l c:=by
 have m:=U.l3
 have A:c.at'≠7->c.at'≠9->∀N,S.sf e i (Us l) N->S'.sf e i (Us l) N:=λa b=>M.sf _ (.inr (.inl ⟨a,b,rfl⟩))
 have G:c.at'=3\/c.at'=4\/c.at'=5\/c.at'=6\/c.at'=7->∀N,S.sf e i [3 * l+1] N->S'.sf e i [3 * l+1] N:=λa=>M.sf _ (.inr (.inr (.inr (.inl ⟨a,rfl⟩))))
 have z:c.at'=4\/c.at'=5\/c.at'=6\/c.at'=7\/c.at'=8->∀N,S.sf e i [3 * l] N->S'.sf e i [3 * l] N:=λa=>M.sf _ (.inr (.inr (.inr (.inr ⟨a,rfl⟩))))
 cases h with
 | s2 P g I L o =>
  obtain ⟨a,r,s⟩:=L.mv M.toMb (A (by omega) (by omega) P)
  refine .s2 P g I a (M.aw _ _ _ o ⟨λq=>absurd rfl q,λall x j=>⟨j.1.mG M.B m r s,λB=>⟨λg=>((j.2 B).1 g).mv M.toMb (all _),λg=>((j.2 B).2 g).mG M.B m t⟩⟩⟩)
 | s3 P C g p u f n o =>
  obtain ⟨a,r,s⟩:=p.mv M.toMb m (A (by omega) (by omega))
  have d:=G (by omega) C n
  exact .s3 P C g a u (M.B.aj l C f) d (M.aw _ _ _ o ⟨λq=>absurd rfl q,λall x j=>R3.mv j M.toMb m f ⟨r,s⟩ p.sn (M.toMb.kn f n d) t (all _)⟩)
 | s4 P C g p u f n j o =>
  obtain ⟨a,r,s⟩:=p.mv M.toMb m (A (by omega) (by omega))
  have d:=G (by omega) C n
  exact .s4 P C g a u (M.B.aj l C f) d (R3.mv j M.toMb m f ⟨r,s⟩ p.sn (M.toMb.kn f n d) t (z (by omega))) (M.aw _ _ _ o ⟨λ_ q=>absurd rfl q,λall x j=>by rw [(M.B.jJ C (M.L.fB f)).1];exact j⟩)
 | s5 P C g p u f n j E o =>
  obtain ⟨a,r,s⟩:=p.mv M.toMb m (A (by omega) (by omega))
  have d:=G (by omega) C n
  have H:=(M.B.jJ C (M.L.fB f))
  refine .s5 P C g a u (M.B.aj l C f) d (R3.mv j M.toMb m f ⟨r,s⟩ p.sn (M.toMb.kn f n d) t (z (by omega))) (by rw [H.1];exact E) (M.aw _ _ _ o ⟨λ_ q=>absurd rfl q,λall x j R=>?_⟩)
  obtain ⟨q1,q2,q3⟩:=j R
  refine ⟨q1.mv M.toMb m f t (z (by omega)),λY=>(q2 (by rw [<-H.1];exact Y)).mG M.B m t,λO=>?_⟩
  refine (q3 O).mv M.toMb (M.L.fB f) λk k0 Z W n1 n2=>?_
  exact M.L.fB ((U.sp k (by omega) Z).1.ay n1 (M.L'.nz W n2).1)
 | s6 P C g p u f n j B J o =>
  obtain ⟨a,r,s⟩:=p.mv M.toMb m (A (by omega) (by omega))
  have d:=G (by omega) C n
  have F:=M.toMb.kn f n d
  exact .s6 P C g a u (M.B.aj l C f) d (j.mG M.B m F.1 F.2) B (λq=>(J q).mv M.toMb (z (by omega))) (M.aw _ _ _ o ⟨λ_ _ _ q=>absurd rfl q,λall x j L=>⟨(j L).1.mG M.B m r s,λq=>((j L).2 q).mG M.B m t⟩⟩)
 | s7 C g I f E n j B J R o T =>
  have d:=G (by omega) C n
  have F:=M.toMb.kn f n d
  have y:=V.resolve_right (by omega)
  exact .s7 C g I (M.B.aj l C f) (by rw [(M.B.jJ C (M.L.fB f)).1];exact E) d (j.mG M.B m F.1 F.2) B (λq=>(J q).mv M.toMb (z (by omega))) (λq=>(R q).mG M.B m t) (M.aw _ _ _ o ⟨λ_ _ _ _ _ _=>trivial,λ_ _ _=>trivial⟩) (by rw [y];exact T)
 | s8 P g p J o T =>
  obtain ⟨a,r,s⟩:=p.mv M.toMb m (A (by omega) (by omega))
  have y:=V.resolve_right (by omega)
  exact .s8 P g a (J.mv M.toMb (z (by omega))) (M.aw _ _ _ o ⟨λ_ _ _ _ _ _=>trivial,λ_ _ _=>trivial⟩) (by rw [y];exact T)
 | s9 P g Q I f E n o =>
  exact .s9 P g Q I (M.B.aj l P f) (by rw [(M.B.jJ P (M.L.fB f)).1];exact E) (M.sf _ (.inr (.inr (.inl ⟨g,rfl⟩))) P n) (M.aw _ _ _ o ⟨λ_ _ _ _ _ _=>trivial,λ_ _ _=>trivial⟩)
theorem CE.mv (h:CE S e i b τ c) (M:Mb S S' tk) (m:∀D,τ=some D->tk≠some D) (r:∀k,k<3->∀N,S.sf e i (Us k) N->S'.sf e i (Us k) N) (p:∀N,S.sf e i [1] N->S'.sf e i [1] N):CE S' e i b τ c:=by
 refine ⟨λk a=>⟨(h.sp k a).1.mv M a (r k a),(h.sp k a).2.mG M.B a m⟩,λd=>?_,λd C g j=>?_⟩
 ·obtain ⟨F,o,f,u,t,q⟩:=h.fd d
  exact ⟨F,o,M.B.aj 0 F f,p F u,by rw [(M.B.jJ F f).1];exact t,q.mv M f λk A n C y z=>M.L.fB ((h.sp k n).1.ay y (M.L'.nz C z).1)⟩
 ·have s:=(h.sp 0 (by decide)).1.ay g j
  rw [(M.B.jJ C s).1]
  exact h.no d C g j
end
def St.go (S:St) (i:Nat) (h:LR):St:={S with T:=Gd.bD S.T i h}
section
variable {S S':St} {n:Nat} {e:Int} {i l k:Nat} {b:Int} {τ tk:Option Nd} {P C D N X:Nd} {w cur:Wd} {c:Cm} {x:Rp} {K:List Nat} {ok:List Nat->Prop} {l0:Lo} {q:Ca} {R:Rp->Prop}
theorem nC.same (d:S'.p=S.p) (a:S'.G=S.G):nC S S' none :=
 ⟨by rw [a];exact λ_ _ h=>h,by rw [a];exact λ_ _=>⟨rfl,rfl,rfl⟩,λl _ X _ _=>.inl (by unfold St.c;rw [d]),λl _ X _ _ _ _ _=>by unfold St.c;rw [d];exact ⟨rfl,rfl⟩,by rw [a];exact λ_ _ _ h=>.inl h,by rw [a];exact λ_ _ h=>.inl h,λX _ _ _=>.inl (by unfold St.dn;rw [d]),by rw [d];exact Int.le_refl _⟩
theorem Mb.go (H:Li S.p S.own S.G) (h:LR):Mb S (S.go i h) none:=⟨nC.same rfl rfl,H,H⟩
theorem Aw.begin {p:PS} (L:dm e n p i (l0,.idle x)) (F:0<=aF p) (hq:q.OK) (d:q.kind≠3->q.kind≠4->q.kind≠5->q.kind≠6->q.kind≠8->∀x,R x) (G:q.kind≠11):Aw e i p q R (RT.begin l0 q):=by
 have h:=L.me
 have E:=L.qp
 simp only at h E
 have z:q.kind=10->Aw e i p q R (RT.fC l0 q.ay):=λa=>by
  have A:∀l:Lo,Aw e i p q R (RT.scan l):=λl=>by
   unfold RT.scan
   split
   ·exact d (by omega) (by omega) (by omega) (by omega) (by omega) _
   split <;> exact a
  have r:∀l:Lo,Aw e i p q R (RT.bQ l):=λl=>by
   unfold RT.bQ
   split
   ·exact A l
   ·exact d (by omega) (by omega) (by omega) (by omega) (by omega) _
  unfold RT.fC
  split
  ·exact r _
  split
  ·exact a
  split
  ·exact a
  ·exact d (by omega) (by omega) (by omega) (by omega) (by omega) _
 have hle:q.kind=2->Aw e i p q R (RT.leave l0 0):=λf=>by
  unfold RT.leave
  split
  ·exact .inr (.inr ⟨.inr f,rfl⟩)
  split
  ·cases RS.first l0.h (0:Int).toNat (9-(0:Int).toNat) with
   | none=>exact d (by omega) (by omega) (by omega) (by omega) (by omega) _
   | some m=>exact f
  ·exact d (by omega) (by omega) (by omega) (by omega) (by omega) _
 unfold RT.begin
 by_cases o:q.kind=1
 ·rw [if_pos o]
  split
  ·exact o
  ·exact d (by omega) (by omega) (by omega) (by omega) (by omega) _
 rw [if_neg o]
 by_cases f:q.kind=2
 ·rw [if_pos f];exact hle f
 rw [if_neg f]
 by_cases u:q.kind=3
 ·rw [if_pos u];exact .inl ⟨u,rfl⟩
 rw [if_neg u]
 by_cases B:q.kind=4
 ·rw [if_pos B];exact .inr (.inl ⟨B,rfl⟩)
 rw [if_neg B]
 by_cases y:q.kind=5
 ·rw [if_pos y];exact .inr (.inr (.inl ⟨y,rfl⟩))
 rw [if_neg y]
 by_cases k6:q.kind=6
 ·rw [if_pos k6];exact ⟨k6,rfl⟩
 rw [if_neg k6]
 by_cases s:q.kind=7
 ·rw [if_pos s]
  split
  ·rename_i g
   exact .inl ⟨s,L.bg.1 g.1,rfl,by show 25+l0.me * 9+q.i=_;rw [h];omega⟩
  ·exact d (by omega) (by omega) (by omega) (by omega) (by omega) _
 rw [if_neg s]
 by_cases j:q.kind=8
 ·rw [if_pos j]
  split
  ·exact j
  ·exact .inr (.inr (.inr ⟨j,0,F,rfl⟩))
 rw [if_neg j]
 by_cases t:q.kind=9
 ·rw [if_pos t];exact .inr (.inl ⟨t,rfl⟩)
 rw [if_neg t]
 by_cases a:q.kind=10
 ·rw [if_pos a];exact z a
 obtain ⟨H,I,-⟩:=hq
 omega
structure Bg (S:St) (n:Nat) (e:Int) (i:Nat) (l0:Lo) (q:Ca):Prop where
 ei:EI n e (S.go i (RT.begin l0 q)).p (S.go i (RT.begin l0 q)).T (S.go i (RT.begin l0 q)).own (S.go i (RT.begin l0 q)).A
 sf:∀j,j<n->∀K N,S.sf e j K N->(S.go i (RT.begin l0 q)).sf e j K N
 he:q.kind=7->(e=2\/e=3)->(RT.begin l0 q).1.h q.i.toNat=(RT.begin l0 q).1.h q.j.toNat
def qy (q:Ca):Prop:=q.OK/\(q.kind=3\/q.kind=5\/q.kind=6\/(q.kind=7/\q.i≠q.j))/\(q.kind=4\/q.kind=5->(q.slot=0->0<=q.field/\q.field<24)/\(q.slot≠0->0<=q.field/\q.field<9))
theorem nP {q:Ca} (h:(1<=q.kind/\q.kind<=11)/\(0<=q.i/\q.i<9)/\0<=q.j/\q.j<9):q.OK:=⟨h.1.1,h.1.2,h.2.1.1,h.2.1.2,h.2.2.1,h.2.2.2⟩
def CN (S:St) (n:Nat) (e:Int) (i:Nat) (b:Int) (τ:Option Nd) (l0:Lo) (r:Cm × Option Ca):Prop :=
 match r.2 with
 | some q=>qy q/\(Bg S n e i l0 q->∃l,CC (S.go i (RT.begin l0 q)) e i b τ l r.1/\CI (S.go i (RT.begin l0 q)) e i b τ l r.1)
 | none=>CE S e i b τ r.1
theorem z9:(0:Int)<=0/\(0:Int)<9:=⟨by decide,by decide⟩
theorem JY {a:Ad} {k:Int} (h:0<=k/\k<9):qy (o9 a k):=⟨nP ⟨⟨show (1:Int)<=6 by decide,show (6:Int)<=11 by decide⟩,h,z9⟩,.inr (.inr (.inl rfl)),λh=>h.elim (λh=>absurd (show (6:Int)=4 from h) (by decide)) λh=>absurd (show (6:Int)=5 from h) (by decide)⟩
theorem mh {a:Ad}:qy (gH a):=⟨nP ⟨⟨show (1:Int)<=3 by decide,show (3:Int)<=11 by decide⟩,z9,z9⟩,.inl rfl,λh=>h.elim (λh=>absurd (show (3:Int)=4 from h) (by decide)) λh=>absurd (show (3:Int)=5 from h) (by decide)⟩
theorem QM {k m:Int} (h:0<=k/\k<9) (h':0<=m/\m<9) (a:k≠m):qy (mF k m):=⟨nP ⟨⟨show (1:Int)<=7 by decide,show (7:Int)<=11 by decide⟩,h,h'⟩,.inr (.inr (.inr ⟨rfl,a⟩)),λh=>h.elim (λh=>absurd (show (7:Int)=4 from h) (by decide)) λh=>absurd (show (7:Int)=5 from h) (by decide)⟩
theorem QN (a:l<3) {o w:Wd}:qy (fM (ad l P) o w):=⟨nP ⟨⟨show (1:Int)<=5 by decide,show (5:Int)<=11 by decide⟩,⟨show (0:Int)<=0 by decide,show (0:Int)<9 by decide⟩,show (0:Int)<=0 by decide,show (0:Int)<9 by decide⟩,.inr (.inl rfl),λ_=>⟨λh=>by
    have h:P.s=0:=h
    show 0<=jq l P/\jq l P<24
    unfold jq
    rw [if_pos h];omega,λh=>by
    have h:P.s≠0:=h
    show 0<=jq l P/\jq l P<9
    unfold jq
    rw [if_neg h];omega⟩⟩
theorem vV (h:1<=N.s):ad l N=⟨N.s,N.g,2+l⟩:=by unfold ad jq;rw [iN]
theorem LD:ad l dG=⟨0,0,l⟩:=by unfold ad jq;rw [if_pos (show dG.s=0 from rfl)];rfl
theorem VZ (h:nm w N) (f:Int):wF w f=⟨N.s,N.g,f⟩:=by unfold wF;rw [h.1,h.2]
theorem CC.go (h:∀k,l<k->k<3->nO S e i k b (c.sp k)/\rA S τ k) (H:Li S.p S.own S.G) (B:Bg S n e i l0 q) (f:i<n):∀k,l<k->k<3->nO (S.go i (RT.begin l0 q)) e i k b (c.sp k)/\rA (S.go i (RT.begin l0 q)) τ k :=
 λk d a=>⟨(h k d a).1.mv (Mb.go H _) a (λN s=>B.sf i f _ _ s),λD g=>(h k d a).2 D g⟩
theorem V3 (H:EI n e S.p S.T S.own S.A):0<=aF S.p:=by have:=H.clock.2;omega
theorem xk {h':LR}:(S.go i h').T i=h':=Gd.aG _ _ _
theorem Aw.go (H:EI n e S.p S.T S.own S.A) (d:i<n) (f:S.T i=(l0,.idle x)) (hq:qy q) (a:q.kind=7->∀x,R x):Aw e i (S.go i (RT.begin l0 q)).p q R ((S.go i (RT.begin l0 q)).T i):=by
 rw [xk]
 have L:=H.loc i d
 rw [f] at L
 have g:=hq.2.1
 exact Aw.begin (p:=S.p) L (V3 (S:=S) H) hq.1 (λ_ _ _ _ _=>a (by omega)) (by omega)
theorem CN.again (H:EI n e S.p S.T S.own S.A) (p:Li S.p S.own S.G) (g:i<n) (j:S.T i=(l0,.idle x)) (f:c.bound=b) (d:c.found=Wd.zero):CN S n e i b τ l0 c.again:=by
 have a:qy (o9 (Ad.root 2) (3 * 2+1)):=JY ⟨by decide,by decide⟩
 refine ⟨a,λB=>⟨2,⟨by decide,rfl,f,d,λk o m=>by omega⟩,.s2 dG rfl rfl (.inl rfl) ?_⟩⟩
 exact Aw.go (S:=S) H g j a (λh=>absurd (show (6:Int)=7 from h) (by decide))
theorem QO {s:Pt} (a:l<3) (d:k<3):(c.set l s).sp k=if k=l then s else c.sp k:=by
 grind [Cm.set,Cm.sp]
theorem aby {s:Pt}:(c.set l s).bound=c.bound/\(c.set l s).found=c.found/\(c.set l s).k=c.k/\(c.set l s).cur=c.cur/\(c.set l s).pv=c.pv/\(c.set l s).level=c.level:=by
 grind [Cm.set]
theorem CN.lower (H:EI n e S.p S.T S.own S.A) (j:Li S.p S.own S.G) (G:i<n) (hx:S.T i=(l0,.idle x)) (hl:l<3) (lG:c.level=l) (A:c.bound=b) (M:c.found=Wd.zero) (hsp:∀k,l<k->k<3->nO S e i k b (c.sp k)/\rA S τ k)
  (f:lg S e i l b c P) (hp:rA S τ l) (O:c.cur.slot≠0->∃C,nm c.cur C/\S.G.aj l C/\b<=S.G.key C/\c.k=S.G.key C/\(l=0->S.sf e i [1] C/\Old S.G c C)):CN S n e i b τ l0 c.lower:=by
 have W:nO S e i l b ⟨c.pv,c.cur⟩:=⟨⟨P,f.pv,f.ok,f.sn⟩,f.mr,λz=>by obtain ⟨C,a1,a2,a3,-⟩:=O z;exact ⟨C,a1,a2,a3⟩⟩
 have a:∀k,l<=k->k<3->nO S e i k b ((c.set l ⟨c.pv,c.cur⟩).sp k)/\rA S τ k:=λk u p=>by
  grind [QO]
 unfold Cm.lower
 rw [lG]
 obtain ⟨U,Y,r3,r4,r5,r6⟩:=aby (c:=c) (l:=l) (s:=⟨c.pv,c.cur⟩)
 by_cases z:(l:Int)=0
 ·rw [if_pos z]
  have T:l=0:=by omega
  subst T
  refine ⟨λk L=>a k (Nat.zero_le _) L,λd=>?_,λd C r fT=>?_⟩
  ·have d:(if c.cur.slot≠0/\c.k=c.bound then c.cur.bN else c.found).slot≠0:=d
   show ∃F,(if c.cur.slot≠0/\c.k=c.bound then c.cur.bN else c.found)=_/\_
   by_cases g:c.cur.slot≠0/\c.k=c.bound
   ·rw [if_pos g]
    obtain ⟨C,a1,a2,a3,a4,a5⟩:=O g.1
    obtain ⟨a6,a7⟩:=a5 rfl
    refine ⟨C,by unfold Wd.bN;rw [a1.1,a1.2],a2,a6,by rw [<-a4,g.2,A],λk k0 V J I n2 Z=>?_⟩
    have Q:(c.set (0:Nat) ⟨c.pv,c.cur⟩).sp k=c.sp k:=by rw [QO (by decide) V,iN]
    have I:nm ((c.set (0:Nat) ⟨c.pv,c.cur⟩).sp k).cur J:=I
    rw [Q] at I
    exact a7 k k0 V J I n2 Z
   ·rw [if_neg g,M] at d
    exact absurd rfl d
  ·have Q:(c.set (0:Nat) ⟨c.pv,c.cur⟩).sp (0:Nat)=⟨c.pv,c.cur⟩:=by rw [QO (by decide) (by decide),if_pos rfl]
   have r:nm ((c.set (0:Nat) ⟨c.pv,c.cur⟩).sp (0:Nat)).cur C:=r
   rw [Q] at r
   have o:=x9 r fT
   obtain ⟨J,a1,a2,a3,a4,a5⟩:=O o
   have:=xh r a1
   subst this
   have d:(if c.cur.slot≠0/\c.k=c.bound then c.cur.bN else c.found).slot=0:=d
   intro L
   rw [if_pos ⟨o,by rw [a4,L,A]⟩] at d
   exact o d
 ·rw [if_neg z]
  have y:((l-1:Nat):Int)=(l:Int)-1:=by omega
  by_cases m:c.pv.slot=0
  ·rw [if_pos m]
   have hP:P=dG:=by
    rcases f.ok with h | h
    ·exact h
    ·rw [f.pv] at m
     have:=(j.nz P (j.fB h.1)).1
     have m:P.s=0:=m
     omega
   have E:qy (o9 (Ad.root ((l:Int)-1)) (3 * ((l:Int)-1)+1)):=JY ⟨by omega,by omega⟩
   refine ⟨E,λB=>⟨l-1,⟨by omega,y.symm,U.trans A,Y.trans M,?_⟩,.s2 dG rfl ?_ (.inl rfl) ?_⟩⟩
   ·exact CC.go (c:={c.set l ⟨c.pv,c.cur⟩ with at':=2,level:=(l:Int)-1,pv:=Ad.root ((l:Int)-1)}) (λk u p=>a k (by omega) p) j B G
   ·show Ad.root ((l:Int)-1)=_
    rw [LD,y];rfl
   ·have:o9 (ad (l-1) dG) (3 * ((l-1:Nat):Int)+1)=o9 (Ad.root ((l:Int)-1)) (3 * ((l:Int)-1)+1):=by rw [LD,y];rfl
    rw [this]
    exact Aw.go (S:=S) H G hx E (λh=>absurd (show (6:Int)=7 from h) (by decide))
  ·rw [if_neg m]
   rcases f.ok with h | ⟨u,p,h3⟩
   ·rw [f.pv,h] at m
    exact absurd rfl m
   have t:=(j.nz P (j.fB u)).1
   have E:qy (mF (3 * ((l:Int)-1)+2) (3 * ((l:Int)-1)+5)):=by grind [QM]
   refine ⟨E,λB=>⟨l-1,⟨by omega,y.symm,U.trans A,Y.trans M,?_⟩,.s9 P rfl (by omega) ?_ ?_ h3 ?_ ?_⟩⟩
   ·exact CC.go (c:={c.set l ⟨c.pv,c.cur⟩ with at':=9,level:=(l:Int)-1,pv:={c.pv with field:=2+((l:Int)-1)}}) (λk u p=>a k (by omega) p) j B G
   ·show ({c.pv with field:=2+((l:Int)-1)}:Ad)=_
    rw [f.pv,vV t,vV t,y]
   ·exact j.anG u (by omega)
   ·rw [show l-1+1=l by omega]
    exact B.sf i G _ _ p
   all_goals grind [mF,Aw.go]
end
section
variable {S S':St} {n:Nat} {e:Int} {i l k:Nat} {b:Int} {τ tk:Option Nd} {P C D N X:Nd} {w cur:Wd} {c:Cm} {x:Rp} {K:List Nat} {ok:List Nat->Prop} {l0:Lo} {q:Ca} {R:Rp->Prop}
theorem vW {p:PS} {h:LR} (a:Aw e i p q R h) (d:h=(l0,.idle x)):R x:=by
 rw [d] at a
 exact a
theorem CN.on (H:EI n e S.p S.T S.own S.A) (h:Li S.p S.own S.G) (d:i<n) (G:S.T i=(l0,.idle x)) (j:l<3) (o:c.level=l) (r:c.bound=b) (y:c.found=Wd.zero) (f:∀k,l<k->k<3->nO S e i k b (c.sp k)/\rA S τ k)
  (E:lg S e i l b c P) (F:c.cur.slot=0->rA S τ l) (z:c.cur.slot≠0->za S e i l (3 * l) c.cur):CN S n e i b τ l0 c.on:=by
 unfold Cm.on
 by_cases g:c.cur.slot=0
 ·grind [CN.lower]
 ·rw [if_neg g]
  have t:qy (mF (3 * c.level+1) (3 * c.level)):=by grind [QM]
  have I:mF (3 * c.level+1) (3 * c.level)=mF (3 * (l:Int)+1) (3 * (l:Int)):=by rw [o]
  refine ⟨t,λB=>⟨l,⟨j,o,r,y,CC.go (c:={c with at':=8}) (λk u p=>f k u p) h B d⟩,?_⟩⟩
  have m:=Mb.go (i:=i) h (RT.begin l0 (mF (3 * c.level+1) (3 * c.level)))
  have a:=(E.mv m j λN s=>B.sf i d _ _ s).1
  refine .s8 P rfl ⟨a.pv,a.ok,a.sn,a.mr⟩ ((z g).mv m λN s=>B.sf i d _ _ s) ?_ λA=>?_
  ·grind [Aw.go]
  ·have:=B.he rfl A
   rw [xk]
   rw [show (mF (3 * c.level+1) (3 * c.level)).i.toNat=3 * l+1 by show (3 * c.level+1).toNat=_;omega,show (mF (3 * c.level+1) (3 * c.level)).j.toNat=3 * l by show (3 * c.level).toNat=_;omega] at this
   exact this
theorem CN.behind (H:EI n e S.p S.T S.own S.A) (d:Li S.p S.own S.G) (f:i<n) (G:S.T i=(l0,.idle x)) (m:l<3) (p:c.level=l) (u:c.bound=b) (A:c.found=Wd.zero) (g:∀k,l<k->k<3->nO S e i k b (c.sp k)/\rA S τ k)
  (L:lg S e i l b c P) (F:za S e i l (3 * l+1) c.cur):CN S n e i b τ l0 c.behind:=by
 obtain ⟨C,o,r,y⟩:=F
 have E:=(d.nz C (d.fB r)).1
 have J:o9 (wF c.cur (2+c.level)) (3 * c.level)=o9 (ad l C) (3 * (l:Int)):=by rw [VZ o,vV E,p]
 have j:qy (o9 (wF c.cur (2+c.level)) (3 * c.level)):=JY ⟨by omega,by omega⟩
 refine ⟨j,λB=>⟨l,⟨m,p,u,A,CC.go (c:={c with at':=3}) (λk z t=>g k z t) d B f⟩,?_⟩⟩
 have I:=Mb.go (i:=i) d (RT.begin l0 (o9 (wF c.cur (2+c.level)) (3 * c.level)))
 have a:=(L.mv I m λN s=>B.sf i f _ _ s).1
 refine .s3 P C rfl ⟨a.pv,a.ok,a.sn,a.mr⟩ o r (B.sf i f _ _ y) ?_
 have:=Aw.go (S:=S) H f G j (R:=λx=>R3 (S.go i (RT.begin l0 (o9 (wF c.cur (2+c.level)) (3 * c.level)))) e i l b τ P C c.cur x.word) (λh=>absurd (show (6:Int)=7 from h) (by decide))
 rw [J] at this ⊢
 exact this
theorem adw (H:EI n e S.p S.T S.own S.A) (m:i<n) (h:S.T i=(l0,.idle x)) {a k:Nat} (j:S.sf e i [a] N) (d:a<=k) (f:k<9) (g:e=2\/e=3->(S.T i).1.h k=(S.T i).1.h a):S.sf e i [k] N :=
 gY.copy j d f (H.copied m h (by omega) f (by rw [h] at g;exact g))
theorem aiK:∀{l:Nat},l<3->3 * l+2∈Us l
 | 0,_=>by decide
 | 1,_=>by decide
 | 2,_=>by decide
theorem aiL:∀{l:Nat},∀k,k∈Us (l+1)->k∈Us l
 | 0,k,h=>List.mem_cons_of_mem _ h
 | 1,k,h=>List.mem_cons_of_mem _ h
 | _+2,k,h=>h
theorem CI.next (h:CI S e i b τ l c) (d:CC S e i b τ l c) (H:EI n e S.p S.T S.own S.A) (p:Li S.p S.own S.G) (g:i<n) (r:S.T i=(l0,.idle x)):CN S n e i b τ l0 (c.nx x):=by
 have m:=d.l3
 have E:=d.iG
 have again:CN S n e i b τ l0 c.again:=CN.again H p g r d.bd d.fd
 unfold Cm.nx
 cases h with
 | s2 P y Y ho G =>
  obtain ⟨r1,r2⟩:=vW G r
  rw [if_pos y]
  by_cases I:x.word.mark=true
  ·rw [if_pos I];exact again
  rw [if_neg I]
  have F:x.word.mark=false:=by simpa using I
  have YM:lg S e i l b {c with cur:=x.word} P:=⟨Y,ho,r1,F⟩
  by_cases hz:x.word.slot=0
  ·rw [if_pos hz]
   exact CN.lower H p g r m E d.bd d.fd (λk a b=>d.sp k a b) YM ((r2 F).2 hz) (λh=>absurd hz h)
  ·rw [if_neg hz]
   exact CN.behind H p g r m E d.bd d.fd (λk a b=>d.sp k a b) YM ((r2 F).1 hz)
 | s3 P C y A Q f o G =>
  have O:=vW G r
  rw [iN,if_pos y]
  have T:gH (wF c.cur 0)=gH ⟨C.s,C.g,0⟩:=by rw [VZ Q]
  have z:qy (gH (wF c.cur 0)):=mh
  refine ⟨z,λB=>⟨l,⟨m,E,d.bd,d.fd,CC.go (c:={c with next:=x.word,at':=4}) (λk M J=>d.sp k M J) p B g⟩,?_⟩⟩
  have u:=Mb.go (i:=i) p (RT.begin l0 (gH (wF c.cur 0)))
  obtain ⟨j,k1,k2⟩:=A.mv u m λN s=>B.sf i g _ _ s
  refine .s4 P C rfl ⟨j.pv,j.ok,j.sn,j.mr⟩ Q f (B.sf i g _ _ o) (R3.mv O u m f ⟨k1,k2⟩ A.sn (u.kn f o (B.sf i g _ _ o)) (λ_ _=>by simp) λN s=>B.sf i g _ _ s) ?_
  have:=Aw.go (S:=S) H g r z (R:=λx=>x.word.num=S.G.key C) (λh=>absurd (show (3:Int)=7 from h) (by decide))
  rw [T] at this ⊢
  exact this
 | s4 P C y A Q f o O G =>
  have L:=vW G r
  rw [iN,iN,if_pos y]
  have z:qy (gH c.pv):=mh
  refine ⟨z,λB=>⟨l,⟨m,E,d.bd,d.fd,CC.go (c:={c with k:=x.word.num,at':=5}) (λk M J=>d.sp k M J) p B g⟩,?_⟩⟩
  have u:=Mb.go (i:=i) p (RT.begin l0 (gH c.pv))
  obtain ⟨j,k1,k2⟩:=A.mv u m λN s=>B.sf i g _ _ s
  refine .s5 P C rfl ⟨j.pv,j.ok,j.sn,j.mr⟩ Q f (B.sf i g _ _ o) (R3.mv O u m f ⟨k1,k2⟩ A.sn (u.kn f o (B.sf i g _ _ o)) (λ_ _=>by simp) λN s=>B.sf i g _ _ s) L ?_
  have:=Aw.go (S:=S) H g r z (R:=R5 (S.go i (RT.begin l0 (gH c.pv))) e i l b τ C {c with k:=x.word.num,at':=5}) (λh=>absurd (show (3:Int)=7 from h) (by decide))
  have T:gH (ad l P)=gH c.pv:=by rw [A.pv]
  rw [T]
  exact this
 | s5 P C y A Q f o O L G =>
  have h5:=vW G r
  rw [iN,iN,iN,if_pos y]
  by_cases U:¬eY x.word c.cur
  ·rw [if_pos U];exact again
  rw [if_neg U]
  obtain ⟨q1,q2,q3⟩:=h5 (Decidable.not_not.1 U)
  have fT:=(p.nz C (p.fB f)).1
  by_cases I:c.next.mark=true
  ·rw [if_pos I]
   have T:fM c.pv c.cur (cB c.cur c.next)=fM (ad l P) c.cur (cB c.cur c.next):=by rw [A.pv]
   have z:qy (fM c.pv c.cur (cB c.cur c.next)):=by rw [T];exact QN m
   refine ⟨z,λB=>⟨l,⟨m,E,d.bd,d.fd,CC.go (c:={c with at':=6}) (λk M J=>d.sp k M J) p B g⟩,?_⟩⟩
   have u:=Mb.go (i:=i) p (RT.begin l0 (fM c.pv c.cur (cB c.cur c.next)))
   obtain ⟨j,k1,k2⟩:=A.mv u m λN s=>B.sf i g _ _ s
   have kC:=u.kn f o (B.sf i g _ _ o)
   refine .s6 P C rfl ⟨j.pv,j.ok,j.sn,j.mr⟩ Q f (B.sf i g _ _ o) (O.1.mG u.B m kC.1 kC.2) I (λh=>(q1.cu h).mv u λN s=>B.sf i g _ _ s) ?_
   have:=Aw.go (S:=S) H g r z (R:=R6 (S.go i (RT.begin l0 (fM c.pv c.cur (cB c.cur c.next)))) l τ P {c with at':=6}) (λh=>absurd (show (5:Int)=7 from h) (by decide))
   show Aw e i _ (fM (ad l P) c.cur (cB c.cur c.next)) _ _
   rw [<-T]
   exact this
  rw [if_neg I]
  have F:c.next.mark=false:=by simpa using I
  by_cases V:c.k>=c.bound
  ·rw [if_pos V]
   have t:b<=S.G.key C:=by rw [<-L,<-d.bd];exact V
   exact CN.lower H p g r m E d.bd d.fd (λk a b=>d.sp k a b) A (q2 t) λ_=>⟨C,Q,f,t,L,λZ=>⟨by subst Z;exact o,q3 Z⟩⟩
  rw [if_neg V]
  have t:S.G.key C<b:=by rw [<-L,<-d.bd];omega
  have z:qy (mF (3 * c.level+2) (3 * c.level+1)):=by grind [QM]
  have e1:mF (3 * c.level+2) (3 * c.level+1)=mF (3 * (l:Int)+2) (3 * (l:Int)+1):=by rw [E]
  refine ⟨z,λB=>⟨l,⟨m,E,d.bd,d.fd,CC.go (c:={c with pv:=wF c.cur (2+c.level),at':=7}) (λk M J=>d.sp k M J) p B g⟩,?_⟩⟩
  have u:=Mb.go (i:=i) p (RT.begin l0 (mF (3 * c.level+2) (3 * c.level+1)))
  have kC:=u.kn f o (B.sf i g _ _ o)
  refine .s7 C rfl ?_ f t (B.sf i g _ _ o) (O.1.mG u.B m kC.1 kC.2) F (λh=>(q1.cu h).mv u λN s=>B.sf i g _ _ s) (λh=>q1.MI h F t) ?_ λhe=>?_
  ·show wF c.cur (2+c.level)=_
   rw [VZ Q,vV fT,E]
  ·grind [Aw.go]
  ·have:=B.he rfl he
   rw [xk]
   rw [show (mF (3 * c.level+2) (3 * c.level+1)).i.toNat=3 * l+2 by show (3 * c.level+2).toNat=_;omega,show (mF (3 * c.level+2) (3 * c.level+1)).j.toNat=3 * l+1 by show (3 * c.level+1).toNat=_;omega] at this
   exact this
 | s6 P C y A Q f o O I hu G =>
  have h6:=vW G r
  rw [iN,iN,iN,iN,if_pos y]
  by_cases W:x.ok=true
  ·rw [if_pos W]
   obtain ⟨a1,a2⟩:=h6 W
   refine CN.on (P:=P) H p g r m E d.bd d.fd (λk a b=>d.sp k a b) ⟨A.pv,A.ok,a1,rfl⟩ a2 (λh=>?_)
   obtain ⟨X,x1,x2,x3⟩:=hu h
   exact ⟨X,x1,x2,x3⟩
  ·rw [if_neg W];exact again
 | s7 C y Y f L o O I hu z G he =>
  rw [iN,iN,iN,iN,iN,iN,if_pos y]
  have hs2:S.sf e i [3 * l+2] C:=by grind [adw]
  refine CN.on (P:=C) H p g r m E d.bd d.fd (λk a b=>d.sp k a b) ⟨Y,.inr ⟨f,gY.mono hs2 λk h=>?_,L⟩,O,I⟩ z hu
  all_goals grind [aiK]
 | s8 P y A hu G he =>
  rw [iN,iN,iN,iN,iN,iN,iN,if_pos y]
  obtain ⟨X,x1,x2,x3⟩:=hu
  exact CN.behind H p g r m E d.bd d.fd (λk a b=>d.sp k a b) A ⟨X,x1,x2,adw H g r x3 (by omega) (by omega) he⟩
 | s9 P y hl2 Y f L o G =>
  rw [iN,iN,iN,iN,iN,iN,iN,iN,if_pos y]
  have z:qy (o9 c.pv (3 * c.level+1)):=JY ⟨by omega,by omega⟩
  have T:o9 (ad l P) (3 * (l:Int)+1)=o9 c.pv (3 * c.level+1):=by rw [Y,E]
  refine ⟨z,λB=>⟨l,⟨m,E,d.bd,d.fd,CC.go (c:={c with at':=2}) (λk M J=>d.sp k M J) p B g⟩,.s2 P rfl Y (.inr ⟨f,?_,L⟩) ?_⟩⟩
  ·exact B.sf i g _ _ (gY.mono o aiL)
  ·rw [T]
   exact Aw.go (S:=S) H g r z (λh=>absurd (show (6:Int)=7 from h) (by decide))
end
section
variable {S S':St} {n:Nat} {e:Int} {i j l k:Nat} {b:Int} {τ tk:Option Nd} {P C D N X:Nd} {w cur:Wd} {c:Cm} {x:Rp} {K:List Nat} {ok:List Nat->Prop} {l0:Lo} {t:RT} {q:Ca} {R R':Rp->Prop} {p p':PS} {h:LR}
theorem QP {C d:Int} {a:Ac} (h:Ca.acc q C a) (m:C<=d):Ca.acc q d a :=
 h.imp id λh=>h.imp id λh=>h.imp id λ⟨k,b,g,f⟩=>⟨k,b,by omega,f⟩
theorem Aw.imp (L:dm e n p i h) (o:aF p<=aF p') (m:∀x,R x->R' x) (H:Aw e i p q R h):Aw e i p' q R' h:=by
 obtain ⟨l0,t⟩:=h
 cases t with
 | idle x=>exact m x H
 | one a=>exact QP H o
 | gp c w =>
  obtain ⟨r,g,s⟩:=H
  refine ⟨r,g,λf=>m _ (s ?_)⟩
  obtain ⟨u,d⟩:(e=3\/e=5)/\0<=c.i/\c.i<9:=L.qw
  exact F7 L (by rw [<-g];exact d) u o f
 | _=>exact H
theorem Aw.aB (L:dm e n p i (l0,t)) (T:aF p<=aF p') (s:q.kind≠6->q.kind≠3->q.kind≠4->q.kind≠5->q.kind≠8->∀x,R' x) (G:(∃c w,t=.gp c w)->∀x,R x->R' x) (O:t.aH≠0) (J:∀a,t≠.one a) (M:∀c,t≠.bX c)
  (E:(∃c w,t=.gp c w)\/t=.oZ->x.word.num=aF p) (H:Aw e i p q R (l0,t)):Aw e i p' q R' (RT.aB l0 t x):=by
 have A:q.kind=10->∀l:Lo,Aw e i p' q R' (RT.scan l):=λk l=>by
  unfold RT.scan
  split
  ·exact s (by omega) (by omega) (by omega) (by omega) (by omega) _
  split <;> exact k
 have u:q.kind=10->∀l:Lo,Aw e i p' q R' (RT.bQ l):=λk l=>by
  unfold RT.bQ
  split
  ·exact A k l
  ·exact s (by omega) (by omega) (by omega) (by omega) (by omega) _
 have f:q.kind=10->∀(l:Lo) r,Aw e i p' q R' (RT.ek l r):=λk l r=>by
  cases r with
  | nil=>exact s (by omega) (by omega) (by omega) (by omega) (by omega) _
  | cons d r=>exact k
 have hle:q.kind=2->∀(l:Lo) k,Aw e i p' q R' (RT.leave l k):=λy l k=>by
  unfold RT.leave
  split
  ·exact .inr (.inr ⟨.inr y,rfl⟩)
  split
  ·cases RS.first l.h k.toNat (9-k.toNat) with
   | none=>exact s (by omega) (by omega) (by omega) (by omega) (by omega) _
   | some m=>exact y
  ·exact s (by omega) (by omega) (by omega) (by omega) (by omega) _
 cases t with
 | idle x=>exact absurd rfl O
 | one a=>exact absurd rfl (J a)
 | bX c=>exact absurd rfl (M c)
 | fin a =>
  have Q:q.kind=7\/q.kind=9\/q.kind=1\/q.kind=2:=by
   rcases H with h | h | h
   all_goals grind
  exact s (by omega) (by omega) (by omega) (by omega) (by omega) _
 | mW=>exact .inr (.inr ⟨.inl H,rfl⟩)
 | eD k=>exact hle H _ _
 | gp c w =>
  obtain ⟨F,y,I⟩:=H
  have z:=E (.inl ⟨c,w,rfl⟩)
  simp only [RT.aB]
  rw [z]
  by_cases g:RT.gB l0 c.i (aF p)
  ·rw [if_pos g]
   exact G ⟨c,w,rfl⟩ _ (I (by rw [<-y];exact g))
  rw [if_neg g]
  split <;> exact ⟨F,y⟩
 | fA c a=>exact H
 | oZ=>exact .inr (.inr (.inr ⟨H,_,by have:=E (.inr rfl);omega,rfl⟩))
 | jo o=>exact H
 | ed o b =>
  simp only [RT.aB]
  split
  ·exact H
  ·exact u H _
 | kQ B=>exact u H _
 | o5=>exact H
 | dQ B seen =>
  simp only [RT.aB]
  split
  ·exact H
  split
  ·exact f H _ _
  split <;> exact H
 | ko B=>exact H
 | gF=>exact f H _ _
 | fE d r=>exact f H _ _
theorem N7 {own a:Int->fG} (F:Fr p p' own a j) (d:l<3):ce p' l X=ce p l X:=by
 unfold ce
 rw [F.cell,F.bd l (by omega)]
theorem alc {own d:Int->fG} (F:Fr p p' own d j) (h:Lv p' d X):Lv p own X:=by
 refine ⟨λq=>?_,by rw [<-F.gen];exact h.2⟩
 rcases F.own X.s with a | a | a
 ·exact h.1 (a.trans q)
 all_goals grind
theorem Fv {own d:Int->fG} (F:Fr p p' own d j) {s:Int} {o:fG} (h:own s=o) (g:∀i,o≠.cut i) (f:∀i,o≠.note i):d s=o:=by
 rcases F.own s with a | a | a
 all_goals grind
theorem aeZ {own d:Int->fG} (F:Fr p p' own d j) {s:Int} {o:fG} (h:d s=o) (g:∀i,o≠.note i) (f:o≠.free):own s=o:=by
 rcases F.own s with a | a | a
 all_goals grind
theorem Li.fr {own a:Int->fG} {G:Gh} (H:Li p own G) (F:Fr p p' own a j):Li p' a G :=
 H.same (λl d N f=>⟨Fv F (H.pb l d N f).1 (by simp) (by simp),by rw [F.gen];exact (H.pb l d N f).2⟩) (λN _ h=>alc F h) (λl d=>F.bd l (by omega)) (λN _ _ k _=>by rw [F.cell]) (λi=>by rw [F.gen];exact Int.le_refl _)
structure Ei (S S':St) (n:Nat) (e:Int) (j:Nat) (l0:Lo) (t:RT) (x:Rp):Prop where
 act:S.p.act (t.acc l0)=(S'.p,some x)
 T:S'.T=Gd.bD S.T j (RT.aB l0 t x)
 G:S'.G=S.G
 on:On n e S.p S.T S.own S.A S'.p S'.T S'.own S'.A (Okk e j l0 t)
 fr:Fr S.p S'.p S.own S'.own j
theorem Ei.of (H:Acc n e S.p S.T S.own S.A j l0 t):∃S' x,Ei S S' n e j l0 t x:=by
 obtain ⟨p',x,a,m,f,d,g⟩:=H
 exact ⟨⟨p',Gd.bD S.T j (RT.aB l0 t x),a,m,S.G⟩,x,f,rfl,rfl,d,g⟩
theorem Ei.mG (E:Ei S S' n e j l0 t x):nC S S' none:=by
 refine ⟨by rw [E.G];exact λ_ _ h=>h,by rw [E.G];exact λ_ _=>⟨rfl,rfl,rfl⟩,λl a X _ _=>.inl (N7 E.fr a),λl a X _ _ _ _ _=>?_,by rw [E.G];exact λ_ _ _ h=>.inl h,by rw [E.G];exact λ_ _ h=>.inl h,λX _ _ _=>.inl ?_,E.fr.aF⟩
 ·rw [show S'.c l X=S.c l X from N7 E.fr a];exact ⟨rfl,rfl⟩
 ·unfold St.dn;rw [E.fr.cell]
theorem Ei.mb (E:Ei S S' n e j l0 t x) (a:Li S.p S.own S.G):Mb S S' none:=⟨E.mG,a,by rw [E.G];exact a.fr E.fr⟩
theorem Ei.own (E:Ei S S' n e j l0 t x) (G:Li S.p S.own S.G) (H:EI n e S.p S.T S.own S.A) (o:j<n) (y:S.T j=(l0,t)) (A:t.aH≠0) (F:∀a,t≠.one a) (g:∀c,t≠.bX c) (m:∀K,ok K->Okk e j l0 t j K):Mv S S' e j none ok:=by
 have f:S'.T j=RT.aB l0 t x:=by rw [E.T];exact Gd.aG _ _ _
 have L:=H.loc j o
 rw [y] at L
 have r:t.acc l0=Ac.era->x.word.num=aF S.p:=λd=>by
  have u:=E.act
  rw [d,H.era] at u
  have g:=Option.some.inj (congrArg Prod.snd u)
  rw [<-g]
  rfl
 refine ⟨E.mb G,λK B N s=>E.on.2 j o K (m K B) _ _ s,λq R R' d h=>?_⟩
 rw [f]
 rw [y] at d
 refine d.aB L E.fr.aF h.1 (λz=>h.2 λK N s=>E.on.2 j o K (λ_=>?_) _ _ s) A F g (λz=>r ?_)
 ·grind [jZ]
 ·rcases z with ⟨c,w,rfl⟩ | rfl <;> rfl
theorem YN (h:Aw e i p q R (l0,t)) (d:q.kind=3\/q.kind=4\/q.kind=5):(∃x,t=.idle x/\R x)\/∃a,t=.one a/\Ca.acc q (aF p) a:=by
 cases t with
 | idle x=>exact .inl ⟨x,rfl,h⟩
 | one a=>exact .inr ⟨a,rfl,h⟩
 | bX c=>have h:=h.1;omega
 | gp c w=>have h:=h.1;omega
 | fA c a=>have h:=h.1;omega
 | fin a=>rcases h with ⟨h,-⟩ | ⟨h,-⟩ | ⟨h,-⟩ <;> omega
 | mW=>have h:q.kind=1:=h;omega
 | eD k=>have h:q.kind=2:=h;omega
 | oZ=>have h:q.kind=8:=h;omega
 | _=>have h:q.kind=10:=h;omega
theorem ae0 (h:CI S e i b τ l c) (hl:l<3) (Z:i<6) (L:dm e n S.p i (S.T i)) (H:S.T i=(l0,t)) (E:∀a,t≠.one a) (Q:QK c.at' l K):Okk e i l0 t i K:=λ_=>by
 rw [H] at L
 have I:=L.me
 simp only at I
 have O:∀m k,k∈Us m->k % 3=2/\(m<3->3 * m+2<=k):=λm k d=>by
  match m with
  | 0=>simp [Us] at d;omega
  | 1=>simp [Us] at d;omega
  | m+2=>simp [Us] at d;omega
 have key:∀{q:Ca} {R:Rp->Prop},Aw e i S.p q R (S.T i)->(q.kind=6\/q.kind=7)->(∀k∈K,(k:Int)≠q.i)->(∀k∈K,k<9)->(∀k,k∈K->jZ l0 t≠some (25+9 * (i:Int)+(k:Int)))/\(e=4\/e=5->∀a,t≠.fin a):=λ{q R} s G d h9=>by
  rw [H] at s
  cases t with
  | fin a =>
   rcases s with ⟨a1,a2,a3,a4⟩ | ⟨a1,-⟩ | ⟨a1,-⟩
   ·refine ⟨λk o=>?_,λW=>by omega⟩
    show (if a.kind=2 then some a.field else none)≠_
    rw [if_pos a3,a4]
    intro h
    have:=Option.some.inj h
    have:=d k o
    omega
   ·omega
   ·omega
  | fA z a =>
   obtain ⟨a1,a2⟩:=s
   obtain ⟨b1,b2⟩:(0<=z.i/\z.i<9)/\(((e=2\/e=3)/\a=Ac.store 0 0 (25+9 * i+z.i) (l0.h z.i.toNat))\/(e=5/\l0.s.is=true/\a=Ac.store 0 0 (79+i) (RS.iZ l0.s))):=L.qw
   refine ⟨λk o h=>?_,λ_ a h=>by cases h⟩
   have h:some a.field=_:=h
   have h:=Option.some.inj h
   have:=d k o
   have:=h9 k o
   rcases b2 with ⟨-,rfl⟩ | ⟨-,-,rfl⟩
   ·have h:25+9 * (i:Int)+z.i=_:=h
    rw [a2] at h
    omega
   ·have h:79+(i:Int)=_:=h
    omega
  | eD k=>exact absurd s (by show ¬q.kind=2;omega)
  | one a=>exact absurd rfl (E a)
  | _=>exact ⟨λk _=>(by simp [jZ]),λ_ a h=>(by cases h)⟩
 have one:∀{q:Ca} {R:Rp->Prop},Aw e i S.p q R (S.T i)->(q.kind=3\/q.kind=4\/q.kind=5)->(∀k,k∈K->jZ l0 t≠some (25+9 * (i:Int)+(k:Int)))/\(e=4\/e=5->∀a,t≠.fin a):=λ{q R} s G=>by
  rw [H] at s
  rcases YN s G with ⟨x,rfl,-⟩ | ⟨a,rfl,-⟩
  ·exact ⟨λk _=>by simp [jZ],λ_ a h=>by cases h⟩
  ·exact absurd rfl (E a)
 have y:∀k∈K,k<9:=λk d=>by
  rcases Q with ⟨m,E,Y,rfl⟩ | ⟨-,-,rfl⟩ | ⟨-,rfl⟩ | ⟨-,rfl⟩ | ⟨-,rfl⟩
  ·match m with
   | 0=>simp [Us] at d;omega
   | 1=>simp [Us] at d;omega
   | m+2=>simp [Us] at d;omega
  ·match l with
   | 0=>simp [Us] at d;omega
   | 1=>simp [Us] at d;omega
   | m+2=>simp [Us] at d;omega
  ·match l with
   | 0=>simp [Us] at d;omega
   | 1=>simp [Us] at d;omega
   | m+2=>simp [Us] at d;omega
  ·have:=List.mem_singleton.1 d;omega
  ·have:=List.mem_singleton.1 d;omega
 have u:∀{m:Int},((c.at'=2\/c.at'=8)/\m=3 * l+1)\/(c.at'=3/\m=3 * l)\/((c.at'=7\/c.at'=9)/\m=3 * l+2)->∀k∈K,(k:Int)≠m:=λ{m} V k d=>by
  rcases Q with ⟨m',E,Y,rfl⟩ | ⟨a1,a2,rfl⟩ | ⟨a1,rfl⟩ | ⟨a1,rfl⟩ | ⟨a1,rfl⟩
  ·have:=O _ _ d;omega
  ·have:=O _ _ d;omega
  ·have h3:=O _ _ d
   have r:l<2:=by
    cases h with
    | s9 P f r=>exact r
    | s2 P f=>omega
    | s3 P C f=>omega
    | s4 P C f=>omega
    | s5 P C f=>omega
    | s6 P C f=>omega
    | s7 C f=>omega
    | s8 P f=>omega
   omega
  ·have:=List.mem_singleton.1 d;omega
  ·have:=List.mem_singleton.1 d;omega
 cases h with
 | s2 P f T ho g=>exact key g (.inl rfl) (u (.inl ⟨.inl f,rfl⟩)) y
 | s3 P C f F J B A g=>exact key g (.inl rfl) (u (.inr (.inl ⟨f,rfl⟩))) y
 | s7 C f T B d A M V U G g W=>exact key g (.inr rfl) (u (.inr (.inr ⟨.inl f,rfl⟩))) y
 | s8 P f F U g W=>exact key g (.inr rfl) (u (.inl ⟨.inr f,rfl⟩)) y
 | s9 P f r T B d A g=>exact key g (.inr rfl) (u (.inr (.inr ⟨.inr f,rfl⟩))) y
 | s4 P C f F J B A M g=>exact one g (.inl rfl)
 | s5 P C f F J B A M d g=>exact one g (.inl rfl)
 | s6 P C f F J B A M V U g=>exact one g (.inr (.inr rfl))
end
structure Qx (S S':St) (n:Nat) (e:Int) (i:Nat) (l0:Lo) (t:RT) (x:Rp):Prop where
 act:S.p.act (t.acc l0)=(S'.p,some x)
 T:S'.T=Gd.bD S.T i (RT.aB l0 t x)
 on:On n e S.p S.T S.own S.A S'.p S'.T S'.own S'.A λ_ _=>True
 mb:Mb S S' none
 own:S'.own=S.own
 dn:∀N,S'.dn N=S.dn N
 gen:S'.p.gen=S.p.gen
 aj:∀l N,S'.G.aj l N↔S.G.aj l N
 cl:∀s j,1<=s->S.own s=.hand j->∀f,S'.p.cell (s-1).toNat f=S.p.cell (s-1).toNat f
def Tg (S:St) (b:Int) (τ:Option Nd):Prop:=∀D,τ=some D->S.G.aj 0 D/\Lv S.p S.own D/\(S.c 0 D).mark=true/\b=S.G.key D+1
section
variable {S S':St} {n:Nat} {e:Int} {i j l k:Nat} {b:Int} {τ tk:Option Nd} {P C D N X:Nd} {w cur:Wd} {c:Cm} {x:Rp} {K:List Nat} {ok:List Nat->Prop} {l0:Lo} {t:RT} {q:Ca} {R R':Rp->Prop} {p p':PS} {h:LR}
theorem Qx.sf (Q:Qx S S' n e i l0 t x) (a:j<n) {K:List Nat} {N:Nd} (s:S.sf e j K N):S'.sf e j K N:=Q.on.2 j a K trivial _ _ s
theorem Qx.Ti (Q:Qx S S' n e i l0 t x):S'.T i=RT.aB l0 t x:=by rw [Q.T];exact Gd.aG _ _ _
theorem sG (h:S.sf e i K N):Lv S.p S.own N:=⟨(gY.kn h).1,gY.gen h⟩
theorem sF.pl (h:sF S e i l b P):P=dG\/S.G.aj l P/\Lv S.p S.own P:=h.imp id λh=>⟨h.1,sG h.2.1⟩
theorem sF.ky (h:sF S e i l b P) (a:Li S.p S.own S.G) (d:0<=b):S.G.ky P<b:=by
 rcases h with h | h
 ·rw [h,show S.G.ky dG=-1 from if_pos rfl];omega
 ·rw [mZ (a.nz P (a.fB h.1)).1];exact h.2.2
theorem tY (H:EI n e S.p S.T S.own S.A) (o:l<3) (g:Nl S.p S.own P):S.p.has (ad l P).slot (ad l P).gen (ad l P).field/\S.p.live (ad l P).slot (ad l P).gen/\S.p.at (ad l P).slot (ad l P).field=S.c l P:=by
 unfold PS.has PS.at St.c ce
 rcases g with rfl | ⟨m,a⟩
 ·rw [LD]
  refine ⟨?_,.inl rfl,?_⟩
  ·rw [if_pos rfl,H.nb]
   all_goals grind
  all_goals grind [dG]
 ·rw [vV m]
  obtain ⟨f,d⟩:=H.out P.s a.1
  refine ⟨?_,.inr ⟨(H.used P.s f d).2 a.1,a.2⟩,?_⟩
  ·rw [if_neg (show ¬P.s=0 by omega)]
   exact ⟨⟨f,d⟩,by show (0:Int)<=2+l;omega,by show 2+(l:Int)<10;omega⟩
  all_goals grind
theorem xm (H:EI n e S.p S.T S.own S.A) (o:1<=N.s) (a:Lv S.p S.own N) {f:Int} (m:0<=f/\f<10):S.p.has N.s N.g f/\S.p.live N.s N.g/\S.p.at N.s f=S.p.cell (N.s-1).toNat f.toNat:=by
 obtain ⟨g,d⟩:=H.out N.s a.1
 unfold PS.has PS.at
 rw [iN,iN]
 exact ⟨⟨⟨g,d⟩,m⟩,.inr ⟨(H.used N.s g d).2 a.1,a.2⟩,rfl⟩
theorem Qx.read (a:Li S.p S.own S.G) (g:S.T i=(l0,t)) (f:S.p.act (t.acc l0)=({S.p with steps:=S.p.steps+1},some x)) (d:On n e S.p S.T S.own S.A {S.p with steps:=S.p.steps+1} (Gd.bD S.T i (RT.aB l0 t x)) S.own S.A λ_ _=>True) :
  Qx S ⟨{S.p with steps:=S.p.steps+1},Gd.bD S.T i (RT.aB l0 t x),S.own,S.A,S.G⟩ n e i l0 t x :=
 ⟨f,rfl,d,⟨⟨λ_ _ h=>h,λ_ _=>⟨rfl,rfl,rfl⟩,λl _ X _ _=>.inl rfl,λl _ X _ _ _ _ _=>⟨rfl,rfl⟩,λ_ _ _ h=>.inl h,λ_ _ h=>.inl h,λX _ _ _=>.inl rfl,Int.le_refl _⟩,a,⟨a.pb,a.aj,a.zS,a.rm,a.F8,a.bot,a.hi,a.top,a.zT,a.s0,a.f1,a.sq,a.sj,a.nz,a.kc⟩⟩,rfl,λ_=>rfl,rfl,λ_ _=>Iff.rfl,λ_ _ _ _ _=>rfl⟩
theorem QQ (H:EI n e S.p S.T S.own S.A) (B:i<n) (F:S.T i=(l0,.bX q)) (s:e=4\/e=5->l0.s.is=true) (y:q.kind=6) {w:Wd} (Q:Qx S S' n e i l0 (.bX q) ⟨w,true⟩) (G:S'.p.gen=S.p.gen)
  (E:(w.slot≠0->S.own w.slot=.Er->S.p.gen (w.slot-1).toNat=w.gen->S'.sf e i [q.i.toNat] ⟨w.slot,w.gen⟩)->R ⟨w,true⟩):Aw e i S'.p q R (S'.T i):=by
 have L:=H.loc i B
 rw [F] at L
 have J:0<=q.i/\q.i<9:=L.qw
 have A:=L.qp
 simp only at A
 have d:∀(m:w.slot≠0) (g:S.own w.slot=.Er) (o:S.p.gen (w.slot-1).toNat=w.gen),_:=λm g o =>
  Q.on.1.ready (w:=w) (c:=q) (l:=l0) B Q.Ti J A m (by rw [Q.own];exact g) (by rw [G];exact o) s
 have z:=Q.Ti
 rw [z]
 rw [z] at d
 have go:∀f,RT.aB l0 (.bX q) ⟨w,true⟩=f->(f.2=.gp q w\/(∃a,f.2=.fA q a)\/f.2=.idle ⟨w,true⟩)->Aw e i S'.p q R f:=λf I h=>by
  obtain ⟨M,r⟩:=f
  rw [I] at d
  rcases h with h | ⟨a,h⟩ | h
  ·have h:r=_:=h
   subst h
   exact ⟨y,rfl,λu=>E λm g o=>(d m g o).2 q w rfl u⟩
  ·have h:r=_:=h
   subst h
   exact ⟨y,rfl⟩
  ·have h:r=_:=h
   subst h
   exact E λm g o=>(d m g o).1 _ rfl
 refine go _ rfl ?_
 simp only [RT.aB]
 all_goals grind
theorem H6 {s g f:Int} (h:S.p.has s g f/\S.p.live s g):S.p.act (Ac.load s g f)=({S.p with steps:=S.p.steps+1},some ⟨S.p.at s f,true⟩):=Hu h.1 h.2
theorem TK (g:Li S.p S.own S.G) (f:l<3) (o:P=dG\/S.G.aj l P/\Lv S.p S.own P) (m:(S.c l P).mark=false) (d:nm (S.c l P) C) (s:1<=C.s):C∈S.G.L l:=by
 obtain ⟨a,X,r,z,u,y⟩:=g.next f (g.mem f o m) (x9 d s)
 rw [xh d u];exact y
theorem jG.refl:jG S l P (S.c l P):=⟨Int.le_refl _,λ_=>rfl,λ_=>rfl⟩
theorem aA (h:jG S l P w) (a:eY (S.c l P) w):S.c l P=w:=(h.eq a.2.1.symm).symm
theorem Tg.anJ (a:Li S.p S.own S.G) (g:l<3) (m:Tg S b τ) (d:sF S e i l b P) (f:(S.c l P).mark=false) (r:(S.c l P).slot=0):rA S τ l:=λD o=>by
 obtain ⟨d1,d2,d3,d4⟩:=m D o
 have s:=d.ky a (by have:=(a.nz D d1).2.2.1;omega)
 exact a.HY g d3 d.pl f r (by omega)
theorem Tg.ald (a:Li S.p S.own S.G) (o:l<3) (s:Tg S b τ) (d:sF S e i l b P) (f:(S.c l P).mark=false) (g:nm (S.c l P) C) (r:1<=C.s) (m:b<=S.G.key C):rA S τ l:=λD u=>by
 obtain ⟨d1,d2,d3,d4⟩:=s D u
 have y:=d.ky a (by have:=(a.nz D d1).2.2.1;omega)
 exact a.abw o d3 d.pl f g r (by omega) (by omega)
theorem CI.JR (h:CI S e i b τ l c) (V:CC S e i b τ l c) (H:EI n e S.p S.T S.own S.A) (m:Li S.p S.own S.G) (J:i<n) (T:S.T i=(l0,.bX q)) (hin:e=4\/e=5->l0.s.is=true) (eH:Tg S b τ) :
  ∃S' x,Qx S S' n e i l0 (.bX q) x/\CC S' e i b τ l c/\CI S' e i b τ l c:=by
 have o:=V.l3
 have read:∀{A:Ad},q=o9 A q.i->S.p.has A.slot A.gen A.field/\S.p.live A.slot A.gen->∃S',Qx S S' n e i l0 (.bX q) ⟨S.p.at A.slot A.field,true⟩/\CC S' e i b τ l c/\S'.G=S.G/\(∀l N,S'.c l N=S.c l N)/\S'.p.gen=S.p.gen:=λ{A} u hv=>by
  have L:S.p.act ((RT.bX q).acc l0)=({S.p with steps:=S.p.steps+1},some ⟨S.p.at A.slot A.field,true⟩):=by
   have:=H6 hv
   rw [u]
   exact this
  have Q:=Qx.read m T L (H.JR J T _)
  refine ⟨_,Q,⟨o,V.iG,V.bd,V.fd,λk h1 h2=>⟨(V.sp k h1 h2).1.mv Q.mb h2 λN s=>Q.sf J s,λD Z=>(V.sp k h1 h2).2 D Z⟩⟩,rfl,λ_ _=>rfl,rfl⟩
 have z:∀{G:Ca} {R:Rp->Prop},Aw e i S.p G R (S.T i)->G=q:=λ{G R} L=>by
  rw [T] at L
  exact L.2.symm
 have Y:∀{G:Ca} {R:Rp->Prop},Aw e i S.p G R (S.T i)->G.kind≠6->False:=λ{G R} L O=>by
  rw [T] at L
  exact O L.1
 cases h with
 | s4 P C E I hn d F hx g=>exact (Y g (show (3:Int)≠6 by decide)).elim
 | s5 P C E I hn d F hx O g=>exact (Y g (show (3:Int)≠6 by decide)).elim
 | s6 P C E I hn d F hx U hu g=>exact (Y g (show (5:Int)≠6 by decide)).elim
 | s7 C E hp d O F hx U hu u g he=>exact (Y g (show (7:Int)≠6 by decide)).elim
 | s8 P E I hu g he=>exact (Y g (show (7:Int)≠6 by decide)).elim
 | s9 P E hl2 hp d O F g=>exact (Y g (show (7:Int)≠6 by decide)).elim
 | s2 P E hp ho g =>
  have u:=z g
  have eZ:=m.pl ho.pl
  obtain ⟨v1,v2,v3⟩:=tY H o eZ
  obtain ⟨S',Q,M,W,g2,g3⟩:=read (A:=ad l P) (by rw [<-u];rfl) ⟨v1,v2⟩
  refine ⟨S',_,Q,M,.s2 P E hp (ho.mv Q.mb λs=>Q.sf J s).1 ?_⟩
  rw [u]
  refine QQ H J T hin (by rw [<-u];rfl) Q g3 λJ2=>?_
  rw [v3] at J2 ⊢
  refine ⟨by show jG S' l P (S.c l P);rw [<-g2];exact jG.refl,λU=>⟨λB=>?_,λB=>?_⟩⟩
  ·obtain ⟨a,C,r,hq',f,n2⟩:=m.next o (m.mem o ho.pl U) B
   have f:nm (S.c l P) C:=f
   have y:=m.pb l o C n2
   refine ⟨C,f,by rw [W];exact m.aj l o C n2,?_⟩
   have:=J2 B (by rw [f.1];exact y.1) (by rw [f.1,f.2];exact y.2)
   rw [<-u] at this
   have e1:(o9 (ad l P) (3 * (l:Int)+1)).i.toNat=3 * l+1:=by show (3 * (l:Int)+1).toNat=_;omega
   rw [e1] at this
   have e2:(⟨(S.c l P).slot,(S.c l P).gen⟩:Nd)=C:=Eu f.1 f.2
   rw [e2] at this
   exact this
  ·intro D Z
   rw [W]
   exact eH.anJ m o ho U B D Z
 | s3 P C E I hn d F g =>
  have u:=z g
  have fT:=(m.nz C (m.fB d)).1
  obtain ⟨v1,v2,v3⟩:=tY (l:=l) H o (.inr ⟨fT,sG F⟩)
  obtain ⟨S',Q,M,W,g2,g3⟩:=read (A:=ad l C) (by rw [<-u];rfl) ⟨v1,v2⟩
  have hc':=(I.mv Q.mb o λN s=>Q.sf J s).1
  refine ⟨S',_,Q,M,.s3 P C E hc' hn (by rw [W];exact d) (Q.sf J F) ?_⟩
  rw [u]
  refine QQ H J T hin (by rw [<-u];rfl) Q g3 λJ2=>?_
  rw [v3] at J2 ⊢
  refine ⟨by show jG S' l C (S.c l C);rw [<-g2];exact jG.refl,λbH=>?_⟩
  rw [g2] at bH
  have hpm:(S.c l P).mark=false:=by rw [bH];exact I.mr
  have TL:nm (S.c l P) C:=by rw [bH];exact hn
  have hCL:=TK m o I.ok.pl hpm TL fT
  refine ⟨λB=>?_,λB U O=>?_⟩
  ·obtain ⟨a,X,r,hq',f,n2⟩:=m.next o (List.mem_cons_of_mem _ hCL:C∈S.G.Q l) B
   have f:nm (S.c l C) X:=f
   have y:=m.pb l o X n2
   refine ⟨X,f,by rw [W];exact m.aj l o X n2,?_⟩
   have:=J2 B (by rw [f.1];exact y.1) (by rw [f.1,f.2];exact y.2)
   rw [<-u] at this
   have e1:(o9 (ad l C) (3 * (l:Int))).i.toNat=3 * l:=by show (3 * (l:Int)).toNat=_;omega
   rw [e1] at this
   have e2:(⟨(S.c l C).slot,(S.c l C).gen⟩:Nd)=X:=Eu f.1 f.2
   rw [e2] at this
   exact this
  ·intro D Z
   rw [W] at O ⊢
   obtain ⟨d1,d2,d3,d4⟩:=eH D Z
   exact m.HY o d3 (.inr ⟨d,sG F⟩) U B (by rw [mZ fT];omega)
end
section
variable {S S':St} {n:Nat} {e:Int} {i j l k:Nat} {b:Int} {τ tk:Option Nd} {P C D N X:Nd} {w cur:Wd} {c:Cm} {x:Rp} {K:List Nat} {ok:List Nat->Prop} {l0:Lo} {t:RT} {q:Ca} {R R':Rp->Prop} {p p':PS} {h:LR}
theorem ady (h:S.kn N):Nl S.p S.own N:=h.imp id λh=>⟨h.1,h.2.1.1,h.2.2⟩
theorem zV {G':Gh} (d:Nl S.p S.own P) (A:l<3) (G:(S.c l P).mark=false) (y:(S.c l P).tag<w.tag) (E:∀l N,S.G.aj l N->G'.aj l N) (H:∀N,S.G.aj 0 N->G'.key N=S.G.key N/\G'.ht N=S.G.ht N/\G'.seq N=S.G.seq N) (F:∀l,l<3->∀N,N∈G'.L l->N∈S.G.L l\/tk=some N) (m:∀l N,G'.aj l N->S.G.aj l N\/tk=some N)
  (z:P=dG\/S.G.aj l P\/tk=some P\/(w.slot=(S.c l P).slot/\w.gen=(S.c l P).gen)) (I:S'.p=PS.put {S.p with steps:=S.p.steps+1} P.s (jq l P) w) (a:S'.G=G'):nC S S' tk:=by
 have U:=tV (p:=S.p) d.s0 A w (S.p.steps+1)
 rw [<-I] at U
 have o:∀k X,S.kn X->X≠P\/k≠l->S'.c k X=S.c k X:=λk X f h=>U.ne d (ady f) h
 refine ⟨by rw [a];exact E,by rw [a];exact H,λk s X f _=>?_,λk s X f _ u r B=>?_,by rw [a];exact F,by rw [a];exact m,λX _ _ _=>.inl ?_,?_⟩
 ·by_cases g:X=P/\k=l
  ·refine .inr ?_
   rw [g.1,g.2,show S'.c l P=w from U.at d.s0]
   exact ⟨y,G⟩
  all_goals grind
 ·by_cases g:X=P/\k=l
  ·obtain ⟨rfl,rfl⟩:=g
   rcases z with h | h | h | h
   ·exact absurd h r
   ·exact absurd h u
   ·exact absurd h B
   ·rw [show S'.c k X=w from U.at d.s0];exact h
  all_goals grind
 ·unfold St.dn
  rw [U.cell _ 7 (.inr (by decide))]
 ·have:aF S'.p=aF S.p:=by unfold aF;rw [U.bd 24 (by decide)]
  rw [this];exact Int.le_refl _
theorem CC.qx (a:CC S e i b τ l c) (Q:Qx S S' n e i l0 t x) (g:i<n):CC S' e i b τ l c :=
 ⟨a.l3,a.iG,a.bd,a.fd,λk f d=>⟨(a.sp k f d).1.mv Q.mb d λN s=>Q.sf g s,(a.sp k f d).2.mG Q.mb.B d (λ_ _=>by simp)⟩⟩
theorem Fw {a:Ac} (f:S.T i=(l0,.one a)) (Q:Qx S S' n e i l0 (.one a) x) (d:R x):Aw e i p q R (S'.T i):=by
 rw [Q.Ti]
 exact d
theorem zW (a:l<3):(P.s=0->0<=jq l P/\jq l P<24)/\(P.s≠0->0<=jq l P/\jq l P<9):=by
 grind [jq]
theorem CI.one (h:CI S e i b τ l c) (hC:CC S e i b τ l c) (H:EI n e S.p S.T S.own S.A) (u:Li S.p S.own S.G) (r:i<n) {a:Ac} (I:S.T i=(l0,.one a)) (eH:Tg S b τ) :
  ∃S' x,Qx S S' n e i l0 (.one a) x/\CC S' e i b τ l c/\CI S' e i b τ l c:=by
 have z:=hC.l3
 have acc:∀{q:Ca} {R:Rp->Prop},Aw e i S.p q R (S.T i)->Ca.acc q (aF S.p) a:=λ{q R} E=>by rw [I] at E;exact E
 have uR:∀{q:Ca} {R:Rp->Prop},Aw e i S.p q R (S.T i)->q.kind=6\/q.kind=7->False:=λ{q R} E Y=>by
  rcases acc E with h | h | h | h <;> omega
 have rd:∀{s g f:Int},a=Ac.load s g f->S.p.has s g f/\S.p.live s g->∃S',Qx S S' n e i l0 (.one a) ⟨S.p.at s f,true⟩/\S'.G=S.G/\(∀l N,S'.c l N=S.c l N):=λ{s g f} E hv=>by
  have O:S.p.act ((RT.one a).acc l0)=({S.p with steps:=S.p.steps+1},some ⟨S.p.at s f,true⟩):=by
   have:=H6 hv
   show S.p.act a=_
   rw [E]
   exact this
  exact ⟨_,Qx.read u I O (H.one r I _),rfl,λ_ _=>rfl⟩
 cases h with
 | s2 P G hp ho A=>exact (uR A (.inl rfl)).elim
 | s3 P C G m J d y A=>exact (uR A (.inl rfl)).elim
 | s7 C G hp d Y y L hm hu hq A he=>exact (uR A (.inr rfl)).elim
 | s8 P G m hu A he=>exact (uR A (.inr rfl)).elim
 | s9 P G hl2 hp d Y y A=>exact (uR A (.inr rfl)).elim
 | s4 P C G m J d y L A =>
  have Z:=(u.nz C (u.fB d)).1
  have E:a=Ac.load C.s C.g 0:=by
   rcases acc A with h | h | h | h
   ·exact h.2
   ·exact absurd h.1 (show ¬(3:Int)=4 by decide)
   ·exact absurd h.1 (show ¬(3:Int)=5 by decide)
   ·exact absurd h.1 (show ¬(3:Int)=8 by decide)
  obtain ⟨v1,v2,v3⟩:=xm H Z (sG y) (f:=0) ⟨by decide,by decide⟩
  obtain ⟨S',Q,g1,g2⟩:=rd E ⟨v1,v2⟩
  obtain ⟨B,k1,k2⟩:=m.mv Q.mb z λN s=>Q.sf r s
  refine ⟨S',_,Q,hC.qx Q r,.s4 P C G B J (Q.mb.B.aj l C d) (Q.sf r y) (R3.mv L Q.mb z d ⟨k1,k2⟩ m.sn (Q.mb.kn d y (Q.sf r y)) (λ_ _=>by simp) λN s=>Q.sf r s) (Fw I Q ?_)⟩
  show (S.p.at C.s 0).num=S'.G.key C
  all_goals grind [Li.kc,dm.kc,Li.fB,sG]
 | s5 P C G m J d y L Y A =>
  have Z:=(u.nz C (u.fB d)).1
  have E:a=Ac.load (ad l P).slot (ad l P).gen (ad l P).field:=by
   rcases acc A with h | h | h | h
   ·exact h.2
   ·exact absurd h.1 (show ¬(3:Int)=4 by decide)
   ·exact absurd h.1 (show ¬(3:Int)=5 by decide)
   ·exact absurd h.1 (show ¬(3:Int)=8 by decide)
  obtain ⟨v1,v2,v3⟩:=tY H z (u.pl m.ok.pl)
  obtain ⟨S',Q,g1,g2⟩:=rd E ⟨v1,v2⟩
  obtain ⟨B,k1,k2⟩:=m.mv Q.mb z λN s=>Q.sf r s
  have hx':R3 S' e i l b τ P C c.cur c.next:=R3.mv L Q.mb z d ⟨k1,k2⟩ m.sn (Q.mb.kn d y (Q.sf r y)) (λ_ _=>by simp) λN s=>Q.sf r s
  refine ⟨S',_,Q,hC.qx Q r,.s5 P C G B J (Q.mb.B.aj l C d) (Q.sf r y) hx' (by rw [g1];exact Y) (Fw I Q ?_)⟩
  intro hsm
  rw [v3] at hsm
  have T:=aA m.sn hsm
  have F:(S.c l P).mark=false:=by rw [T];exact m.mr
  have TL:nm (S.c l P) C:=by rw [T];exact J
  refine ⟨hx'.2 (by rw [g2];exact T),λhb D hD=>?_,λhl0 k k0 k3 C' n1 n2 n3=>?_⟩
  ·rw [g1] at hb ⊢
   exact eH.ald u z m.ok F TL Z hb D hD
  ·rw [g1] at n2 n3 ⊢
   subst hl0
   have hCL:=TK u z m.ok.pl F TL Z
   rcases Nat.lt_or_ge (S.G.seq C) (S.G.seq C') with h | h
   ·exact absurd hCL (u.f1 C C' (u.fB d) n2 n3.symm h)
   ·exact h
 | s6 P C G m J d y L hm hu A =>
  have Z:=(u.nz C (u.fB d)).1
  have E:a=⟨3,(ad l P).slot,(ad l P).gen,(ad l P).field,c.cur,cB c.cur c.next⟩:=by
   rcases acc A with h | h | h | h
   ·exact absurd h.1 (show ¬(5:Int)=3 by decide)
   ·exact absurd h.1 (show ¬(5:Int)=4 by decide)
   ·exact h.2
   ·exact absurd h.1 (show ¬(5:Int)=8 by decide)
  have V:Nl S.p S.own P:=u.pl m.ok.pl
  obtain ⟨v1,v2,v3⟩:=tY H z V
  have O:=BA (p:=S.p) (o:=c.cur) (w:=cB c.cur c.next) v1 v2
  rw [<-E,v3] at O
  by_cases g:eY (S.c l P) c.cur
  ·rw [if_pos g] at O
   have T:=aA m.sn g
   have F:(S.c l P).mark=false:=by rw [T];exact m.mr
   have TL:nm (S.c l P) C:=by rw [T];exact J
   have YJ:=L.mr hm
   have U:=tV (p:=S.p) V.s0 z (cB c.cur c.next) (S.p.steps+1)
   obtain ⟨M,hM,hMm⟩:=u.unlink U z m.ok.pl F TL Z (by show (S.c l C).mark=true;rw [<-YJ];exact hm) ⟨by show c.next.slot=(S.c l C).slot;rw [<-YJ],by show c.next.gen=(S.c l C).gen;rw [<-YJ],rfl⟩
   have hon:=H.put r I (s:=P.s) (f:=jq l P) (cB c.cur c.next) ⟨S.c l P,true⟩ (zW z).1 (zW z).2
   have Q:Qx S ⟨PS.put {S.p with steps:=S.p.steps+1} P.s (jq l P) (cB c.cur c.next),Gd.bD S.T i (l0,.idle ⟨S.c l P,true⟩),S.own,S.A,S.G.H5 l M⟩ n e i l0 (.one a) ⟨S.c l P,true⟩:=by
    refine ⟨O,rfl,hon,⟨?_,u,hM⟩,rfl,λN=>?_,U.gen,λ_ _=>Iff.rfl,λs j y hj f=>?_⟩
    ·refine zV (G':=S.G.H5 l M) (w:=cB c.cur c.next) V z F ?_ (λ_ _ h=>h) (λ_ _=>⟨rfl,rfl,rfl⟩) (λk Y N hN=>.inl ?_) (λ_ _ h=>.inl h) (m.ok.imp id λh=>.inl h.1) rfl rfl
     ·rw [T];show c.cur.tag<c.cur.tag+1;omega
     all_goals grind [QI]
    ·unfold St.dn
     rw [U.cell _ 7 (.inr (by decide))]
    ·refine tQ (p:={S.p with steps:=S.p.steps+1}) ?_ (by unfold jq;split <;> omega) _
     rcases m.ok with h | h
     ·exact .inl (by rw [h];rfl)
     ·refine .inr (.inl λq=>?_)
      have O:=(u.nz P (u.fB h.1)).1
      have:s=P.s:=by omega
      rw [this] at hj
      exact (gY.kn h.2.1).2 j hj
   obtain ⟨B,k1,k2⟩:=m.mv Q.mb z λN s=>Q.sf r s
   have kC:=Q.mb.kn d y (Q.sf r y)
   refine ⟨_,_,Q,hC.qx Q r,.s6 P C G B J (Q.mb.B.aj l C d) (Q.sf r y) (L.mG Q.mb.B z kC.1 kC.2) hm (λh=>(hu h).mv Q.mb λN s=>Q.sf r s) (Fw I Q λ_=>⟨?_,λhz D hD=>?_⟩)⟩
   ·have W:=U.at V.s0
    exact ⟨by show (cB c.cur c.next).tag<=(ce _ l P).tag;rw [W];exact Int.le_refl _,λ_=>W.symm,λ_=>W.symm⟩
   ·obtain ⟨d1,d2,d3,d4⟩:=eH D hD
    have Y:=m.ok.ky u (by have:=(u.nz D d1).2.2.1;omega)
    have hDm:(ce (PS.put {S.p with steps:=S.p.steps+1} P.s (jq l P) (cB c.cur c.next)) 0 D).mark=true:=by
     rw [U.ne V (u.nl d1 d2) ?_]
     ·exact d3
     all_goals grind
    refine hM.HY z hDm (m.ok.pl.imp id λh=>⟨h.1,(U.lv P).2 h.2⟩) ?_ ?_ (show S.G.ky P<=S.G.key D by omega)
    ·rw [U.at V.s0];rfl
    ·rw [U.at V.s0];exact hz
  ·rw [if_neg g] at O
   have Q:=Qx.read u I (show S.p.act ((RT.one a).acc l0)=_ from O) (H.one r I _)
   obtain ⟨B,k1,k2⟩:=m.mv Q.mb z λN s=>Q.sf r s
   have kC:=Q.mb.kn d y (Q.sf r y)
   exact ⟨_,_,Q,hC.qx Q r,.s6 P C G B J (Q.mb.B.aj l C d) (Q.sf r y) (L.mG Q.mb.B z kC.1 kC.2) hm (λh=>(hu h).mv Q.mb λN s=>Q.sf r s) (Fw I Q λh=>by cases h)⟩
end
def rf (N:Nd):Wd:=⟨N.s,N.g,0,0,false⟩
def na (N:Nd) (f:Int):Ad:=⟨N.s,N.g,f⟩
structure Hd (S:St) (i:Nat) (N:Nd):Prop where
 s:1<=N.s
 own:S.own N.s=.hand i
 gen:S.p.gen (N.s-1).toNat=N.g
 no:¬S.G.aj 0 N
 dn:(S.dn N).num=0
 mr:∀k,k<3->(S.c k N).mark=false
def lI (S:St) (N:Nd) (k:Int):Prop:=(S.p.cell (N.s-1).toNat 0).num=k
def uV (S:St) (N:Nd) (k:Int):Prop:=(S.p.cell (N.s-1).toNat 6).num=k
def Ptr (S:St) (k:Nat) (N:Nd) (w:Wd):Prop:=(S.c k N).slot=w.slot/\(S.c k N).gen=w.gen
structure Rt (S:St) (o:Op) (lv:Nat) (N:Nd):Prop where
 s:1<=N.s
 aj:∀k,k<lv->S.G.aj k N
 no:∀k,lv<=k->¬S.G.aj k N
 key:S.G.key N=o.key
 ht:S.G.ht N=o.dz
 le:1<=lv/\(lv:Int)<=o.dz
structure Rf (S:St) (e:Int) (i:Nat) (o:Op) (lv:Nat) (N:Nd) (c:Cm):Prop extends Rt S o lv N where
 sp:∀k,lv<=k->k<3->nO S e i k o.key (c.sp k)/\∀C,nm (c.sp k).cur C->1<=C.s->S.G.key C=o.key->S.G.seq C<S.G.seq N
def fV (S:St) (e:Int) (i:Nat) (b:Int) (τ:Option Nd) (j:Jb):Prop:=∃c l,j.cl=some c/\CC S e i b τ l c/\CI S e i b τ l c
structure Fn (S:St) (e:Int) (i:Nat) (k:Int) (N:Nd):Prop where
 sf:S.sf e i [1] N
 aj:S.G.aj 0 N
 key:S.G.key N=k
def RA (S:St) (i:Nat) (x:Rp):Prop:=x.ok=true->∃N,x.word=rf N/\Hd S i N
def YP (S:St) (h:LR):Prop:=∀x,h.2=.idle x->x.ok=false
inductive JI (S:St) (e:Int) (i:Nat) (j:Jb):Prop
 | Ga (h0:j.at'=0) (ht:Aw e i S.p (Ca.of 1) (λ_=>True) (S.T i))
 | a1 (h0:j.at'=1) (hk:j.op.kind=6) (ht:Aw e i S.p (Ca.of 8) (RA S i) (S.T i))
 | a2 (N:Nd) (h0:j.at'=2) (hk:j.op.kind=6) (hn:j.node=rf N) (hh:Hd S i N) (ht:Aw e i S.p (si (na N 0) (Wd.ig j.op.key)) (λ_=>lI S N j.op.key) (S.T i))
 | a3 (N:Nd) (h0:j.at'=3) (hk:j.op.kind=6) (hn:j.node=rf N) (hh:Hd S i N) (h1:lI S N j.op.key) (ht:Aw e i S.p (si (na N 1) (Wd.ig j.op.val)) (λ_=>True) (S.T i))
 | a4 (N:Nd) (h0:j.at'=4) (hk:j.op.kind=6) (hn:j.node=rf N) (hh:Hd S i N) (h1:lI S N j.op.key) (ht:Aw e i S.p (si (na N 6) (Wd.ig j.op.dz)) (λ_=>uV S N j.op.dz) (S.T i))
 | a5 (N:Nd) (h0:j.at'=5) (hk:j.op.kind=6) (hn:j.node=rf N) (hh:Hd S i N) (h1:lI S N j.op.key) (h2:uV S N j.op.dz) (hc:fV S e i j.op.key none j)
 | a6 (N:Nd) (h0:j.at'=6) (hk:j.op.kind=6) (hn:j.node=rf N) (hh:(∃x,(S.T i).2=.idle x)\/Hd S i N) (ht:Aw e i S.p {Ca.of 9 with ay:=rf N} (λ_=>True) (S.T i))
 | a7 (N:Nd) (lv:Nat) (c:Cm) (h0:j.at'=7) (hk:j.op.kind=6) (hn:j.node=rf N) (hh:Hd S i N) (h1:lI S N j.op.key) (h2:uV S N j.op.dz) (hc:j.cl=some c) (hE:CE S e i j.op.key none c) (hf:c.found.slot=0) (hl:j.level=lv) (hlt:(lv:Int)<j.op.dz) (hp:∀k,k<lv->Ptr S k N (c.sp k).cur)
   (ht:Aw e i S.p (si (na N (2+lv)) (c.sp lv).cur.bN) (λ_=>Ptr S lv N (c.sp lv).cur) (S.T i))
 | a8 (N:Nd) (c:Cm) (h0:j.at'=8) (hk:j.op.kind=6) (hn:j.node=rf N) (hc:j.cl=some c) (hh:YP S (S.T i)->Hd S i N/\lI S N j.op.key/\uV S N j.op.dz/\CE S e i j.op.key none c/\c.found.slot=0/\∀k:Nat,(k:Int)<j.op.dz->Ptr S k N (c.sp k).cur)
   (ht:Aw e i S.p (fM (c.sp 0).a (c.sp 0).cur (cB (c.sp 0).cur (rf N))) (λx=>x.ok=true->Rf S e i j.op 1 N c) (S.T i))
 | b9 (N:Nd) (lv:Nat) (c:Cm) (h0:j.at'=9) (hk:j.op.kind=6) (hn:j.node=rf N) (hc:j.cl=some c) (hr:Rf S e i j.op lv N c) (hl:j.level=lv) (hlt:(lv:Int)<j.op.dz) (ht:Aw e i S.p (gH (na N (2+lv))) (λx=>x.word.bN=(c.sp lv).cur.bN->Ptr S lv N (c.sp lv).cur) (S.T i))
 | b10 (N:Nd) (lv:Nat) (c:Cm) (w:Wd) (h0:j.at'=10) (hk:j.op.kind=6) (hn:j.node=rf N) (hc:j.cl=some c) (hr:Rf S e i j.op lv N c) (hl:j.level=lv) (hlt:(lv:Int)<j.op.dz) (hm:w.mark=false) (ht:Aw e i S.p (fM (na N (2+lv)) w (cB w (c.sp lv).cur)) (λx=>x.ok=true->Ptr S lv N (c.sp lv).cur) (S.T i))
 | b11 (N:Nd) (lv:Nat) (c:Cm) (h0:j.at'=11) (hk:j.op.kind=6) (hn:j.node=rf N) (hc:j.cl=some c) (hl:j.level=lv) (hlt:(lv:Int)<j.op.dz) (hh:YP S (S.T i)->Rf S e i j.op lv N c/\Ptr S lv N (c.sp lv).cur)
   (ht:Aw e i S.p (fM (c.sp lv).a (c.sp lv).cur (cB (c.sp lv).cur (rf N))) (λx=>x.ok=true->Rf S e i j.op (lv+1) N c) (S.T i))
 | b12 (N:Nd) (lv:Nat) (h0:j.at'=12) (hk:j.op.kind=6) (hn:j.node=rf N) (hr:Rt S j.op lv N) (hl:j.level=lv) (hlt:(lv:Int)<j.op.dz) (hc:fV S e i j.op.key none j)
 | c1 (N:Nd) (h0:j.at'=101) (hk:j.op.kind=6\/j.op.kind=7) (hb:j.by'=j.op.kind-5) (hn:j.node=rf N) (hi:S.G.aj 0 N) (hy:S.G.key N=j.op.key) (ht:Aw e i S.p (gH (na N 7)) (λx=>S.dn N=x.word\/(S.dn N).num≠0) (S.T i))
 | c2 (N:Nd) (w:Wd) (h0:j.at'=102) (hk:j.op.kind=6\/j.op.kind=7) (hb:j.by'=j.op.kind-5) (hn:j.node=rf N) (hi:S.G.aj 0 N) (hy:S.G.key N=j.op.key) (hw:w.num=0) (hd:YP S (S.T i)->S.dn N=w\/(S.dn N).num≠0) (ht:Aw e i S.p (fM (na N 7) w (uT w j.by')) (λx=>x.ok=false->(S.dn N).num≠0) (S.T i))
 | c3 (N:Nd) (h0:j.at'=103) (hk:j.op.kind=6\/j.op.kind=7) (hn:j.node=rf N) (hd:(S.dn N).num≠0) (eH:Tg S (j.op.key+1) (some N)) (hc:fV S e i (j.op.key+1) (some N) j)
 | c4 (N:Nd) (h0:j.at'=104) (hk:j.op.kind=6\/j.op.kind=7) (hn:j.node=rf N) (ht:Aw e i S.p {Ca.of 10 with ay:=rf N} (λ_=>True) (S.T i))
 | d1 (h0:j.at'=1) (hk:j.op.kind=7\/j.op.kind=8) (hc:fV S e i j.op.key none j)
 | d2 (N:Nd) (h0:j.at'=2) (hk:j.op.kind=7) (hn:j.node=rf N) (hf:Fn S e i j.op.key N) (ht:Aw e i S.p (gH (na N 6)) (λx=>x.word.num=S.G.ht N) (S.T i))
 | d3 (N:Nd) (lv:Nat) (h0:j.at'=3) (hk:j.op.kind=7) (hn:j.node=rf N) (hf:Fn S e i j.op.key N) (hl:j.level=lv) (hlt:(lv:Int)+1=S.G.ht N) (ht:Aw e i S.p (gH (na N 1)) (λ_=>True) (S.T i))
 | d4 (N:Nd) (lv:Nat) (h0:j.at'=4) (hk:j.op.kind=7) (hn:j.node=rf N) (hf:Fn S e i j.op.key N) (hl:j.level=lv) (hlt:(lv:Int)<S.G.ht N) (hm:∀k:Nat,lv<k->(k:Int)<S.G.ht N->(S.c k N).mark=true) (ht:Aw e i S.p (gH (na N (2+lv))) (λx=>jG S lv N x.word) (S.T i))
 | d5 (N:Nd) (lv:Nat) (w:Wd) (h0:j.at'=5) (hk:j.op.kind=7) (hn:j.node=rf N) (hf:Fn S e i j.op.key N) (hl:j.level=lv) (hlt:(lv:Int)<S.G.ht N) (hm:∀k:Nat,lv<k->(k:Int)<S.G.ht N->(S.c k N).mark=true) (hw:w.mark=false) (hs:jG S lv N w) (ht:Aw e i S.p (fM (na N (2+lv)) w (uS w)) (λx=>x.ok=true->(S.c lv N).mark=true) (S.T i))
 | d6 (N:Nd) (h0:j.at'=6) (hk:j.op.kind=7) (hn:j.node=rf N) (hi:S.G.aj 0 N) (hy:S.G.key N=j.op.key) (hc:fV S e i (j.op.key+1) none j)
 | g2 (N:Nd) (h0:j.at'=2) (hk:j.op.kind=8) (hn:j.node=rf N) (hf:Fn S e i j.op.key N) (ht:Aw e i S.p (gH (na N 1)) (λ_=>True) (S.T i))
def zb (t:RT) (b:Bool):Bool:=match t with | .idle x=>x.ok == b | _=>false
def aQ (j:Jb) (t:RT):Option Nd :=
 let N:Nd:=⟨j.node.slot,j.node.gen⟩
 if j.op.kind≠6/\j.op.kind≠7 then none
 else if j.at'=101\/j.at'=103 then some N
 else if j.at'=102 then (if zb t true then none else some N)
 else if j.op.kind=6 then
  (if j.at'=8 then (if zb t true then some N else none) else if 9<=j.at'/\j.at'<=12 then some N else none)
 else (if j.at'=5 then (if zb t true/\j.level=0 then some N else none) else if j.at'=6 then some N else none)
def Ins (e:Int) (h:LR):Prop:=e=4\/e=5->h.1.s.is=true
def Ent (e:Int) (h:LR):Prop:=e=4\/e=5->h.2=.mW\/h.1.s.is=true
structure JV (S:St) (e:Int) (i:Nat) (v:Vk):Prop where
 lr:S.T i=(v.l,v.t)
 ops:v.ops.length<=12
 sl:v.said.length<=v.ops.length
 st:(v.j=none/\(v.aj=true->∃x,v.t=.idle x)/\Aw e i S.p (Ca.of 2) (λ_=>True) (S.T i)) \/
  ∃j,v.j=some j/\v.aj=true/\j.op.bP/\v.said.length<v.ops.length/\JI S e i j/\(if j.at'=0 then Ent e (S.T i) else Ins e (S.T i))
def Vk.tok (v:Vk):Option Nd:=match v.j with | none=>none | some j=>aQ j v.t
def Vk.kind (v:Vk):Int:=match v.j with | none=>0 | some j=>j.op.kind
structure Di (n:Nat) (S:St) (V:Nat->Vk):Prop where
 tk:∀i,i<n->∀N,(V i).tok=some N->Pb S.p S.own N/\S.G.aj 0 N/\((V i).kind=7->(S.c 0 N).mark=true)/\(S.dn N).num≠(V i).kind-5
 un:∀i j,i<n->j<n->∀N,(V i).tok=some N->(V j).tok=some N->(V i).kind=(V j).kind->i=j
 dd:∀N,Pb S.p S.own N->S.G.aj 0 N->((S.dn N).num=0\/(S.dn N).num=1\/(S.dn N).num=2)/\((S.dn N).num=2->(S.c 0 N).mark=true)
structure Sy (n:Nat) (e:Int) (S:St) (V:Nat->Vk):Prop where
 ei:EI n e S.p S.T S.own S.A
 li:Li S.p S.own S.G
 th:∀i,i<n->JV S e i (V i)
 di:Di n S V
structure MV (S S':St) (n:Nat) (e:Int) (i:Nat) (tk tok:Option Nd) (k6:Prop):Prop where
 M:Mv S S' e i tk λ_=>True
 T:S'.T i=S.T i
 L:dm e n S.p i (S.T i)
 hd:∀N,Hd S i N->Hd S' i N/\∀f,S'.p.cell (N.s-1).toNat f=S.p.cell (N.s-1).toNat f
 tk:∀N,tok=some N->(S.kn N/\S'.kn N)/\(k6->tk≠some N)
 lv:∀N,S.kn N->S'.kn N->Lv S'.p S'.own N\/N=dG
section
variable {S S':St} {n:Nat} {e:Int} {i l k lv:Nat} {b:Int} {τ tk tok:Option Nd} {P C D N X:Nd} {w cur:Wd} {c:Cm} {x:Rp} {K:List Nat} {ok:List Nat->Prop} {l0:Lo} {t:RT} {q:Ca} {R R':Rp->Prop} {p p':PS} {h:LR} {j:Jb} {o:Op} {k6:Prop}
theorem Aw.ni (L:dm e n p i h) (r:aF p<=aF p') (u:∀x,h.2=.idle x->R x->R' x) (s:q.kind=6->∀x,R x->R' x) (H:Aw e i p q R h):Aw e i p' q R' h:=by
 obtain ⟨l0,t⟩:=h
 cases t with
 | idle x=>exact u x rfl H
 | one a=>exact QP H r
 | gp c w =>
  obtain ⟨m,g,y⟩:=H
  refine ⟨m,g,λf=>s m _ (y ?_)⟩
  obtain ⟨z,d⟩:(e=3\/e=5)/\0<=c.i/\c.i<9:=L.qw
  exact F7 L (by rw [<-g];exact d) z r f
 | _=>exact H
theorem MV.aw (M:MV S S' n e i tk tok k6) (H:Aw e i S.p q R (S.T i)) (hq:q.kind≠6) (a:∀x,(S.T i).2=.idle x->R x->R' x):Aw e i S'.p q R' (S'.T i):=by
 rw [M.T]
 exact H.ni M.L M.M.B.aF a λh=>absurd h hq
theorem kY (a:j.op.kind=6) (d:j.node=rf N) (h:9<=j.at'/\j.at'<=12):aQ j t=some N:=by
 unfold aQ
 rw [d]
 rw [iN,iN,iN,if_pos a,iN,if_pos h]
 rfl
theorem sH (d:j.op.kind=6\/j.op.kind=7) (a:j.node=rf N) (h:j.at'=101\/j.at'=103):aQ j t=some N:=by
 unfold aQ
 rw [a]
 rw [iN,if_pos h]
 rfl
theorem H7:zb t true=true↔∃x,t=.idle x/\x.ok=true:=by
 cases t with
 | idle x=>exact ⟨λh=>⟨x,rfl,by simpa [zb] using h⟩,λ⟨y,a,d⟩=>by cases a;simpa [zb] using d⟩
 | _=>exact ⟨λh=>(by cases h),λ⟨y,a,d⟩=>(by cases a)⟩
theorem ae1 (h:∀x,t=.idle x->x.ok=false):¬zb t true=true:=by grind [H7]
theorem Ev (f:j.op.kind=6\/j.op.kind=7) (d:j.node=rf N) (h:j.at'=102) (a:∀x,t=.idle x->x.ok=false):aQ j t=some N:=by
 unfold aQ
 rw [d]
 rw [iN,iN,if_pos h,if_neg (ae1 a)]
 rfl
theorem QR (a:j.op.kind=6) (g:j.node=rf N) (h:j.at'=8) (f:t=.idle x) (d:x.ok=true):aQ j t=some N:=by
 unfold aQ
 rw [g]
 rw [iN,iN,iN,if_pos a,if_pos h,if_pos (H7.2 ⟨x,f,d⟩)]
 rfl
theorem QS (d:j.op.kind=7) (a:j.node=rf N) (h:j.at'=6):aQ j t=some N:=by
 unfold aQ
 rw [a]
 rw [iN,iN,iN,iN,iN,if_pos h]
 rfl
theorem Hd.ce (h:Hd S i N) (a:∀f,S'.p.cell (N.s-1).toNat f=S.p.cell (N.s-1).toNat f) (k:Nat):S'.c k N=S.c k N:=by
 have:=h.s
 unfold St.c Sk.ce
 all_goals grind
theorem fV.mv (h:fV S e i b τ j) (M:Mv S S' e i tk λ_=>True) (g:S'.T i=S.T i) (f:∀D,τ=some D->tk≠some D):fV S' e i b τ j:=by
 obtain ⟨c,l,m,a,r⟩:=h
 have d:Mv S S' e i tk (QK c.at' l):=⟨M.toMb,λK _=>M.sf K trivial,M.aw⟩
 exact ⟨c,l,m,a.mv d f,r.mv a d f (.inl (by rw [g]))⟩
theorem Rt.ni (h:Rt S o lv N) (M:Mb S S' tk) (f:tk≠some N):Rt S' o lv N:=by
 have d:=M.B.jJ N (h.aj 0 (by have:=h.le;omega))
 exact ⟨h.s,λk a=>M.B.aj k N (h.aj k a),λk a g=>(M.B.nin k N g).elim (h.no k a) f,by rw [d.1];exact h.key,by rw [d.2.1];exact h.ht,h.le⟩
theorem Rf.mv (h:Rf S e i o lv N c) (s:Rt S' o lv N) (M:Mb S S' tk) (u:∀k,k<3->∀N,S.sf e i (Us k) N->S'.sf e i (Us k) N):Rf S' e i o lv N c:=by
 refine ⟨s,λk d a=>⟨(h.sp k d a).1.mv M a (u k a),λC f g r=>?_⟩⟩
 have y:=M.L.fB ((h.sp k d a).1.ay f g)
 have m:=M.B.jJ C y
 have z:=M.B.jJ N (h.aj 0 (by have:=h.le;omega))
 rw [m.2.2,z.2.2]
 exact (h.sp k d a).2 C f g (by rw [<-m.1];exact r)
theorem Rf.ni (h:Rf S e i o lv N c) (M:Mv S S' e i tk λ_=>True) (a:tk≠some N):Rf S' e i o lv N c:=h.mv (h.toRt.ni M.toMb a) M.toMb λk _=>M.sf _ trivial
theorem Ptr.ni (h:Ptr S k N w) (M:Mb S S' tk) (d:k<3) (a:S.kn N/\S'.kn N) (m:¬S.G.aj k N) (f:N≠dG) (g:tk≠some N):Ptr S' k N w:=by
 have:=M.B.ptr k d N a.1 a.2 m f g
 exact ⟨this.1.trans h.1,this.2.trans h.2⟩
theorem Fn.mv (h:Fn S e i b N) (M:Mb S S' tk) (a:S.sf e i [1] N->S'.sf e i [1] N):Fn S' e i b N/\S'.G.ht N=S.G.ht N/\S.kn N/\S'.kn N:=by
 have d:=M.B.jJ N h.aj
 exact ⟨⟨a h.sf,M.B.aj 0 N h.aj,d.1.trans h.key⟩,d.2.1,M.kn h.aj h.sf (a h.sf)⟩
theorem j4 (B:nC S S' tk) (d:k<3) (g:S.kn N) (f:S'.kn N) (a:(S.c k N).mark=true):(S'.c k N).mark=true:=by
 grind [nC.tag]
theorem YQ (B:nC S S' tk) (f:1<=N.s) (d:S.kn N) (a:S'.kn N) (hd:(S.dn N).num≠0):(S'.dn N).num≠0:=by
 rcases B.dn N f d a with q | ⟨q,-⟩
 all_goals grind
theorem adz (B:nC S S' tk) (f:1<=N.s) (d:S.kn N) (a:S'.kn N) (hd:S.dn N=w\/(S.dn N).num≠0):S'.dn N=w\/(S'.dn N).num≠0:=by
 rcases B.dn N f d a with q | ⟨-,q⟩
 ·rw [q];exact hd
 ·exact .inr q
theorem BU (h:1<=N.s):N≠dG:=λq=>by rw [q] at h;exact absurd h (by decide)
theorem JI.ni (h:JI S e i j) (M:MV S S' n e i tk (aQ j (S.T i).2) (j.op.kind=6\/j.at'=103)) (hg:j.op.kind=6->j.op.dz<=3):JI S' e i j:=by
 have U:∀{N:Nd},aQ j (S.T i).2=some N->(S.kn N/\S'.kn N)/\(j.op.kind=6\/j.at'=103->tk≠some N):=λ{N} h=>M.tk N h
 have J:=M.M
 have Mb:=J.toMb
 have Y:∀N,S.sf e i [1] N->S'.sf e i [1] N:=λN s=>J.sf _ trivial N s
 have sfU:∀k,k<3->∀N,S.sf e i (Us k) N->S'.sf e i (Us k) N:=λk _ N s=>J.sf _ trivial N s
 have Ew:∀{b:Int},fV S e i b none j->fV S' e i b none j:=λ{b} u=>u.mv J M.T λD L=>by cases L
 have m6:∀{k:Int},k≠6->k≠6:=λh=>h
 have YR:j.op.kind=7->∀{N:Nd} {k:Nat},Fn S e i j.op.key N->(k:Int)<S.G.ht N->k<3:=λ_ {N k} E d=>by
  have:=(Mb.L.nz N E.aj).2.2.2;omega
 cases h with
 | Ga f m=>exact .Ga f (M.aw m (show (1:Int)≠6 by decide) λ_ _ _=>trivial)
 | a1 f d m=>exact .a1 f d (M.aw m (show (8:Int)≠6 by decide) λx _ z W=>by
     obtain ⟨N,n1,n2⟩:=z W
     exact ⟨N,n1,(M.hd N n2).1⟩)
 | a2 N f d g F m =>
  obtain ⟨B,u⟩:=M.hd N F
  exact .a2 N f d g B (M.aw m (show (4:Int)≠6 by decide) λx _ z=>by unfold lI;rw [u];exact z)
 | a3 N f d g F h1 m =>
  obtain ⟨B,u⟩:=M.hd N F
  exact .a3 N f d g B (by unfold lI;rw [u];exact h1) (M.aw m (show (4:Int)≠6 by decide) λ_ _ _=>trivial)
 | a4 N f d g F h1 m =>
  obtain ⟨B,u⟩:=M.hd N F
  exact .a4 N f d g B (by unfold lI;rw [u];exact h1) (M.aw m (show (4:Int)≠6 by decide) λx _ z=>by unfold uV;rw [u];exact z)
 | a5 N f d g F h1 h2 u =>
  obtain ⟨B,A⟩:=M.hd N F
  exact .a5 N f d g B (by unfold lI;rw [A];exact h1) (by unfold uV;rw [A];exact h2) (Ew u)
 | a6 N f d g F m =>
  refine .a6 N f d g ?_ (M.aw m (show (9:Int)≠6 by decide) λ_ _ _=>trivial)
  rw [M.T]
  exact F.imp id λh=>(M.hd N h).1
 | a7 N lv c f d g F h1 h2 u hE E G r hp m =>
  obtain ⟨B,A⟩:=M.hd N F
  exact .a7 N lv c f d g B (by unfold lI;rw [A];exact h1) (by unfold uV;rw [A];exact h2) u (hE.mv Mb (λD L=>by cases L) sfU Y) E G r (λk d=>by unfold Ptr;rw [F.ce A];exact hp k d) (M.aw m (show (4:Int)≠6 by decide) λx _ z=>by unfold Ptr;rw [F.ce A];exact z)
 | a8 N c f d g u F m =>
  refine .a8 N c f d g u (λQ=>?_) (M.aw m (show (5:Int)≠6 by decide) λx z hR W=>(hR W).ni J ((U (QR d g f z W)).2 (.inl d)))
  rw [M.T] at Q
  obtain ⟨q1,q2,q3,q4,q5,q6⟩:=F Q
  obtain ⟨B,A⟩:=M.hd N q1
  exact ⟨B,by unfold lI;rw [A];exact q2,by unfold uV;rw [A];exact q3,q4.mv Mb (λD L=>by cases L) sfU Y,q5,λk d=>by unfold Ptr;rw [q1.ce A];exact q6 k d⟩
 | b9 N lv c f d g u T G r m =>
  obtain ⟨kN,nt⟩:=U (kY d g (by omega))
  have nt:=nt (.inl d)
  exact .b9 N lv c f d g u (T.ni J nt) G r (M.aw m (show (3:Int)≠6 by decide) λx _ z Z=>(z Z).ni Mb (by have:=hg d;omega) kN (T.no lv (Nat.le_refl _)) (BU T.s) nt)
 | b10 N lv c w f d g u T G r hm m =>
  obtain ⟨kN,nt⟩:=U (kY d g (by omega))
  have nt:=nt (.inl d)
  exact .b10 N lv c w f d g u (T.ni J nt) G r hm (M.aw m (show (5:Int)≠6 by decide) λx _ z Z=>(z Z).ni Mb (by have:=hg d;omega) kN (T.no lv (Nat.le_refl _)) (BU T.s) nt)
 | b11 N lv c f d g u G r F m =>
  obtain ⟨kN,nt⟩:=U (kY d g (by omega))
  have nt:=nt (.inl d)
  refine .b11 N lv c f d g u G r (λQ=>?_) (M.aw m (show (5:Int)≠6 by decide) λx _ z Z=>(z Z).ni J nt)
  rw [M.T] at Q
  obtain ⟨q1,q2⟩:=F Q
  exact ⟨q1.ni J nt,q2.ni Mb (by have:=hg d;omega) kN (q1.no lv (Nat.le_refl _)) (BU q1.s) nt⟩
 | b12 N lv f d g T G r u =>
  obtain ⟨kN,nt⟩:=U (kY d g (by omega))
  exact .b12 N lv f d g (T.ni Mb (nt (.inl d))) G r (Ew u)
 | c1 N f d hb g I V m =>
  obtain ⟨kN,nt⟩:=U (sH d g (.inl f))
  exact .c1 N f d hb g (Mb.B.aj 0 N I) ((Mb.B.jJ N I).1.trans V) (M.aw m (show (3:Int)≠6 by decide) λx _ z=>adz Mb.B (Mb.L.nz N I).1 kN.1 kN.2 z)
 | c2 N w f d hb g I V hw hd m =>
  refine .c2 N w f d hb g (Mb.B.aj 0 N I) ((Mb.B.jJ N I).1.trans V) hw (λQ=>?_) (M.aw m (show (5:Int)≠6 by decide) λx z hR W=>?_)
  ·rw [M.T] at Q
   obtain ⟨kN,nt⟩:=U (Ev d g f Q)
   exact adz Mb.B (Mb.L.nz N I).1 kN.1 kN.2 (hd Q)
  ·obtain ⟨kN,nt⟩:=U (Ev d g f λy V=>by rw [z] at V;cases V;exact W)
   exact YQ Mb.B (Mb.L.nz N I).1 kN.1 kN.2 (hR W)
 | c3 N f d g hd eH u =>
  obtain ⟨kN,nt⟩:=U (sH d g (.inr f))
  have nt:=nt (.inr f)
  obtain ⟨d1,d2,d3,d4⟩:=eH N rfl
  refine .c3 N f d g (YQ Mb.B (Mb.L.nz N d1).1 kN.1 kN.2 hd) (λD L=>?_) (u.mv J M.T λD L=>by cases L;exact nt)
  cases L
  exact ⟨Mb.B.aj 0 N d1,(M.lv N kN.1 kN.2).resolve_right (BU (Mb.L.nz N d1).1),j4 Mb.B (by decide) kN.1 kN.2 d3,by rw [(Mb.B.jJ N d1).1];exact d4⟩
 | c4 N f d g m=>exact .c4 N f d g (M.aw m (show (10:Int)≠6 by decide) λ_ _ _=>trivial)
 | d1 f d u=>exact .d1 f d (Ew u)
 | d2 N f d g E m =>
  obtain ⟨O,H,kN⟩:=E.mv Mb (Y N)
  exact .d2 N f d g O (M.aw m (show (3:Int)≠6 by decide) λx _ z=>by rw [H];exact z)
 | d3 N lv f d g E G r m =>
  obtain ⟨O,H,kN⟩:=E.mv Mb (Y N)
  exact .d3 N lv f d g O G (by rw [H];exact r) (M.aw m (show (3:Int)≠6 by decide) λ_ _ _=>trivial)
 | d4 N lv f d g E G r hm m =>
  obtain ⟨O,H,kN⟩:=E.mv Mb (Y N)
  exact .d4 N lv f d g O G (by rw [H];exact r) (λk a b=>j4 Mb.B (YR d E (by rw [<-H];exact b)) kN.1 kN.2 (hm k a (by rw [<-H];exact b))) (M.aw m (show (3:Int)≠6 by decide) λx _ z=>jG.mG z Mb.B (YR d E r) kN.1 kN.2)
 | d5 N lv w f d g E G r hm hw hsn m =>
  obtain ⟨O,H,kN⟩:=E.mv Mb (Y N)
  exact .d5 N lv w f d g O G (by rw [H];exact r) (λk a b=>j4 Mb.B (YR d E (by rw [<-H];exact b)) kN.1 kN.2 (hm k a (by rw [<-H];exact b))) hw (hsn.mG Mb.B (YR d E r) kN.1 kN.2) (M.aw m (show (5:Int)≠6 by decide) λx _ z Z=>j4 Mb.B (YR d E r) kN.1 kN.2 (z Z))
 | d6 N f d g I V u=>exact .d6 N f d g (Mb.B.aj 0 N I) ((Mb.B.jJ N I).1.trans V) (Ew u)
 | g2 N f d g E m =>
  obtain ⟨O,H,kN⟩:=E.mv Mb (Y N)
  exact .g2 N f d g O (M.aw m (show (3:Int)≠6 by decide) λ_ _ _=>trivial)
end
def Vk.k6 (v:Vk):Prop:=∃j,v.j=some j/\(j.op.kind=6\/j.at'=103)
section
variable {S S':St} {n:Nat} {e:Int} {i m l k lv:Nat} {b:Int} {τ tk tok:Option Nd} {P C D N X:Nd} {w cur:Wd} {c:Cm} {x:Rp} {K:List Nat} {ok:List Nat->Prop} {l0:Lo} {t:RT} {q:Ca} {R R':Rp->Prop} {p p':PS} {h:LR} {j:Jb} {o:Op} {v:Vk} {V:Nat->Vk}
theorem iH (h:o.bP) (a:o.kind=6):1<=o.dz/\o.dz<=3:=by
 have:=h.2
 rw [if_pos a] at this
 exact this.2
theorem JV.ni (H:JV S e i v) (M:MV S S' n e i tk v.tok v.k6):JV S' e i v:=by
 refine ⟨M.T.trans H.lr,H.ops,H.sl,H.st.imp (λ⟨d,g,f⟩=>⟨d,g,M.aw f (show (2:Int)≠6 by decide) λ_ _ _=>trivial⟩) λ⟨j,d,g,f,y,z,r⟩=>⟨j,d,g,f,y,?_,by rw [M.T];exact r⟩⟩
 have A:(S.T i).2=v.t:=by rw [H.lr]
 have u:v.tok=aQ j (S.T i).2:=by unfold Vk.tok;rw [d,A]
 have B:MV S S' n e i tk (aQ j (S.T i).2) (j.op.kind=6\/j.at'=103):=⟨M.M,M.T,M.L,M.hd,λN E=>by
   obtain ⟨a,b⟩:=M.tk N (by rw [u];exact E)
   exact ⟨a,λq=>b ⟨j,d,q⟩⟩,M.lv⟩
 exact z.ni B λs=>(iH f s).2
theorem YS (h:Aw e i p q R (l0,t)) (d:t.aH≠0) (f:∀a,t≠.one a) (g:∀a,t=.fin a->a.kind=2):q.kind=1\/q.kind=2\/q.kind=6\/q.kind=7\/q.kind=8\/q.kind=10:=by
 cases t with
 | idle x=>exact absurd rfl d
 | one a=>exact absurd rfl (f a)
 | bX c=>have h:=h.1;omega
 | gp c w=>have h:=h.1;omega
 | fA c a=>have h:=h.1;omega
 | fin a =>
  rcases h with ⟨h,-⟩ | ⟨h,r⟩ | ⟨h,-⟩
  all_goals grind
 | mW=>have h:q.kind=1:=h;omega
 | eD k=>have h:q.kind=2:=h;omega
 | oZ=>have h:q.kind=8:=h;omega
 | _=>have h:q.kind=10:=h;omega
theorem LF (a:∀k,t≠.eD k) (h:l0.s.is=true):(RT.aB l0 t x).1.s.is=true:=by
 cases t with
 | eD k=>exact absurd rfl (a k)
 | mW=>rfl
 | bX c=>simp only [RT.aB];split;exact h;split <;> exact h
 | gp c w=>simp only [RT.aB];split;exact h;split;exact h;rfl
 | ed o b =>
  simp only [RT.aB]
  split
  ·exact h
  ·unfold RT.bQ RT.scan
   repeat' split
   all_goals exact h
 | kQ c =>
  show (RT.bQ l0).1.s.is=true
  unfold RT.bQ RT.scan
  repeat' split
  all_goals exact h
 | dQ f seen =>
  simp only [RT.aB]
  all_goals grind [BO]
 | gF =>
  show (RT.eO l0 x.word []).1.s.is=true
  all_goals grind [BO]
 | fE d r =>
  show (RT.ek {l0 with notes:=l0.notes.erase d,freed:=l0.freed+1} r).1.s.is=true
  cases r <;> exact h
 | _=>exact h
theorem Ei.cl (E:Ei S S' n e i l0 t x) (U:Li S.p S.own S.G) (H:EI n e S.p S.T S.own S.A) (r:i<n) (u:S.T i=(l0,t)) (d:t.aH≠0) (y:∀a,t≠.one a) (L:∀c,t≠.bX c) (s:fV S e i b τ j):fV S' e i b τ j:=by
 obtain ⟨c,l,Y,g2,G⟩:=s
 have h6:=H.n6
 have M:=E.own U H r u d y L (ok:=QK c.at' l) λK T=>ae0 G g2.l3 (by omega) (H.loc i r) u y T
 refine ⟨c,l,Y,g2.mv M λ_ _=>by simp,G.mv g2 M (λ_ _=>by simp) ?_⟩
 have B:S'.T i=RT.aB l0 t x:=by rw [E.T];exact Gd.aG _ _ _
 have fin:∀{q:Ca},Aw e i S.p q (λ_=>True) (S.T i)->q.kind=7->(S'.T i).1.h=(S.T i).1.h:=λ{q} g A=>by
  rw [B]
  rw [u] at g ⊢
  cases t with
  | fin a=>rfl
  | idle x=>exact absurd rfl d
  | one a=>exact absurd rfl (y a)
  | bX c=>exact absurd rfl (L c)
  | gp c w=>have h:=g.1;omega
  | fA c a=>have h:=g.1;omega
  | mW=>have h:q.kind=1:=g;omega
  | eD k=>have h:q.kind=2:=g;omega
  | oZ=>have h:q.kind=8:=g;omega
  | _=>have h:q.kind=10:=g;omega
 have one:∀{q:Ca} {R:Rp->Prop},Aw e i S.p q R (S.T i)->(q.kind=3\/q.kind=4\/q.kind=5)->False:=λ{q R} g A=>by
  rw [u] at g
  rcases YN g A with ⟨x,rfl,-⟩ | ⟨a,rfl,-⟩
  ·exact d rfl
  ·exact y a rfl
 cases G with
 | s2 P d=>exact .inr (.inl d)
 | s3 P C d=>exact .inr (.inr d)
 | s4 P C d s O r z F f=>exact (one f (.inl rfl)).elim
 | s5 P C d s O r z F I f=>exact (one f (.inl rfl)).elim
 | s6 P C d s O r z F Z J f=>exact (one f (.inr (.inr rfl))).elim
 | s7 C d W r I z F Z J A f he=>exact .inl (fin f rfl)
 | s8 P d s J f he=>exact .inl (fin f rfl)
 | s9 P d Q W r I z f=>exact .inl (fin f rfl)
theorem Ei.hd (E:Ei S S' n e m l0 t x) (a:Hd S i N):Hd S' i N/\∀f,S'.p.cell (N.s-1).toNat f=S.p.cell (N.s-1).toNat f :=
 ⟨⟨a.s,Fv E.fr a.own (by simp) (by simp),by rw [E.fr.gen];exact a.gen,by rw [E.G];exact a.no,by unfold St.dn;rw [E.fr.cell];exact a.dn,λk d=>by rw [show S'.c k N=S.c k N from N7 E.fr d];exact a.mr k d⟩,λf=>by rw [E.fr.cell]⟩
theorem JI.ei (h:JI S e i j) (E:Ei S S' n e i l0 t x) (hL:Li S.p S.own S.G) (H:EI n e S.p S.T S.own S.A) (hi:i<n) (U:S.T i=(l0,t)) (z:t.aH≠0) (h1:∀a,t≠.one a) (h2:∀a,t=.fin a->a.kind=2) (h3:∀c,t≠.bX c) (Y:∀N,aQ j t=some N->Pb S.p S.own N):JI S' e i j/\(j.at'≠0->∀k,t≠.eD k):=by
 have no:∀{q:Ca} {R:Rp->Prop},Aw e i S.p q R (S.T i)->(q.kind=3\/q.kind=4\/q.kind=5\/q.kind=9)->False:=λ{q R} T hq=>by
  rw [U] at T
  have:=YS T z h1 h2
  omega
 have A:∀{q:Ca} {R:Rp->Prop},Aw e i S.p q R (S.T i)->q.kind≠2->∀k,t≠.eD k:=λ{q R} T hq k g=>by
  rw [U,g] at T
  exact hq T
 have Z:=E.own hL H hi U z h1 h3 (ok:=λ_=>False) λK hK=>hK.elim
 have cl:∀{b:Int} {τ:Option Nd},fV S e i b τ j->fV S' e i b τ j:=λ{b τ} s=>E.cl hL H hi U z h1 h3 s
 have Q:∀{b:Int} {τ:Option Nd},fV S e i b τ j->∀k,t≠.eD k:=λ{b τ} ⟨c,l,I,u2,u3⟩=>by
  cases u3 with
  | s2 P z G ho f=>exact A f (show (6:Int)≠2 by decide)
  | s3 P C z s r u O f=>exact A f (show (6:Int)≠2 by decide)
  | s4 P C z s r u O J f=>exact A f (show (3:Int)≠2 by decide)
  | s5 P C z s r u O J g f=>exact A f (show (3:Int)≠2 by decide)
  | s6 P C z s r u O J W hu f=>exact A f (show (5:Int)≠2 by decide)
  | s7 C z G u g O J W hu hq f he=>exact A f (show (7:Int)≠2 by decide)
  | s8 P z s hu f he=>exact A f (show (7:Int)≠2 by decide)
  | s9 P z hl2 G u g O f=>exact A f (show (7:Int)≠2 by decide)
 have hB:=E.mG
 cases h with
 | Ga d f=>exact ⟨.Ga d (Z.aw _ _ _ f ⟨λ_ _ _ _ _ _=>trivial,λ_ _ _=>trivial⟩),λh=>absurd d h⟩
 | a1 d g f =>
  refine ⟨.a1 d g (Z.aw _ _ _ f ⟨λ_ _ _ _ q=>absurd rfl q,λ_ x J ho=>?_⟩),λ_=>A f (show (8:Int)≠2 by decide)⟩
  obtain ⟨N,n1,n2⟩:=J ho
  exact ⟨N,n1,(E.hd n2).1⟩
 | a2 N d g r B f=>exact (no f (.inr (.inl rfl))).elim
 | a3 N d g r B I f=>exact (no f (.inr (.inl rfl))).elim
 | a4 N d g r B I f=>exact (no f (.inr (.inl rfl))).elim
 | a5 N d g r B I u2 s =>
  obtain ⟨hh',L⟩:=E.hd B
  exact ⟨.a5 N d g r hh' (by unfold lI;rw [L];exact I) (by unfold uV;rw [L];exact u2) (cl s),λ_=>Q s⟩
 | a6 N d g r B f=>exact (no f (.inr (.inr (.inr rfl)))).elim
 | a7 N lv c d g r B I u2 s hE M F y G f=>exact (no f (.inr (.inl rfl))).elim
 | a8 N c d g r s B f=>exact (no f (.inr (.inr (.inl rfl)))).elim
 | b9 N lv c d g r s hr F y f=>exact (no f (.inl rfl)).elim
 | b10 N lv c w d g r s hr F y W f=>exact (no f (.inr (.inr (.inl rfl)))).elim
 | b11 N lv c d g r s F y B f=>exact (no f (.inr (.inr (.inl rfl)))).elim
 | b12 N lv d g r hr F y s=>exact ⟨.b12 N lv d g r (hr.ni (E.mb hL) (by simp)) F y (cl s),λ_=>Q s⟩
 | c1 N d g hb r u hy f=>exact (no f (.inl rfl)).elim
 | c2 N w d g hb r u hy hw hd f=>exact (no f (.inr (.inr (.inl rfl)))).elim
 | c3 N d g r hd eH s =>
  refine ⟨.c3 N d g r (by unfold St.dn;rw [E.fr.cell];exact hd) (λD hD=>?_) (cl s),λ_=>Q s⟩
  obtain ⟨d1,d2,d3,d4⟩:=eH D hD
  have hcD:S'.c 0 D=S.c 0 D:=N7 E.fr (by decide)
  refine ⟨by rw [E.G];exact d1,?_,by rw [hcD];exact d3,by rw [E.G];exact d4⟩
  cases hD
  have G:=Y N (sH g r (.inr d))
  exact ⟨by rw [Fv E.fr G.1 (by simp) (by simp)];simp,by rw [E.fr.gen];exact G.2⟩
 | c4 N d g r f=>exact ⟨.c4 N d g r (Z.aw _ _ _ f ⟨λ_ _ _ _ _ _=>trivial,λ_ _ _=>trivial⟩),λ_=>A f (show (10:Int)≠2 by decide)⟩
 | d1 d g s=>exact ⟨.d1 d g (cl s),λ_=>Q s⟩
 | d2 N d g r M f=>exact (no f (.inl rfl)).elim
 | d3 N lv d g r M F y f=>exact (no f (.inl rfl)).elim
 | d4 N lv d g r M F y W f=>exact (no f (.inl rfl)).elim
 | d5 N lv w d g r M F y W hw hsn f=>exact (no f (.inr (.inr (.inl rfl)))).elim
 | d6 N d g r u hy s=>exact ⟨.d6 N d g r (by rw [E.G];exact u) (by rw [E.G];exact hy) (cl s),λ_=>Q s⟩
 | g2 N d g r M f=>exact (no f (.inl rfl)).elim
end
section
variable {S S':St} {n:Nat} {e:Int} {i m l k lv:Nat} {b:Int} {τ tk tok:Option Nd} {P C D N X:Nd} {w cur:Wd} {c:Cm} {x:Rp} {K:List Nat} {ok:List Nat->Prop} {l0:Lo} {t t':RT} {q:Ca} {R R':Rp->Prop} {p p':PS} {h:LR} {j:Jb} {o:Op} {v:Vk} {V V':Nat->Vk}
theorem sI (h:Pb S.p S.own N) (a:1<=N.s):S.kn N:=.inr ⟨a,by rw [h.1];exact ⟨by simp,by simp⟩,h.2⟩
theorem Di.mv (H:Di n S V) (g:Li S.p S.own S.G) (B:nC S S' tk) (r:∀N,Pb S'.p S'.own N->Pb S.p S.own N) (u:∀k,k<n->∀N,(V' k).tok=some N->Pb S.p S.own N->Pb S'.p S'.own N) (F:∀N,S'.G.aj 0 N↔S.G.aj 0 N) (hd:∀N,Pb S.p S.own N->S'.dn N=S.dn N) (A:∀k,k<n->∀N,(V' k).tok=some N->(V k).tok=some N/\(V' k).kind=(V k).kind):Di n S' V':=by
 have y:∀N,Pb S'.p S'.own N->S.G.aj 0 N->(S.c 0 N).mark=true->(S'.c 0 N).mark=true:=λN d a f =>
  j4 B (by decide) (sI (r N d) (g.nz N a).1) (sI d (g.nz N a).1) f
 refine ⟨λk s N E=>?_,λk j s z N d a f=>?_,λN d a=>?_⟩
 all_goals grind [MV.tk,Di.tk,Di.un,Di.dd]
theorem H8 (a:j.op.kind=6->j.at'≠8) (f:j.at'≠102) (d:j.op.kind≠6->j.at'≠5):aQ j t=aQ j t':=by
 grind [aQ]
structure Mid (S S':St) (n:Nat) (e:Int) (m:Nat) (tk:Option Nd):Prop where
 mb:Mb S S' tk
 T:∀i,i≠m->S'.T i=S.T i
 sf:∀i,i<n->i≠m->∀K N,S.sf e i K N->S'.sf e i K N
 hd:∀i,i<n->i≠m->∀N,Hd S i N->Hd S' i N/\∀f,S'.p.cell (N.s-1).toNat f=S.p.cell (N.s-1).toNat f
theorem Mid.ni (M:Mid S S' n e m tk) (H:EI n e S.p S.T S.own S.A) (f:i<n) (a:i≠m) {k6:Prop} (r:∀N,tok=some N->(S.kn N/\S'.kn N)/\(k6->tk≠some N)):MV S S' n e i tk tok k6:=by
 refine ⟨⟨M.mb,λK _ N s=>M.sf i f a K N s,λq R R' g h=>?_⟩,M.T i a,H.loc i f,M.hd i f a,r,λN u d=>?_⟩
 ·rw [M.T i a]
  exact g.imp (H.loc i f) M.mb.B.aF (h.2 λK N s=>M.sf i f a K N s)
 ·rcases d with d | d
  ·exact .inr d
  ·exact .inl ⟨d.2.1.1,d.2.2⟩
theorem Ei.mid (E:Ei S S' n e m l0 t x) (g:Li S.p S.own S.G):Mid S S' n e m none :=
 ⟨E.mb g,λi d=>by rw [E.T];exact Gd.bR _ _ d,λi d a K N s=>E.on.2 i d K (λh=>absurd h a) _ _ s,λi d a N f=>E.hd f⟩
theorem Ei.pb (E:Ei S S' n e m l0 t x) (N:Nd):Pb S'.p S'.own N↔Pb S.p S.own N:=by
 unfold Pb
 rw [E.fr.gen]
 exact ⟨λh=>⟨aeZ E.fr h.1 (by simp) (by simp),h.2⟩,λh=>⟨Fv E.fr h.1 (by simp) (by simp),h.2⟩⟩
theorem Sy.others (H:Sy n e S V) (M:Mid S S' n e m tk) (s:∀i,i<n->i≠m->∀N,(V i).tok=some N->Pb S'.p S'.own N) (y:∀i,i<n->i≠m->∀N,(V i).tok=some N->(V i).k6->tk≠some N) (i:Nat) (g:i<n) (f:i≠m):JV S' e i (V i):=by
 refine (H.th i g).ni (M.ni (tok:=(V i).tok) (k6:=(V i).k6) H.ei g f λN r=>?_)
 obtain ⟨a,b,c,d⟩:=H.di.tk i g N r
 have u:=(H.li.nz N b).1
 all_goals grind [sI]
theorem Sy.qp (H:Sy n e S V) (u:i<n) (A:(V i).t.aH≠0) (I:∀a,(V i).t≠.one a) (T:∀a,(V i).t=.fin a->a.kind=2) (L:∀c,(V i).t≠.bX c) :
  ∃S' x,S.p.act ((V i).t.acc (V i).l)=(S'.p,some x)/\Sy n e S' (Gd.bD V i ((V i).with (RT.aB (V i).l (V i).t x))):=by
 have J:=H.th i u
 obtain ⟨S',x,E⟩:=Ei.of (H.ei.acc u J.lr A I T L)
 have G:S'.T i=RT.aB (V i).l (V i).t x:=by rw [E.T];exact Gd.aG _ _ _
 have M:=E.mid H.li
 have r:=E.pb
 have own:JV S' e i ((V i).with (RT.aB (V i).l (V i).t x))/\(((V i).with (RT.aB (V i).l (V i).t x)).tok=(V i).tok):=by
  rcases J.st with ⟨s,g2,Y⟩ | ⟨j,s,g2,Y,g4,F,z⟩
  ·refine ⟨⟨G,J.ops,J.sl,.inl ⟨s,λq=>?_,?_⟩⟩,?_⟩
   ·obtain ⟨y,hy⟩:=g2 q
    rw [hy] at A
    exact absurd rfl A
   ·have M0:=E.own H.li H.ei u J.lr A I L (ok:=λ_=>False) λK hK=>hK.elim
    all_goals grind [MV.aw,Mv.aw]
   ·unfold Vk.tok
    show (match (V i).j with | none=>none | some j=>_)=_
    rw [s]
  ·have oD:∀N,aQ j (V i).t=some N->Pb S.p S.own N:=λN Q=>(H.di.tk i u N (by unfold Vk.tok;rw [s];exact Q)).1
   obtain ⟨Z,k2⟩:=F.ei E H.li H.ei u J.lr A I T L oD
   refine ⟨⟨G,J.ops,J.sl,.inr ⟨j,s,g2,Y,g4,Z,?_⟩⟩,?_⟩
   ·rw [G]
    by_cases U:j.at'=0
    ·rw [if_pos U] at z ⊢
     intro O
     rw [J.lr] at z
     rcases z O with g | g
     ·have g:(V i).t=_:=g
      rw [g]
      exact .inr rfl
     ·refine .inr (LF (λk B=>?_) g)
      have f:=(H.ei.loc i u).qw
      rw [J.lr] at f
      simp only [B] at f
      have:=f.1
      omega
    ·rw [if_neg U] at z ⊢
     intro O
     have:=z O
     all_goals grind [Vk.lr,JV.lr,LF]
   ·unfold Vk.tok
    show (match (V i).j with | none=>none | some j=>aQ j (RT.aB (V i).l (V i).t x).2)=_
    rw [s]
    have no:∀{q:Ca} {R:Rp->Prop},Aw e i S.p q R (S.T i)->(q.kind=5)->False:=λ{q R} W hq=>by
     grind [Vk.lr,JV.lr,YS]
    refine H8 (λq1 q2=>?_) (λq=>?_) (λq1 q2=>?_)
    ·cases F <;> first | omega | exact no (by assumption) rfl
    ·cases F <;> first | omega | exact no (by assumption) rfl
    ·cases F <;> first | omega | exact no (by assumption) rfl
 refine ⟨S',x,E.act,E.on.1,by rw [E.G];exact H.li.fr E.fr,λk B=>?_,?_⟩
 ·by_cases d:k=i
  ·subst d
   rw [Gd.aG]
   exact own.1
  ·rw [Gd.bR _ _ d]
   exact H.others M (λa W hai N Q=>(r N).2 (H.di.tk a W N Q).1) (λ_ _ _ _ _ _=>by simp) k B d
 ·refine H.di.mv H.li E.mG (λN=>(r N).1) (λ_ _ N _=>(r N).2) (λN=>by rw [E.G]) (λN _=>by unfold St.dn;rw [E.fr.cell]) λk B N=>?_
  by_cases d:k=i
  ·subst d
   rw [Gd.aG,own.2]
   exact λh=>⟨h,rfl⟩
  ·rw [Gd.bR _ _ d]
   exact λh=>⟨h,rfl⟩
end
def nQ (q:Ca):Prop:=q.OK/\(3<=q.kind/\q.kind<=9)/\(q.kind=7->q.i≠q.j)/\(q.kind=4\/q.kind=5->(q.slot=0->0<=q.field/\q.field<24)/\(q.slot≠0->0<=q.field/\q.field<9))
inductive JN (S:St) (n:Nat) (e:Int) (i:Nat) (l0:Lo) (j:Jb) (t:RT):Jb × Ca->Prop
 | ans (j':Jb) (q:Ca) (hq:q.kind=12):JN S n e i l0 j t (j',q)
 | call (j':Jb) (q:Ca) (hq:nQ q) (ho:j'.op=j.op) (hz:j'.at'≠0) (ht:∀N,aQ j' (RT.begin l0 q).2=some N->aQ j t=some N) (hJ:Bg S n e i l0 q->JI (S.go i (RT.begin l0 q)) e i j'):JN S n e i l0 j t (j',q)
 | ret (j':Jb) (N:Nd) (hz:j'.at'=104) (ho:j'.op=j.op) (hn:j'.node=rf N) (hk:j.op.kind=6\/j.op.kind=7) (ht:aQ j t=some N) (hd:(S.dn N).num≠0) (hL:∀k,k<3->N ∉ S.G.L k):JN S n e i l0 j t (j',{Ca.of 10 with ay:=rf N})
section
variable {S S':St} {n:Nat} {e:Int} {i m l k lv:Nat} {b:Int} {τ E tok:Option Nd} {P C D N X:Nd} {w cur:Wd} {c:Cm} {x:Rp} {K:List Nat} {ok:List Nat->Prop} {l0:Lo} {t t':RT} {q:Ca} {R F:Rp->Prop} {p p':PS} {h:LR} {j:Jb} {o:Op} {v:Vk} {V G:Nat->Vk}
theorem qy.two (h:qy q):nQ q:=⟨h.1,by rcases h.2.1 with h | h | h | ⟨h,-⟩ <;> omega,λa=>by rcases h.2.1 with h | h | h | ⟨-,h⟩;omega;omega;omega;exact h,h.2.2⟩
theorem aiO (H:EI n e S.p S.T S.own S.A) (u:i<n) (y:S.T i=(l0,.idle x)) (hq:nQ q):Bg S n e i l0 q:=by
 obtain ⟨r,B,z,A⟩:=hq
 by_cases f:q.kind=7
 ·obtain ⟨a,b,d⟩:=H.aeT u y f r (z f)
  exact ⟨a.1,λj g K N s=>a.2 j g K trivial _ _ s,λ_=>d⟩
 ·have a:=H.fQ u y r ⟨by omega,f,by omega⟩ A
  exact ⟨a.1,λj g K N s=>a.2 j g K trivial _ _ s,λh=>absurd h f⟩
theorem J3 (h:1<=N.s) {f:Int} {w:Wd} (a:0<=f/\f<9):nQ (si (na N f) w):=⟨nP ⟨⟨show (1:Int)<=4 by decide,show (4:Int)<=11 by decide⟩,z9,z9⟩,⟨show (3:Int)<=4 by decide,show (4:Int)<=9 by decide⟩,λh=>absurd (show (4:Int)=7 from h) (by decide),λ_=>⟨λh=>by have h:N.s=0:=h;omega,λ_=>a⟩⟩
theorem LG (h:1<=N.s) {f:Int} {o w:Wd} (a:0<=f/\f<9):nQ (fM (na N f) o w):=⟨nP ⟨⟨show (1:Int)<=5 by decide,show (5:Int)<=11 by decide⟩,z9,z9⟩,⟨show (3:Int)<=5 by decide,show (5:Int)<=9 by decide⟩,λh=>absurd (show (5:Int)=7 from h) (by decide),λ_=>⟨λh=>by have h:N.s=0:=h;omega,λ_=>a⟩⟩
theorem TM {k:Int} {w:Wd} (h:k=8\/k=9):nQ {Ca.of k with ay:=w}:=by
 rcases h with rfl | rfl
 ·exact ⟨nP ⟨⟨show (1:Int)<=8 by decide,show (8:Int)<=11 by decide⟩,z9,z9⟩,⟨show (3:Int)<=8 by decide,show (8:Int)<=9 by decide⟩,λh=>absurd (show (8:Int)=7 from h) (by decide),λh=>h.elim (λh=>absurd (show (8:Int)=4 from h) (by decide)) λh=>absurd (show (8:Int)=5 from h) (by decide)⟩
 ·exact ⟨nP ⟨⟨show (1:Int)<=9 by decide,show (9:Int)<=11 by decide⟩,z9,z9⟩,⟨show (3:Int)<=9 by decide,show (9:Int)<=9 by decide⟩,λh=>absurd (show (9:Int)=7 from h) (by decide),λh=>h.elim (λh=>absurd (show (9:Int)=4 from h) (by decide)) λh=>absurd (show (9:Int)=5 from h) (by decide)⟩
theorem Aw.go2 (H:EI n e S.p S.T S.own S.A) (d:i<n) (f:S.T i=(l0,.idle x)) (hq:nQ q) (a:q.kind=7\/q.kind=9->∀x,R x):Aw e i (S.go i (RT.begin l0 q)).p q R ((S.go i (RT.begin l0 q)).T i):=by
 rw [xk]
 have L:=H.loc i d
 rw [f] at L
 have g:=hq.2.1
 exact Aw.begin (p:=S.p) L (V3 (S:=S) H) hq.1 (λ_ _ _ _ _=>a (by omega)) (by omega)
theorem nO.go {s:Pt} (h:nO S e i k b s) (d:Li S.p S.own S.G) (B:Bg S n e i l0 q) (f:i<n) (a:k<3):nO (S.go i (RT.begin l0 q)) e i k b s:=h.mv (Mb.go d _) a λN s=>B.sf i f _ _ s
theorem CE.go (h:CE S e i b τ c) (d:Li S.p S.own S.G) (B:Bg S n e i l0 q) (a:i<n):CE (S.go i (RT.begin l0 q)) e i b τ c :=
 h.mv (Mb.go d _) (λ_ _=>by simp) (λk _ N s=>B.sf i a _ _ s) λN s=>B.sf i a _ _ s
theorem Hd.go (h:Hd S i N) {h':LR}:Hd (S.go m h') i N:=⟨h.s,h.own,h.gen,h.no,h.dn,h.mr⟩
theorem Rt.go (h:Rt S o lv N) {h':LR}:Rt (S.go m h') o lv N:=⟨h.s,h.aj,h.no,h.key,h.ht,h.le⟩
theorem Rf.go (h:Rf S e i o lv N c) (f:Li S.p S.own S.G) (B:Bg S n e i l0 q) (g:i<n):Rf (S.go i (RT.begin l0 q)) e i o lv N c:=⟨h.toRt.go,λk d a=>⟨(h.sp k d a).1.go f B g a,(h.sp k d a).2⟩⟩
theorem Fn.go (h:Fn S e i b N) (B:Bg S n e i l0 q) (a:i<n):Fn (S.go i (RT.begin l0 q)) e i b N:=⟨B.sf i a _ _ h.sf,h.aj,h.key⟩
theorem YT {f:Jb->Jb × Ca} (s:j.cl=some c) (h:CN S n e i b τ l0 (c.nx x)) :
  (∃q c',j.walk x f=({j with cl:=some c'},q)/\qy q/\(Bg S n e i l0 q->fV (S.go i (RT.begin l0 q)) e i b τ {j with cl:=some c'}))\/∃c',j.walk x f=f {j with cl:=some c'}/\CE S e i b τ c':=by
 unfold Jb.walk
 rw [s]
 simp only
 unfold CN at h
 generalize c.nx x=r at h
 obtain ⟨c',o⟩:=r
 cases o with
 | none=>exact .inr ⟨c',rfl,h⟩
 | some q =>
  obtain ⟨g,d⟩:=h
  refine .inl ⟨q,c',rfl,g,λB=>?_⟩
  obtain ⟨l,a,b⟩:=d B
  exact ⟨c',l,rfl,a,b⟩
theorem aiP (H:EI n e S.p S.T S.own S.A) (a:Li S.p S.own S.G) (d:i<n) (f:S.T i=(l0,.idle x)):CN S n e i b τ l0 ((Cm.new b).nx x):=CN.again (c:=Cm.new b) H a d f rfl rfl
theorem abz (h:fV S e i b τ j) (H:EI n e S.p S.T S.own S.A) (g:Li S.p S.own S.G) (r:i<n) (s:S.T i=(l0,.idle x)):∃c,j.cl=some c/\CN S n e i b τ l0 (c.nx x):=by
 obtain ⟨c,l,d,a,f⟩:=h
 exact ⟨c,d,f.next a H g r s⟩
theorem pz {f:Jb->Jb × Ca} {s:Int} (H:EI n e S.p S.T S.own S.A) (r:Li S.p S.own S.G) (u:i<n) (y:S.T i=(l0,.idle x)) :
  ∃q c',(j.gq s b).walk x f=({j with at':=s,cl:=some c'},q)/\qy q/\(Bg S n e i l0 q->fV (S.go i (RT.begin l0 q)) e i b τ {j with at':=s,cl:=some c'}):=by
 have h:CN S n e i b τ l0 ((Cm.new b).again.1,some (o9 (Ad.root 2) (3 * 2+1))):=aiP (b:=b) (τ:=τ) H r u y
 obtain ⟨g,d⟩:=h
 refine ⟨o9 (Ad.root 2) (3 * 2+1),(Cm.new b).again.1,rfl,g,λB=>?_⟩
 obtain ⟨l,a,b⟩:=d B
 exact ⟨_,l,rfl,a,b⟩
theorem BV (h:101<=j.at'):j.next x=j.finish x:=by unfold Jb.next;rw [iN,if_pos (by omega)]
theorem BX (a:j.op.kind=6) (h:9<=j.at'/\j.at'<101):j.next x=j.raise x:=by unfold Jb.next;rw [iN,iN,if_pos ⟨a,by omega⟩]
theorem nR (a:j.op.kind=6) (h:0<=j.at'/\j.at'<9):j.next x=j.insert x:=by unfold Jb.next;rw [iN,iN,iN,if_pos a]
theorem qP (a:j.op.kind=7) (h:0<=j.at'/\j.at'<101):j.next x=j.remove x:=by unfold Jb.next;rw [iN,iN,iN,iN,if_pos a]
theorem H9 (a:j.op.kind=8) (h:0<=j.at'/\j.at'<101):j.next x=j.get x:=by unfold Jb.next;rw [iN,iN,iN,iN,iN]
theorem nS (h:j.node=rf N) (f:Int):j.field f=na N f:=by unfold Jb.field;rw [h];rfl
theorem LH (h:j.cl=some c) (a:k<3):j.place k=c.sp k:=by unfold Jb.place;rw [h];simp only;rw [if_pos (by omega)]
theorem TN (h:j.cl=some c) {l:Int} (a:l=k) (d:k<3):j.place l=c.sp k:=by rw [a];exact LH h d
theorem jg (a:j.op.kind=6) (h:j.at'<8) (d:0<=j.at'):aQ j t=none:=by
 grind [aQ]
theorem vX (a:j.op.kind=7) (h:j.at'<5) (d:0<=j.at'):aQ j t=none:=by
 grind [aQ]
theorem zX (a:j.op.kind≠6/\j.op.kind≠7):aQ j t=none:=by
 unfold aQ
 rw [if_pos a]
end
end Go.Proofs.YthomdlajobnmnaaGreatDoor.Sk
