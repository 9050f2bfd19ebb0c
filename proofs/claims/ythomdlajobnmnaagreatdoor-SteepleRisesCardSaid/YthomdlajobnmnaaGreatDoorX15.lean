/- part 15 of the proof -/
import Derived.Test.YthomdlajobnmnaaGreatDoorX13
import Derived.Test.YthomdlajobnmnaaGreatDoorX14
set_option linter.unusedSimpArgs false
set_option linter.unusedVariables false
namespace Go.Proofs.YthomdlajobnmnaaGreatDoor.Gd
open Go.Rex
structure Fr (p p':PS) (own own':Int->fG) (i:Nat):Prop where
 cell:p'.cell=p.cell
 bd:∀f,f<24->p'.bd f=p.bd f
 gen:p'.gen=p.gen
 ns:p'.ns=p.ns
 nf:p.nf<=p'.nf
 made:p'.made=p.made
 aF:aF p<=aF p'
 own:∀s,own' s=own s\/(own s=.cut i/\own' s=.note i)\/(own s=.note i/\own' s=.free)
def Okk (e:Int) (i:Nat) (l:Lo) (t:RT) (j:Nat) (K:List Nat):Prop:=j=i->(∀k,k∈K->jZ l t≠some (25+9 * (i:Int)+(k:Int)))/\(e=4\/e=5->∀a,t≠.fin a)
def Acc (n:Nat) (e:Int) (p:PS) (T:Nat->LR) (own:Int->fG) (A:Nat->Int) (i:Nat) (l:Lo) (t:RT):Prop :=
 ∃b x a c,p.act (t.acc l)=(b,some x)/\On n e p T own A b (bD T i (RT.aB l t x)) a c (Okk e i l t)/\Fr p b own a i
section
variable {n:Nat} {e:Int} {p p':PS} {T:Nat->LR} {own V:Int->fG} {A W:Nat->Int} {i j:Nat} {l:Lo} {t:RT} {h h':LR} {K:List Nat} {s g:Int} {x:Rp} {c:Ca}
theorem Fr.refl (p:PS) (own:Int->fG) (i:Nat) (k:Int):Fr p {p with steps:=k} own own i:=⟨rfl,λ_ _=>rfl,rfl,rfl,Int.le_refl _,rfl,Int.le_refl _,λ_=>.inl rfl⟩
theorem Fr.gV {b:Nat} (d:24<b) {k:Int} {w:Wd}:Fr p (Gd.gV p k b w) own own i:=⟨rfl,λf a=>fw (by omega),rfl,rfl,Int.le_refl _,rfl,by rw [BL (by omega)];exact Int.le_refl _,λ_=>.inl rfl⟩
theorem EI.step (H:EI n e p T own A):({p with steps:=p.steps+1}:PS).OK:=H.ok.SQ
theorem EI.has (H:EI n e p T own A) {f:Int} (a:0<=f) (b:f<85):p.has 0 0 f:=by
 unfold PS.has
 rw [if_pos rfl,H.nb]
 exact ⟨rfl,a,b⟩
theorem EI.load (H:EI n e p T own A) {f:Nat} (h:f<85):p.act (Ac.load 0 0 f)=({p with steps:=p.steps+1},some ⟨p.bd f,true⟩) :=
 (Hu (p:=p) (s:=0) (g:=0) (f:=f) (o:=Wd.zero) (w:=Wd.zero) (H.has (by omega) (by omega)) (.inl rfl)).trans (by unfold PS.at;rw [if_pos rfl];rfl)
theorem EI.era (H:EI n e p T own A):p.act Ac.era=({p with steps:=p.steps+1},some ⟨ji (aF p),true⟩):=by
 rw [<-H.clock.1]
 exact H.load (f:=24) (by decide)
theorem EI.store (H:EI n e p T own A) {f:Nat} {w:Wd} (h:f<85):p.act (Ac.store 0 0 f w)=(gV p (p.steps+1) f w,some ⟨Wd.zero,true⟩) :=
 (Eg (p:=p) (s:=0) (g:=0) (f:=f) (o:=Wd.zero) (w:=w) (H.has (by omega) (by omega)) (.inl rfl)).trans (by unfold PS.put;rw [if_pos rfl];rfl)
theorem EI.quiet (H:EI n e p T own A) (u:i<n) (d:T i=(l,t)) (k:p.act (t.acc l)=({p with steps:=p.steps+1},some x)) (m:dm e n p i (RT.aB l t x)) (w:(RT.aB l t x).1.notes=l.notes) (r:∀o,kv (RT.aB l t x).2=some o->kv t=some o)
  (q:∀o b,(RT.aB l t x).2=.ed o b->e≠4->b=Gd.bU p o.slot) (a:Calm (RT.aB l t x).2):Acc n e p T own A i l t:=by
 refine ⟨_,_,own,A,k,?_,Fr.refl ..⟩
 have:=H.on u H.step (h':=RT.aB l t x) m (by rw [d];exact w) (by rw [d];exact r) q a
 exact ⟨this.1,λj f K _=>this.2 j f K trivial⟩
theorem EI.abn (H:EI n e p T own A) (q:i<n) (k:T i=(l,.mW)):Acc n e p T own A i l .mW:=by
 have L:=H.loc i q
 rw [k] at L
 have f:e=4\/e=5:=L.qw
 have d:=L.me
 simp only at d
 refine H.quiet q k H.era ?_ rfl (λo h=>by cases h) (λo b h=>by cases h) (eF (.inl (by simp only [RT.aB,RT.aH];omega)))
 have m:RT.jf l ⟨true,aF p,aF p⟩=Ac.store 0 0 (79+(i:Int)) (RS.iZ ⟨true,aF p,aF p⟩):=by unfold RT.jf;rw [d]
 exact (L.idle rfl Rp.yes).span f (z:=⟨true,aF p,aF p⟩) (.inr ⟨_,_,rfl,Int.le_refl _,Int.le_refl _⟩) (by show jZ _ (.fin (RT.jf l ⟨true,aF p,aF p⟩))=_;rw [m];rfl) (λc a h=>by cases h) (.inr (.inl ⟨f,m⟩))
theorem EI.abo (H:EI n e p T own A) (d:i<n) (a:T i=(l,.oZ)):Acc n e p T own A i l .oZ:=by
 have L:=H.loc i d
 rw [a] at L
 exact H.quiet d a H.era ((L.idle rfl Rp.yes).next (.inr ⟨_,rfl,Int.le_refl _⟩) (λ_ _ h=>by cases h)) rfl (λo h=>by cases h) (λo b h=>by cases h) (eF (.inl (by simp only [RT.aB,RT.aH];omega)))
theorem EI.abp (H:EI n e p T own A) (d:i<n) (a:T i=(l,.o5)):Acc n e p T own A i l .o5:=by
 have L:=H.loc i d
 rw [a] at L
 have f:e=4:=L.qw
 exact H.quiet d a H.era ((L.idle rfl Rp.yes).next ⟨by omega,by have:=L.TC H.n6;simpa using this,λ_=>⟨_,Int.le_refl _,rfl⟩⟩ (λ_ _ h=>by cases h)) rfl (λo h=>by cases h) (λo b h=>by cases h) (Calm.new _)
theorem EI.VR (H:EI n e p T own A) (d:i<n) {o:Wd} (a:T i=(l,.jo o)):Acc n e p T own A i l (.jo o):=by
 have L:=H.loc i d
 rw [a] at L
 have u:e=3\/e=5:=L.qw
 obtain ⟨c1,c2⟩:=H.cut i d o (by rw [a];rfl)
 obtain ⟨m,k⟩:=H.out o.slot (by rw [c1];simp)
 have r:=(H.used o.slot m k).2 (by rw [c1];simp)
 have q:p.act (Ac.load o.slot o.gen 9)=({p with steps:=p.steps+1},some ⟨p.cell (o.slot-1).toNat 9,true⟩):=by
  refine (Hu (p:=p) (s:=o.slot) (g:=o.gen) (f:=9) (o:=Wd.zero) (w:=Wd.zero) ?_ (.inr ⟨r,c2⟩)).trans ?_
  ·unfold PS.has;rw [iN];exact ⟨⟨m,k⟩,by decide,by decide⟩
  all_goals grind [PS.at]
 exact H.quiet d a q ((L.idle rfl Rp.yes).next (t:=.ed o _) (by show e=3\/e=4\/e=5;omega) (λ_ _ h=>by cases h)) rfl (λo h=>h) (λy b h _=>by cases h;rfl) (eF (.inl (by simp only [RT.aB,RT.aH];omega)))
theorem BN (L:dm e n p i (l,t)) {k now:Int} (a:e=3\/e=5):RT.gB l k now↔(e=3/\l.h k.toNat≠Wd.zero/\(l.h k.toNat).num=now)\/(e=5/\l.s.is=true/\l.s.high=now):=by
 have:=L.qp
 simp only at this
 unfold RT.gB
 all_goals grind
theorem TE {t:RT} (h:t.aH<9) (o:Wd):kv t≠some o:=λa=>by
 cases t <;> first | (cases a;done) | exact absurd h (by simp only [RT.aH];omega)
theorem TF {t:RT} (h:t.aH<9) (o:Wd) (b:Int):t≠.ed o b:=by grind [RT.aH]
theorem EI.abq (H:EI n e p T own A) (E:i<n) {w:Wd} (C:T i=(l,.gp c w)):Acc n e p T own A i l (.gp c w):=by
 have L:=H.loc i E
 rw [C] at L
 obtain ⟨N,c1,c2⟩:(e=3\/e=5)/\0<=c.i/\c.i<9:=L.qw
 have k:=L.me
 have u:=L.qp
 simp only at k u
 have J:=H.clock.2
 have Li:=L.idle rfl Rp.yes
 have key:dm e n p i (RT.aB l (.gp c w) ⟨ji (aF p),true⟩)/\(RT.aB l (.gp c w) ⟨ji (aF p),true⟩).1.notes=l.notes/\(RT.aB l (.gp c w) ⟨ji (aF p),true⟩).2.aH<9:=by
  simp only [RT.aB,show (ji (aF p)).num=aF p from rfl]
  by_cases g:RT.gB l c.i (aF p)
  ·rw [if_pos g]
   exact ⟨Li.next trivial (λ_ _ h=>by cases h),rfl,by simp only [RT.aH];omega⟩
  rw [if_neg g]
  by_cases q:l.af=3
  ·rw [if_pos q]
   have m:Ac.store 0 0 (25+l.me * 9+c.i) (Wd.ig (aF p))=Ac.store 0 0 (25+9 * (i:Int)+c.i) (Wd.ig (aF p)):=by rw [k];congr 1;omega
   exact ⟨Li.hold ⟨c1,c2⟩ (.inr (u.symm.trans q)) (λ_=>Int.le_refl _) (by rw [m];rfl) ⟨⟨c1,c2⟩,.inl ⟨.inr (u.symm.trans q),by rw [m];show _=Ac.store 0 0 _ (if _ then _ else _);rw [if_pos rfl]⟩⟩,rfl,by simp only [RT.aH];omega⟩
  rw [if_neg q]
  have y:e=5:=by omega
  have m:RT.jf l ⟨true,if l.s.is=true then l.s.low else aF p,aF p⟩=Ac.store 0 0 (79+(i:Int)) (RS.iZ ⟨true,if l.s.is=true then l.s.low else aF p,aF p⟩):=by unfold RT.jf;rw [k]
  have f:=L.s5
  have d:=Li.sb
  simp only at f
  refine ⟨Li.span (.inr y) (z:=⟨true,if l.s.is=true then l.s.low else aF p,aF p⟩) (.inr ⟨_,_,rfl,?_,Int.le_refl _⟩) (by rw [m];rfl) (λM a h _=>?_) ⟨⟨c1,c2⟩,.inr ⟨y,rfl,m⟩⟩,rfl,by simp only [RT.aH];omega⟩
  ·rcases f with h | ⟨a,b,r,G,D⟩
   ·rw [h];exact Int.le_refl _
   ·rw [r];show a<=_;omega
  ·rcases f with h | ⟨a,b,r,G,D⟩
   ·rw [h] at d;exact .inl d
   ·rw [r] at d ⊢
    rw [d]
    exact .inr ⟨rfl,D⟩
 obtain ⟨F,I,B⟩:=key
 exact H.quiet E C H.era F I (λo h=>absurd h (TE B o)) (λo b h=>absurd h (TF B o b)) (eF (.inl (by omega)))
theorem EI.sto (H:EI n e p T own A) (R:i<n) {k:Int} {b:Nat} {w:Wd} (F:(gV p k b w).OK) (S:b=79+i\/∃m,m<9/\b=25+9 * i+m) (N:dm e n (gV p k b w) i h') (I:h'.1.notes=(T i).1.notes) (z:∀o,kv h'.2≠some o) (O:∀o b,h'.2≠.ed o b) (C:Calm h'.2)
  (L:b=79+i->e=4->w.num<=aF p):EI n e (gV p k b w) (bD T i h') own (if b=79+i then bD A i (aF p) else A):=by
 have U:=H.n6
 have r:b≠24/\(∀j,j<n->j≠i->(∀m,m<9->25+9 * j+m≠b)/\79+j≠b):=by
  grind
 have D:aF (gV p k b w)=aF p:=BL r.1
 refine H.p8 R F ⟨rfl,rfl,rfl⟩ ⟨by rw [D,fw (Ne.symm r.1)];exact H.clock.1,by rw [D];exact Int.le_refl _⟩ (λj y B=>⟨λm f=>fw ((r.2 j y B).1 m f),fw (r.2 j y B).2⟩) N H.used H.out (λs Q=>.inl ⟨Q,rfl,rfl⟩) (λ_ _ _=>⟨id,id⟩)
  (by rw [I];exact λm f=>⟨(H.note i m f).own,(H.note i m f).gen,(H.note i m f).bU,λh=>by rw [D];exact (H.note i m f).iY h⟩) (by rw [I];exact H.zP i) (λo M=>absurd M (z o)) (λo b h=>absurd h (O o b)) λG j y f=>?_
 rw [D]
 by_cases u:j=i
 ·subst u
  by_cases d:b=79+j
  ·rw [if_pos d,aG]
   refine ⟨⟨?_,Int.le_refl _,by omega⟩,λz=>by omega⟩
   rw [<-d,pR]
   exact L d G
  ·rw [if_neg d]
   have q:=fw (p:=p) (k:=k) (w:=w) (Ne.symm d)
   rw [q] at f ⊢
   obtain ⟨a,b⟩:=H.ep G j y f
   exact ⟨a,λz=>mY (P:=λk (h:LR)=>k<n->lF (aF p) j h.2) (λ_=>lF.calm C) λk _ E=>b z k E⟩
 ·have q:=fw (p:=p) (k:=k) (w:=w) (r.2 j y u).2
  rw [q] at f ⊢
  have J:(if b=79+i then bD A i (aF p) else A) j=A j:=by
   split
   ·exact bR _ _ u
   ·rfl
  rw [J]
  obtain ⟨a,b⟩:=H.ep G j y f
  exact ⟨a,λz=>mY (P:=λk (h:LR)=>k<n->lF (aF p) j h.2) (λ_=>lF.calm C) λk _ E=>b z k E⟩
theorem gY.sto (S:gY e p T own A j K s g) (C:n<=6) (J:i<n) (N:j<n) {k:Int} {b:Nat} {w:Wd} (G:b=79+i\/∃m,m<9/\b=25+9 * i+m) (E:h'.1.notes=(T i).1.notes) (r:Calm h'.2)
  (f:j=i->(∀k,k∈K->(e=2\/e=3)->b≠25+9 * i+k)/\(b=79+i->(e=2\/e=3)\/e=5/\(p.bd b=Wd.zero\/((p.bd b).num=w.num/\(p.bd b).tag<=w.tag/\w.mark=true)))):gY e (gV p k b w) (bD T i h') own (if b=79+i then bD A i (aF p) else A) j K s g:=by
 have D:∀w m,Kp e w (A j) m->Kp e w ((if b=79+i then bD A i (aF p) else A) j) m:=λw m h=>by
  by_cases d:j=i/\b=79+i
  ·refine ⟨h.k2,h.k3,λO=>?_,h.k5⟩
   have:=(f d.1).2 d.2
   omega
  all_goals grind [bD,aF,bR]
 refine S.p8 (λh=>⟨h,rfl,rfl⟩) (λI B M=>?_) D λH _=>H.calm (by rw [E];exact λ_ h=>h) r
 have L:i<6/\j<6:=by omega
 by_cases d:j=i
 ·subst d
  obtain ⟨u,y⟩:=f rfl
  unfold iR
  by_cases a:e=2\/e=3
  ·rw [if_pos a,if_pos a,fw (Ne.symm (u _ B a))]
   all_goals grind
  ·rw [if_neg a,if_neg a]
   by_cases o:b=79+j
   ·subst o
    rw [pR]
    rcases y rfl with q | ⟨z,q⟩
    ·exact absurd q a
    ·refine ⟨λF h=>⟨λh=>by omega,λh=>by omega,λh=>by omega,λ_=>?_⟩,λm h=>⟨λh=>by omega,λh=>by omega,λh=>by omega,λ_=>?_⟩⟩
     ·have:=h.k5 z
      rcases q with q | ⟨-,u,y⟩
      ·rw [q] at this;exact absurd this.1 (by decide)
      all_goals grind
     ·have:=h.k5 z
      rcases q with q | ⟨q0,u,y⟩
      ·rw [q] at this;exact absurd this.1 (by decide)
      all_goals grind
   ·rw [fw (Ne.symm o)]
    all_goals grind
 all_goals grind [iR,gV,fw]
end
theorem zR {α:Type} (f:Nat->α) (i:Nat) (x y:α):bD (bD f i x) i y=bD f i y:=by
 funext k
 unfold bD
 split <;> rfl
section
variable {n:Nat} {e:Int} {p p':PS} {T:Nat->LR} {own X:Int->fG} {A Y:Nat->Int} {i j:Nat} {l:Lo} {t:RT} {h h':LR} {K:List Nat} {s g:Int} {x:Rp} {c:Ca}
theorem dm.stored (L:dm e n p i (l,t)) (G:i<6) {k:Int} {b:Nat} {w:Wd} (E:jZ l t=some (b:Int)) (z:(∃m,m<9/\b=25+9 * i+m/\w=l.h m/\(e=2\/e=3))\/(b=79+i/\w=RS.iZ l.s/\(e=4\/e=5))) (x:Rp):dm e n (gV p k b w) i (l,.idle x):=by
 have C:b≠24:=by rcases z with ⟨m,f,o,h⟩ | ⟨f,h⟩ <;> omega
 have u:aF (gV p k b w)=aF p:=BL C
 refine ⟨L.qp,L.me,L.QE,L.most,λa c m y=>?_,λa c=>?_,λD m y=>?_,by rw [u];exact L.s5,?_,λm y _=>?_,λ_=>?_,λ_ _ h=>(by cases h),trivial⟩
 ·rcases z with ⟨m,f,o,r,B⟩ | ⟨f,o,r⟩
  ·omega
  ·rw [fw (by omega)];exact L.nk a c m y
 ·rcases z with ⟨m,f,o,r,B⟩ | ⟨f,o,r⟩
  ·rw [fw (by omega)];exact L.ns a c
  ·omega
 ·rw [u]
  refine ⟨(L.h3 D m y).1,?_⟩
  by_cases d:25+9 * i+m=b
  ·rw [d,pR]
   rcases z with ⟨F,f,o,r,B⟩ | ⟨f,o,r⟩
   ·rw [r];exact (L.h3 D F f).1
   ·omega
  ·rw [fw d];exact (L.h3 D m y).2
 ·rw [u]
  by_cases d:79+i=b
  ·rw [d,pR]
   rcases z with ⟨F,f,o,r,B⟩ | ⟨f,o,r⟩
   ·omega
   ·rw [o];exact TA L
  ·rw [fw d];exact L.b5
 ·by_cases d:25+9 * i+m=b
  ·grind [pR]
  ·rw [fw d]
   exact L.kc m y λq=>d (by have q:jZ l t=_:=q;rw [E] at q;have:=Option.some.inj q;omega)
 ·by_cases d:79+i=b
  ·grind [pR]
  ·rw [fw d]
   exact L.sc λq=>d (by have q:jZ l t=_:=q;rw [E] at q;have:=Option.some.inj q;omega)
theorem EI.stored (H:EI n e p T own A) (C:i<n) (z:T i=(l,t)) {b:Nat} {w:Wd} (O:t.acc l=Ac.store 0 0 b w) (G:jZ l t=some (b:Int)) (y:(∃m,m<9/\b=25+9 * i+m/\w=l.h m/\(e=2\/e=3))\/(b=79+i/\w=RS.iZ l.s/\(e=4\/e=5)))
  (I:dm e n (gV p (p.steps+1) b w) i (l,.idle Rp.yes)->dm e n (gV p (p.steps+1) b w) i (RT.aB l t ⟨Wd.zero,true⟩)) (D:(RT.aB l t ⟨Wd.zero,true⟩).1.notes=l.notes) (P:∀o,kv (RT.aB l t ⟨Wd.zero,true⟩).2≠some o) (J:∀o b,(RT.aB l t ⟨Wd.zero,true⟩).2≠.ed o b)
  (k:Calm (RT.aB l t ⟨Wd.zero,true⟩).2) (R:b=79+i->e=5->(∀a,t≠.fin a)->p.bd (79+i)=Wd.zero\/((p.bd (79+i)).num=w.num/\(p.bd (79+i)).tag<=w.tag/\w.mark=true)) (E:b=79+i->e=4->∃a,t=.fin a):Acc n e p T own A i l t:=by
 have L:=H.loc i C
 rw [z] at L
 have M:=H.n6
 have d:b=79+i\/∃m,m<9/\b=25+9 * i+m:=by
  rcases y with ⟨m,q,f,-⟩ | ⟨q,-⟩
  all_goals simp_all
 have u:p.act (t.acc l)=(gV p (p.steps+1) b w,some ⟨Wd.zero,true⟩):=by rw [O];exact H.store (by rcases d with h | ⟨m,q,f⟩ <;> omega)
 have r:=H.ok.act (t.acc l)
 rw [u] at r
 refine ⟨_,_,own,_,u,⟨H.sto C r d (I (L.stored (by omega) G y _)) (by rw [z];exact D) P J k λh W=>?_,λj N K F s g S=>S.sto M.2 C N d (by rw [z];exact D) k λB=>?_⟩,Fr.gV (by rcases d with h | ⟨m,q,f⟩ <;> omega)⟩
 ·rcases y with ⟨m,q,f,-⟩ | ⟨q,f,-⟩
  ·omega
  ·rw [f]
   rcases TA L with h | ⟨a,b,h,U,E⟩
   ·rw [h];show (0:Int)<=_;have:=H.clock.2;omega
   ·rw [h];show a<=_;omega
 ·obtain ⟨Q,V⟩:=F B
  all_goals grind
theorem EI.abr (H:EI n e p T own A) (r:i<n) {a:Ac} (m:T i=(l,.fA c a)):Acc n e p T own A i l (.fA c a):=by
 have L:=H.loc i r
 rw [m] at L
 obtain ⟨c1,y⟩:(0<=c.i/\c.i<9)/\(((e=2\/e=3)/\a=Ac.store 0 0 (25+9 * i+c.i) (l.h c.i.toNat))\/(e=5/\l.s.is=true/\a=Ac.store 0 0 (79+i) (RS.iZ l.s))):=L.qw
 have fin:∀{q:PS},dm e n q i (l,.idle Rp.yes)->dm e n q i (l,.bX c):=λL=>L.next c1 (λ_ _ h=>by cases h)
 have u:Calm (RT.bX c):=by grind [eF,RT.aH]
 rcases y with ⟨f,k⟩ | ⟨f,w,k⟩
 ·have d:a=Ac.store 0 0 ((25+9 * i+c.i.toNat:Nat):Int) (l.h c.i.toNat):=by rw [k];congr 1;omega
  exact H.stored r m (b:=25+9 * i+c.i.toNat) d (by show some a.field=_;rw [d];rfl) (.inl ⟨_,by omega,rfl,rfl,f⟩) fin rfl (λo h=>by cases h) (λo b h=>by cases h) u (λh=>by omega) (λh=>by omega)
 ·have d:a=Ac.store 0 0 ((79+i:Nat):Int) (RS.iZ l.s):=by rw [k];congr 1
  refine H.stored r m (b:=79+i) d (by show some a.field=_;rw [d];rfl) (.inr ⟨rfl,rfl,.inr f⟩) fin rfl (λo h=>by cases h) (λo b h=>by cases h) u (λ_ _ _=>?_) (λ_ h=>by omega)
  refine (L.sp c a rfl f).imp id λh=>?_
  unfold RS.iZ
  all_goals grind
theorem EI.YD (H:EI n e p T own A) (o:i<n) {k:Int} (m:T i=(l,.eD k)):Acc n e p T own A i l (.eD k):=by
 have L:=H.loc i o
 rw [m] at L
 obtain ⟨q,w,u⟩:(e=2\/e=3)/\(0<=k/\k<9)/\l.h k.toNat=Wd.zero:=L.qw
 have f:=L.me
 simp only at f
 obtain ⟨a,b,d⟩:=TB l (k+1)
 have r:(RT.eD k).acc l=Ac.store 0 0 ((25+9 * i+k.toNat:Nat):Int) Wd.zero:=by
  show Ac.store 0 0 (25+l.me * 9+k) Wd.zero=_
  rw [f]
  congr 1
  omega
 exact H.stored o m (b:=25+9 * i+k.toNat) r (by show some (25+9 * l.me+k)=_;rw [f];congr 1;omega) (.inl ⟨_,by omega,rfl,u.symm,q⟩) (λL=>L.leave (by rw [BL (by omega)];exact H.clock.2) (k+1) (by omega)) (F6 l _) b d a (λh=>by omega) (λh=>by omega)
theorem EI.aeU (H:EI n e p T own A) (r:i<n) {a:Ac} (q:T i=(l,.fin a)) (y:a.kind=2):Acc n e p T own A i l (.fin a):=by
 have L:=H.loc i r
 rw [q] at L
 have u:Calm (RT.idle Rp.yes):=by grind [eF,RT.aH]
 rcases L.qw with ⟨k,z,m,f⟩ | ⟨m,f⟩ | ⟨w,f⟩
 ·have d:a=Ac.store 0 0 ((25+9 * i+k:Nat):Int) (l.h k):=by rw [f];congr 1
  exact H.stored r q (b:=25+9 * i+k) d (by show (if a.kind=2 then some a.field else none)=_;rw [if_pos y,d];rfl) (.inl ⟨_,z,rfl,rfl,m⟩) (λL=>L) rfl (λo h=>by cases h) (λo b h=>by cases h) u (λh=>by omega) (λh=>by omega)
 ·have d:a=Ac.store 0 0 ((79+i:Nat):Int) (RS.iZ l.s):=by rw [f];congr 1
  exact H.stored r q (b:=79+i) d (by show (if a.kind=2 then some a.field else none)=_;rw [if_pos y,d];rfl) (.inr ⟨rfl,rfl,m⟩) (λL=>L) rfl (λo h=>by cases h) (λo b h=>by cases h) u (λ_ _ h=>absurd rfl (h a)) (λ_ _=>⟨a,rfl⟩)
 all_goals grind
theorem EI.abt (H:EI n e p T own A) (f:i<n) {o:Wd} {b:Int} (d:T i=(l,.ed o b)):Acc n e p T own A i l (.ed o b):=by
 have L:=H.loc i f
 rw [d] at L
 have U:e=3\/e=4\/e=5:=L.qw
 have N:=L.qp
 simp only at N
 obtain ⟨c1,c2⟩:=H.cut i f o (by rw [d];rfl)
 have y:=H.rb i f o b (by rw [d])
 have C:Calm (RT.idle Rp.yes):=by grind [eF,RT.aH]
 have H1:=H.calm f (h':=(l,.idle Rp.yes)) H.step (L.idle rfl Rp.yes) (by rw [d]) (λo h=>by cases h) (λo b h=>by cases h) C
 have F:EI n e {p with steps:=p.steps+1} (bD T i (l,.idle Rp.yes)) (λs=>if s=o.slot then .note i else own s) A:=by
  refine H1.vH (by rw [c1];simp) (λj=>by rw [c1];simp) (λj w O a q=>?_) (by simp)
  have D:=(H1.cut j w O a).1
  rw [q,c1] at D
  cases D
  rw [aG] at a
  cases a
 have key:∃h',RT.aB l (.ed o b) ⟨ji (aF p),true⟩=h'/\dm e n p i h'/\h'.1.notes=l.notes ++ [⟨o.bN,b,aF p⟩]/\(∀o,kv h'.2≠some o)/\(∀o b,h'.2≠.ed o b)/\Calm h'.2:=by
  have z:=(L.idle rfl Rp.yes).note o b (aF p)
  refine ⟨_,rfl,?_⟩
  simp only [RT.aB,show (ji (aF p)).num=aF p from rfl]
  by_cases g:l.bF
  ·rw [if_pos g]
   exact ⟨z.next (t:=.kQ (ji (aF p))) ⟨L.bF.1 g,_,Int.le_refl _,rfl⟩ (λ_ _ h=>by cases h),rfl,λo h=>(by cases h),λo b h=>(by cases h),eF (.inl (by simp only [RT.aH];omega))⟩
  ·rw [if_neg g]
   exact ⟨z.bQ H.n6,yZ _,(vU _).1,(vU _).2,vG⟩
 obtain ⟨h',G,P,I,R,J,k6⟩:=key
 have E:h'.1.notes=((bD T i (l,.idle Rp.yes)) i).1.notes ++ [⟨o.bN,b,aF p⟩]:=by rw [aG];exact I
 have M:∀u∈((bD T i (l,.idle Rp.yes)) i).1.notes,u.ref.slot≠o.slot:=λu r q=>by
  have:=(H1.note i u r).own
  rw [q,c1] at this
  cases this
 have B:=F.zQ f (h':=h') (k:=p.steps+1) (m:=⟨o.bN,b,aF p⟩) H.step (P.other (λ_ _=>rfl) rfl (Int.le_refl _)) E ⟨if_pos rfl,c2,λh=>y (by omega),λ_=>Int.le_refl _⟩ M R J k6
 rw [zR] at B
 refine ⟨_,_,λs=>if s=o.slot then .note i else own s,A,H.era,⟨by rw [G];exact B,λj w K _ s g S=>?_⟩,⟨rfl,λ_ _=>rfl,rfl,rfl,Int.le_refl _,rfl,Int.le_refl _,λs=>?_⟩⟩
 ·have Q:=(S.calm (i:=i) (h':=(l,.idle Rp.yes)) (k:=p.steps+1) (by rw [d];exact λ_ h=>h) C).vH (s0:=o.slot) (o1:=.note i) ⟨by simp,by simp⟩
  have:=Q.zQ F w (k:=p.steps+1) (i:=i) (h':=h') (m:=⟨o.bN,b,aF p⟩) E (λh=>y (by omega)) (λ_=>rfl) k6
  all_goals grind [zR]
 all_goals grind
theorem aeV (H:EI n e p T own A) {c:Int}:p.act (Ac.eB (ji c))=if aF p=c then (gV p (p.steps+1) 24 (ji (aF p+1)),some ⟨ji (aF p),true⟩) else ({p with steps:=p.steps+1},some ⟨ji (aF p),false⟩):=by
 have a:=BA (p:=p) (s:=0) (g:=0) (f:=24) (o:=ji c) (w:=⟨0,0,c-1+1,c+1,false⟩) (H.has (by decide) (by decide)) (.inl rfl)
 have b:p.at 0 24=ji (aF p):=by unfold PS.at;rw [if_pos rfl];exact H.clock.1
 rw [b] at a
 refine a.trans ?_
 by_cases g:aF p=c
 ·rw [if_pos g,if_pos (by rw [g];exact ⟨rfl,rfl,rfl,rfl⟩),<-g]
  unfold PS.put
  rw [if_pos rfl,show aF p-1+1=aF p+1-1 by omega]
  rfl
 ·rw [if_neg g,if_neg (λq=>g q.2.2.1)]
theorem EI.tick (H:EI n e p T own A) (E:i<n) {k:Int} (B:(gV p k 24 (ji (aF p+1))).OK) (Q:dm e n (gV p k 24 (ji (aF p+1))) i h') (F:h'.1.notes=(T i).1.notes) (U:∀o,kv h'.2≠some o) (R:∀o b,h'.2≠.ed o b) (y:Calm h'.2)
  (S:e=4->(T i).2=.ko (ji (aF p))):EI n e (gV p k 24 (ji (aF p+1))) (bD T i h') own A:=by
 have V:=H.n6
 have r:(gV p k 24 (ji (aF p+1))).bd 24=ji (aF p+1):=pR
 have u:aF (gV p k 24 (ji (aF p+1)))=aF p+1:=by rw [aF,r];rfl
 have D:∀j,(gV p k 24 (ji (aF p+1))).bd (79+j)=p.bd (79+j):=λj=>fw (by omega)
 refine H.p8 E B ⟨rfl,rfl,rfl⟩ ⟨by rw [u,r],by rw [u];omega⟩ (λj G J=>⟨λm f=>fw (by omega),D j⟩) Q H.used H.out (λs q=>.inl ⟨q,rfl,rfl⟩) (λ_ _ _=>⟨id,id⟩)
  (by rw [F];exact λm f=>⟨(H.note i m f).own,(H.note i m f).gen,(H.note i m f).bU,λh=>by rw [u];have:=(H.note i m f).iY h;omega⟩) (by rw [F];exact H.zP i) (λo O=>absurd O (U o)) (λo b h=>absurd h (R o b)) λC j G f=>?_
 rw [D] at f ⊢
 obtain ⟨a,b⟩:=H.ep C j G f
 have I:aF p=A j:=by
  by_cases g:aF p=A j+1
  ·have:=(b g i E).2 _ (S C)
   exact absurd rfl this
  ·omega
 rw [u]
 refine ⟨by omega,λ_=>mY (P:=λk (h:LR)=>k<n->lF (aF p+1) j h.2) (λ_=>lF.calm y) λk _ L=>?_⟩
 have q:=(H.loc k L).qw
 refine ⟨λN seen z d=>?_,λN z d=>?_⟩
 ·rw [z] at q
  obtain ⟨c,M,w⟩:=q.2.2 C
  rw [w] at d
  have:c=aF p+1:=d
  omega
 ·rw [z] at q
  obtain ⟨-,c,M,w⟩:=q
  rw [w] at d
  have:c=aF p+1:=d
  omega
theorem gY.tick (S:gY e p T own A j K s g) {k:Int} {w:Wd} (b:h'.1.notes=(T i).1.notes) (a:Calm h'.2):gY e (gV p k 24 w) (bD T i h') own A j K s g:=by
 refine S.p8 (λh=>⟨h,rfl,rfl⟩) (λm d f=>?_) (λ_ _ h=>h) λH _=>H.calm (by rw [b];exact λ_ h=>h) a
 all_goals grind [iR,gV,fw]
theorem EI.TG (H:EI n e p T own A) (u:i<n) (k:T i=(l,t)) {c:Int} (E:t.acc l=Ac.eB (ji c)) (B:jZ l t=none) (C:∀(q:PS) (x:Rp),dm e n q i (l,.idle Rp.yes)->dm e n q i (RT.aB l t x)) (w:∀x,(RT.aB l t x).1.notes=l.notes) (G:∀x o,kv (RT.aB l t x).2≠some o) (D:∀x o b,(RT.aB l t x).2≠.ed o b)
  (a:∀x,Calm (RT.aB l t x).2) (y:e=4->t=.ko (ji c)):Acc n e p T own A i l t:=by
 have L:=H.loc i u
 rw [k] at L
 have r:=aeV H (c:=c)
 by_cases g:aF p=c
 ·rw [if_pos g] at r
  have d:=H.ok.act (Ac.eB (ji c))
  rw [r] at d
  have z:dm e n (gV p (p.steps+1) 24 (ji (aF p+1))) i (l,.idle Rp.yes):=(L.idle B Rp.yes).other (λm J=>fw (by omega)) (fw (by omega)) (by show aF p<=aF (gV _ _ _ _);rw [show aF (gV p (p.steps+1) 24 (ji (aF p+1)))=aF p+1 from by unfold aF;rw [pR];rfl];omega)
  refine ⟨_,_,own,A,by rw [E];exact r,⟨H.tick u d (C _ _ z) (by rw [k];exact w _) (G _) (D _) (a _) (λF=>by rw [k,g];exact y F),λj M K _ s g S=>S.tick (by rw [k];exact w _) (a _)⟩,⟨rfl,λf I=>fw (by omega),rfl,rfl,Int.le_refl _,rfl,(by rw [show aF (gV p (p.steps+1) 24 (ji (aF p+1)))=aF p+1 from by unfold aF;rw [pR];rfl];omega),λ_=>.inl rfl⟩⟩
 all_goals grind [EI.quiet,dm.idle,Wk.idle,Rp.yes]
theorem EI.abu (H:EI n e p T own A) (d:i<n) {ck:Wd} (b:T i=(l,.kQ ck)):Acc n e p T own A i l (.kQ ck):=by
 have L:=H.loc i d
 rw [b] at L
 obtain ⟨f,c,-,a⟩:(e=3\/e=5)/\∃c,c<=aF p/\ck=ji c:=L.qw
 exact H.TG d b (by rw [a];rfl) rfl (λq x L=>L.bQ H.n6) (λ_=>yZ l) (λ_=>(vU l).1) (λ_=>(vU l).2) (λ_=>vG) (λh=>by omega)
theorem EI.abv (H:EI n e p T own A) (f:i<n) {ck:Wd} (d:T i=(l,.ko ck)):Acc n e p T own A i l (.ko ck):=by
 have L:=H.loc i f
 rw [d] at L
 obtain ⟨k,c,-,a⟩:e=4/\∃c,c<=aF p/\ck=ji c:=L.qw
 exact H.TG f d (by rw [a];rfl) rfl (λq x L=>L.next k (λ_ _ h=>by cases h)) (λ_=>rfl) (λ_ o h=>by cases h) (λ_ o b h=>by cases h) (λ_=>eF (.inr rfl)) (λh=>by rw [a])
end
section
variable {n:Nat} {e:Int} {p p':PS} {T:Nat->LR} {own own':Int->fG} {A A':Nat->Int} {i j:Nat} {l:Lo} {t:RT} {h h':LR} {K:List Nat} {s g:Int} {x:Rp} {c:Ca}
theorem aeW {ck:Wd} {seen:List Wd} {m:Nt} {w:Wd} {A:Int} (d:l.af=e) (q:e=2\/e=3\/e=5) (a:w∈seen) (b:Kp e w A m):RT.kept l ck seen m=true:=by
 unfold RT.kept
 rcases q with h | h | h
 ·rw [if_pos (d.trans h),List.any_eq_true]
  exact ⟨w,a,by unfold RS.tJ;rw [b.k2 h];exact beq_self_eq_true _⟩
 ·rw [iN,if_pos (d.trans h),List.any_eq_true]
  exact ⟨w,a,by unfold RS.tK;exact decide_eq_true (b.k3 h)⟩
 ·rw [iN,iN,if_pos (d.trans h),List.any_eq_true]
  obtain ⟨f,k,o⟩:=b.k5 h
  refine ⟨w,a,?_⟩
  unfold RS.qM RS.jF
  rw [if_pos f]
  simp only [Bool.true_and]
  exact decide_eq_true ⟨k,o⟩
theorem Et {α β:Type} {f:α->β} {l:List α} (h:(l.map f).Nodup):l.Nodup:=List.Pairwise.of_map f (λa b h e=>h (congrArg f e)) h
theorem BO {ck:Wd} {seen:List Wd}:RT.eO l ck seen=(l,.idle Rp.yes)\/∃d r,RT.eO l ck seen=(l,.fE d r)/\d :: r=l.notes.filter λm=>!RT.kept l ck seen m:=by
 unfold RT.eO
 cases a:l.notes.filter λm=>!RT.kept l ck seen m with
 | nil=>exact .inl rfl
 | cons d r=>exact .inr ⟨d,r,rfl,rfl⟩
theorem EI.eO (H:EI n e p T own A) (J:i<n) (B:T i=(l,t)) {ck:Wd} {seen:List Wd} (Y:p.act (t.acc l)=({p with steps:=p.steps+1},some x)) (V:jZ l t=none) (G:RT.aB l t x=RT.eO l ck seen) (Z:e≠1)
  (U:∀j,j<n->∀K s,(∃k,k∈K/\k<9/\F5 e (iR e p j k) s (Gd.bU p s))->NK e p j K (A j) (T i) s->∀m∈l.notes,m.ref.slot=s->RT.kept l ck seen m=true):Acc n e p T own A i l t:=by
 have L:=H.loc i J
 rw [B] at L
 have Li:=L.idle V Rp.yes
 have z:=Et (H.zP i)
 rw [B] at z
 have key:∃w,RT.eO l ck seen=(l,w)/\F4 e (aF p) i l w/\((∃x,w=.idle x)\/∃d r,w=.fE d r/\∀m∈d :: r,¬RT.kept l ck seen m=true):=by
  rcases BO (l:=l) (ck:=ck) (seen:=seen) with g | ⟨d,r,g,C⟩
  ·exact ⟨_,g,trivial,.inl ⟨_,rfl⟩⟩
  ·refine ⟨_,g,⟨Z,λm q=>?_,by rw [C];exact z.sublist List.filter_sublist⟩,.inr ⟨d,r,rfl,λm q=>?_⟩⟩
   ·rw [C] at q
    exact (List.mem_filter.1 q).1
   ·rw [C] at q
    have:=(List.mem_filter.1 q).2
    simpa using this
 obtain ⟨w,R,O,f⟩:=key
 rw [R] at G
 have D:∀c a,w≠.fA c a:=λc a h=>by rcases f with ⟨x,f⟩ | ⟨d,r,f,-⟩ <;> rw [f] at h <;> cases h
 have F:∀j,lF (aF p) j w:=λj=>by
  rcases f with ⟨x,f⟩ | ⟨d,r,f,-⟩ <;> rw [f] <;> exact ⟨λ_ _ h=>(by cases h),λ_ h=>(by cases h)⟩
 refine ⟨_,x,own,A,Y,?_,Fr.refl ..⟩
 rw [G]
 refine ⟨H.stay J H.step (Li.next O D) (by rw [B]) (λo y=>?_) (λo b y=>?_) (λ_ j _ _ _ _ _=>F j),λj X K _ s g S=>?_⟩
 ·rcases f with ⟨x,f⟩ | ⟨d,r,f,-⟩ <;> rw [f] at y <;> cases y
 ·rcases f with ⟨x,f⟩ | ⟨d,r,f,-⟩ <;> rw [f] at y <;> cases y
 refine S.p8 (p':={p with steps:=p.steps+1}) (λh=>⟨h,rfl,rfl⟩) (λ_ _ _=>⟨λ_ h=>h,λ_ h=>h⟩) (λ_ _ h=>h) λN P m q I=>?_
 have Q:=N m (by rw [B];exact q) I
 refine ⟨Q.1,λd r hd=>?_,λQG E hd=>?_⟩
 ·rcases f with ⟨x,f⟩ | ⟨W,M,f,u⟩
  ·rw [f] at hd;cases hd
  ·rw [f] at hd
   cases hd
   have:=U j X K s P N m q I
   exact ⟨λh=>u m (by rw [h];exact List.mem_cons_self ..) this,λh=>u m (List.mem_cons_of_mem _ h) this⟩
 ·rcases f with ⟨x,f⟩ | ⟨W,M,f,u⟩ <;> rw [f] at hd <;> cases hd
theorem TH {α:Type} {l:List α} {x y:α} {k:Nat} (h:(l ++ [x])[k]?=some y):l[k]?=some y\/(k=l.length/\y=x):=by
 rcases Nat.lt_trichotomy k l.length with a | a | a
 ·rw [List.getElem?_append_left a] at h
  exact .inl h
 ·rw [a] at h
  simp at h
  exact .inr ⟨a,h.symm⟩
 ·rw [List.getElem?_append_right (by omega)] at h
  rw [List.getElem?_eq_none (by simp;omega)] at h
  cases h
theorem aeX {α:Type} {l:List α} {x y:α} {k:Nat} (h:l[k]?=some y):(l ++ [x])[k]?=some y:=by
 have:=(List.getElem?_eq_some_iff.1 h).1
 rw [List.getElem?_append_left this]
 exact h
theorem EI.YE (H:EI n e p T own A) (U:i<n) {ck:Wd} {seen:List Wd} (w:T i=(l,.dQ ck seen)):Acc n e p T own A i l (.dQ ck seen):=by
 have L:=H.loc i U
 rw [w] at L
 obtain ⟨he,hlen,Y⟩:e≠1/\(seen.length:Int)<l.all/\(e=4->∃c,c<=aF p/\ck=ji c):=L.qw
 have h6:=H.n6
 have h5:=H.e5
 have kT:=L.qp
 simp only at kT
 have Li:=L.idle rfl Rp.yes
 have Q:∃b:Nat,l.base+seen.length=(b:Int)/\b<85/\∀j k,j<n->k<9->(su e j k=seen.length->p.bd b=iR e p j k)/\(su e j k:Int)<l.all:=by
  have anE:=L.QE
  simp only at anE
  unfold Lo.base Lo.all at *
  by_cases g:l.bg
  ·rw [if_pos g] at hlen ⊢
   rw [if_pos g]
   refine ⟨25+seen.length,by omega,by omega,λj k q hk=>?_⟩
   unfold su iR
   rw [if_pos (L.bg.1 g),if_pos (L.bg.1 g)]
   exact ⟨λh=>by rw [show 25+9 * j+k=25+seen.length by omega],by omega⟩
  ·rw [if_neg g] at hlen ⊢
   rw [if_neg g]
   have g':¬(e=2\/e=3):=λh=>g (L.bg.2 h)
   refine ⟨79+seen.length,by omega,by omega,λj k q hk=>?_⟩
   unfold su iR
   rw [if_neg g',if_neg g']
   exact ⟨λh=>by rw [h],by omega⟩
 obtain ⟨b,hb1,hb2,z⟩:=Q
 have D:p.act ((RT.dQ ck seen).acc l)=({p with steps:=p.steps+1},some ⟨p.bd b,true⟩):=by
  show p.act (Ac.load 0 0 (l.base+seen.length))=_
  rw [hb1]
  exact H.load hb2
 have P:∀j,j<n->∀K s,NK e p j K (A j) (T i) s->∀m∈l.notes,m.ref.slot=s->e≠4->(∃k x,k<9/\(seen ++ [p.bd b])[su e j k]?=some x/\Kp e x (A j) m)\/∃k,k∈K/\k<9/\(seen ++ [p.bd b]).length<=su e j k/\Kp e (iR e p j k) (A j) m:=by
  intro j q K s N m G F X
  obtain ⟨-,-,N3⟩:=N m (by rw [w];exact G) F
  rcases N3 ck seen (by rw [w]) X with ⟨k,x,a1,a2,a3⟩ | ⟨k,a1,a2,a3,a4⟩
  ·exact .inl ⟨k,x,a1,aeX a2,a3⟩
  ·by_cases g:su e j k=seen.length
   ·refine .inl ⟨k,p.bd b,a2,?_,?_⟩
    ·rw [g];simp
    ·rw [(z j k q a2).1 g];exact a4
   ·exact .inr ⟨k,a1,a2,by simp only [List.length_append,List.length_singleton];omega,a4⟩
 by_cases g:(seen.length:Int)+1<l.all
 ·have a:RT.aB l (.dQ ck seen) ⟨p.bd b,true⟩=(l,.dQ ck (seen ++ [p.bd b])):=if_pos g
  refine ⟨_,_,own,A,D,?_,Fr.refl ..⟩
  rw [a]
  refine ⟨H.stay U H.step (Li.next ⟨he,by simp only [List.length_append,List.length_singleton];omega,Y⟩ (λ_ _ h=>by cases h)) (by rw [w]) (λo h=>by cases h) (λo b h=>by cases h) ?_,λj q K _ s g S=>?_⟩
  ·intro X j q M hc anF u
   rw [w] at u
   refine ⟨λQG f h B y E=>?_,λQG h=>(by cases h)⟩
   cases h
   rcases TH E with E | ⟨I,J⟩
   ·exact u.1 ck seen rfl B y E
   ·have C:su e j 0=seen.length:=by unfold su;rw [iN];exact I
    have:=(z j 0 q (by decide)).1 C
    unfold iR at this
    rw [iN] at this
    rw [J,this]
    exact ⟨M,by omega⟩
  ·refine S.p8 (p':={p with steps:=p.steps+1}) (λh=>⟨h,rfl,rfl⟩) (λ_ _ _=>⟨λ_ h=>h,λ_ h=>h⟩) (λ_ _ h=>h) λN BQ m G F=>?_
   have N1:=N m (by rw [w];exact G) F
   refine ⟨N1.1,λd r hd=>(by cases hd),λQG f hd X=>?_⟩
   cases hd
   exact P j q K s N m G F X
 by_cases O:e=4
 ·have W:l.af=4:=kT.trans O
  by_cases gm:RS.may ck.num ((seen ++ [p.bd b]).map RS.jF)=true
  ·have a:RT.aB l (.dQ ck seen) ⟨p.bd b,true⟩=(l,.ko ck):=by
    show (if (seen.length:Int)+1<l.all then _ else if l.af≠4 then _ else if RS.may ck.num ((seen ++ [p.bd b]).map RS.jF)=true then _ else _:LR)=_
    rw [if_neg g,if_neg (λh=>h W),if_pos gm]
   refine ⟨_,_,own,A,D,?_,Fr.refl ..⟩
   rw [a]
   refine ⟨H.stay U H.step (Li.next ⟨O,Y O⟩ (λ_ _ h=>by cases h)) (by rw [w]) (λo h=>by cases h) (λo b h=>by cases h) ?_,λj q K _ s g S=>?_⟩
   ·intro _ j q M hc anF u
    rw [w] at u
    refine ⟨λQG f h=>(by cases h),λQG h B=>?_⟩
    cases h
    have C:su e j 0=j:=by unfold su;rw [iN]
    have V:=(z j 0 q (by decide)).2
    rw [C] at V
    have hk:j<(seen ++ [p.bd b]).length:=by simp only [List.length_append,List.length_singleton];omega
    have E:(seen ++ [p.bd b])[j]?=some (seen ++ [p.bd b])[j]:=List.getElem?_eq_getElem hk
    have Z:(seen ++ [p.bd b])[j]∈seen ++ [p.bd b]:=List.getElem_mem hk
    generalize (seen ++ [p.bd b])[j]=y at E Z
    have R:y.mark=true/\y.num≠aF p:=by
     rcases TH E with E | ⟨I,J⟩
     ·exact u.1 ck seen rfl B y E
     ·have:=(z j 0 q (by decide)).1 (C.trans I)
      unfold iR at this
      rw [iN] at this
      rw [J,this]
      exact ⟨M,by omega⟩
    unfold RS.may at gm
    have:=List.all_eq_true.1 gm (RS.jF y) (List.mem_map.2 ⟨y,Z,rfl⟩)
    unfold RS.jF at this
    rw [if_pos R.1] at this
    simp only [Bool.true_and,Bool.not_eq_true',bne_eq_false_iff_eq] at this
    exact R.2 (this.trans B)
   ·refine S.p8 (p':={p with steps:=p.steps+1}) (λh=>⟨h,rfl,rfl⟩) (λ_ _ _=>⟨λ_ h=>h,λ_ h=>h⟩) (λ_ _ h=>h) λN BQ m G F=>?_
    have N1:=N m (by rw [w];exact G) F
    exact ⟨N1.1,λd r hd=>(by cases hd),λQG f hd X=>(by cases hd)⟩
  ·have a:RT.aB l (.dQ ck seen) ⟨p.bd b,true⟩=(l,.gF):=by
    show (if (seen.length:Int)+1<l.all then _ else if l.af≠4 then _ else if RS.may ck.num ((seen ++ [p.bd b]).map RS.jF)=true then _ else _:LR)=_
    rw [if_neg g,if_neg (λh=>h W),if_neg gm]
   exact H.quiet U w D (by rw [a];exact Li.next O (λ_ _ h=>by cases h)) (by rw [a]) (λo h=>by rw [a] at h;cases h) (λo b h=>by rw [a] at h;cases h) (by rw [a];exact eF (.inr rfl))
 ·have a:RT.aB l (.dQ ck seen) ⟨p.bd b,true⟩=RT.eO l ck (seen ++ [p.bd b]):=by
   show (if (seen.length:Int)+1<l.all then _ else if l.af≠4 then _ else _:LR)=_
   rw [if_neg g,if_pos (by rw [kT];exact O)]
  refine H.eO U w D rfl a he λj q K s BQ N m G F=>?_
  have he':e=2\/e=3\/e=5:=by omega
  rcases P j q K s N m G F O with ⟨k,y,a1,a2,a3⟩ | ⟨k,a1,a2,a3,a4⟩
  ·exact aeW kT he' (List.mem_of_getElem? a2) a3
  ·have:=(z j k q a2).2
   simp only [List.length_append,List.length_singleton] at a3
   omega
theorem EI.VS (H:EI n e p T own A) (q:i<n) (d:T i=(l,.gF)):Acc n e p T own A i l .gF:=by
 have L:=H.loc i q
 rw [d] at L
 have f:e=4:=L.qw
 have b:=L.qp
 simp only at b
 refine H.eO q d (ck:=ji (aF p)) (seen:=[]) H.era rfl rfl (by omega) λj y K s r N m w u=>?_
 unfold RT.kept
 rw [if_neg (by rw [b];omega),if_neg (by rw [b];omega),if_neg (by rw [b];omega)]
 obtain ⟨⟨k,-,-,o⟩,-⟩:=N m (by rw [d];exact w) u
 have o:=o.k4 f
 obtain ⟨k,-,-,a⟩:=r
 have a:=a.k4 f
 unfold iR at a
 rw [iN] at a
 have z:=(H.ep f j y a).1
 unfold RS.ny
 refine decide_eq_true (.inr ?_)
 show m.iY > aF p-2
 omega
theorem EI.YF (H:EI n e p T own A) (hi:i<n) {d:Nt} {r:List Nt} (G:T i=(l,.fE d r)):Acc n e p T own A i l (.fE d r):=by
 have L:=H.loc i hi
 rw [G] at L
 obtain ⟨he,y,E⟩:e≠1/\(∀x∈d :: r,x∈l.notes)/\(d :: r).Nodup:=L.qw
 have R:=H.zP i
 have VU:=H.note i
 rw [G] at R VU
 have W:d∈l.notes:=y d (List.mem_cons_self ..)
 have hd:=VU d W
 obtain ⟨r1,r2⟩:=H.out d.ref.slot (by rw [hd.own];simp)
 have hu:=(H.used _ r1 r2).2 (by rw [hd.own];simp)
 have ha:p.act ((RT.fE d r).acc l)=(PS.free {p with steps:=p.steps+1} d.ref.slot,some ⟨Wd.zero,true⟩):=Qw ⟨r1,r2⟩ (.inr ⟨hu,hd.gen⟩)
 have P:=H.ok.act ((RT.fE d r).acc l)
 rw [ha] at P
 have C:∀m∈l.notes,m≠d->m.ref.slot≠d.ref.slot:=λm D w k=>w (inj R D W k)
 have key:∃F,RT.aB l (.fE d r) ⟨Wd.zero,true⟩=({l with notes:=l.notes.erase d,freed:=l.freed+1},F)/\((∃x,F=.idle x)\/∃B z,F=.fE B z/\r=B :: z):=by
  cases r with
  | nil=>exact ⟨_,rfl,.inl ⟨_,rfl⟩⟩
  | cons B z=>exact ⟨_,rfl,.inr ⟨B,z,rfl,rfl⟩⟩
 obtain ⟨F,V,f⟩:=key
 have hl:dm e n p i ({l with notes:=l.notes.erase d,freed:=l.freed+1},F):=by
  refine L.go (h':=({l with notes:=l.notes.erase d,freed:=l.freed+1},F)) ⟨rfl,rfl,rfl,rfl,rfl,rfl⟩ rfl ?_ (λc a h=>by rcases f with ⟨x,f⟩ | ⟨B,z,f,-⟩ <;> rw [f] at h <;> cases h)
  rcases f with ⟨x,f⟩ | ⟨B,z,f,Q⟩
  ·rw [f];trivial
  ·rw [f]
   rw [Q] at y E
   refine ⟨he,λm D=>?_,(List.nodup_cons.1 E).2⟩
   have w:m≠d:=λq=>(List.nodup_cons.1 E).1 (q ▸ D)
   exact (List.mem_erase_of_ne w).2 (y m (List.mem_cons_of_mem _ D))
 have hgo:∀s,1<=s->s<=p.ns->(PS.free {p with steps:=p.steps+1} d.ref.slot).used (s-1).toNat=if s=d.ref.slot then false else p.used (s-1).toNat:=λs X U=>by
  show (if (s-1).toNat=(d.ref.slot-1).toNat then false else p.used (s-1).toNat)=_
  by_cases k:s=d.ref.slot
  ·rw [if_pos (by rw [k]),if_pos k]
  ·rw [iN,if_neg k]
 refine ⟨_,_,λs=>if s=d.ref.slot then .free else own s,A,ha,?_,⟨rfl,λ_ _=>rfl,rfl,rfl,by show p.nf<=p.nf+1;omega,rfl,Int.le_refl _,λs=>?_⟩⟩
 rotate_left
 ·by_cases k:s=d.ref.slot
  ·exact .inr (.inr ⟨by rw [k];exact hd.own,if_pos k⟩)
  ·exact .inl (if_neg k)
 rw [V]
 have O:∀s,(if s=d.ref.slot then fG.free else own s)≠.free->s≠d.ref.slot/\own s≠.free:=λs k=>by
  by_cases q:s=d.ref.slot
  ·rw [if_pos q] at k;exact absurd rfl k
  ·rw [if_neg q] at k;exact ⟨q,k⟩
 refine ⟨H.p8 hi P ⟨rfl,rfl,rfl⟩ ⟨H.clock.1,Int.le_refl _⟩ (λ_ _ _=>⟨λ_ _=>rfl,rfl⟩) (hl.other (λ_ _=>rfl) rfl (Int.le_refl _)) (λs X U=>?_) (λs k=>H.out s (O s k).2) (λs k=>.inl ⟨(O s k).2,rfl,rfl⟩) (λj hj s=>⟨λh=>?_,λh=>?_⟩) (λm D=>?_) (R.sublist (List.erase_sublist.map _)) (λo M=>?_) (λo b M=>?_)
   (λe4=>Ep.same (p:=p) (A:=A) (T:=T) H.ep (λ_ _=>rfl) rfl (λ_ _=>rfl) (λj _ _ _ _ _=>?_) hi e4),λj hj K _ s g S=>?_⟩
 ·rw [hgo s X U]
  by_cases q:s=d.ref.slot
  ·rw [if_pos q,if_pos q];simp
  ·rw [if_neg q,if_neg q];exact H.used s X U
 ·refine (if_neg λq=>?_).trans h
  rw [q,hd.own] at h
  cases h
  exact hj rfl
 ·refine (if_neg λq=>?_).trans h
  rw [q,hd.own] at h
  cases h
 ·have J:m∈l.notes:=List.mem_of_mem_erase D
  have w:m≠d:=λq=>(List.Nodup.not_mem_erase (Et R)) (q ▸ D)
  have:=VU m J
  exact ⟨(if_neg (C m J w)).trans this.own,this.gen,this.bU,this.iY⟩
 ·rcases f with ⟨x,f⟩ | ⟨B,z,f,-⟩ <;> rw [f] at M <;> cases M
 ·rcases f with ⟨x,f⟩ | ⟨B,z,f,-⟩ <;> rw [f] at M <;> cases M
 ·rcases f with ⟨x,f⟩ | ⟨B,z,f,-⟩ <;> rw [f] <;> exact ⟨λ_ _ h=>(by cases h),λ_ h=>(by cases h)⟩
 ·have Y:s≠d.ref.slot:=λq=>by
   obtain ⟨-,I,-⟩:=S.held.nk i d (by rw [G];exact W) q.symm
   exact (I d r (by rw [G])).1 rfl
  refine S.p8 (p':=PS.free {p with steps:=p.steps+1} d.ref.slot) (λh=>⟨?_,rfl,rfl⟩) (λ_ _ _=>⟨λ_ h=>h,λ_ h=>h⟩) (λ_ _ h=>h) λN BQ m D k=>?_
  ·show fG.known (if s=d.ref.slot then _ else _)
   rw [if_neg Y];exact h
  ·have N1:=N m (by rw [G];exact List.mem_of_mem_erase D) k
   refine ⟨N1.1,λB z u=>?_,λQG seen' u=>?_⟩
   ·have I:=(N1.2.1 d r (by rw [G])).2
    rcases f with ⟨x,f⟩ | ⟨Z,r'',f,Q⟩
    ·rw [f] at u;cases u
    ·rw [f] at u
     cases u
     rw [Q] at I
     exact ⟨λq=>I (q ▸ List.mem_cons_self ..),λq=>I (List.mem_cons_of_mem _ q)⟩
   ·rcases f with ⟨x,f⟩ | ⟨Z,r'',f,Q⟩ <;> rw [f] at u <;> cases u
where
 inj {N:List Nt} (h:(N.map λd=>d.ref.slot).Nodup) {a b:Nt} (ha:a∈N) (hb:b∈N) (hab:a.ref.slot=b.ref.slot):a=b:=by
  induction N with
  | nil=>cases ha
  | cons x N ih =>
   rw [List.map_cons,List.nodup_cons] at h
   rcases List.mem_cons.1 ha with rfl | ha
   ·rcases List.mem_cons.1 hb with rfl | hb
    ·rfl
    ·exact absurd (List.mem_map.2 ⟨b,hb,hab.symm⟩) h.1
   ·rcases List.mem_cons.1 hb with hb | hb
    ·exact absurd (List.mem_map.2 ⟨a,ha,by rw [hab,hb]⟩) h.1
    ·exact ih h.2 ha hb
end
section
variable {n:Nat} {e:Int} {p p':PS} {T:Nat->LR} {own V:Int->fG} {A W:Nat->Int} {i j:Nat} {l:Lo} {t:RT} {h h':LR} {K:List Nat} {s g:Int} {x:Rp} {c:Ca}
theorem EI.acc (H:EI n e p T own A) (m:i<n) (f:T i=(l,t)) (u:t.aH≠0) (y:∀a,t≠.one a) (q:∀a,t=.fin a->a.kind=2) (z:∀c,t≠.bX c):Acc n e p T own A i l t:=by
 cases t with
 | idle x=>exact absurd rfl u
 | one a=>exact absurd rfl (y a)
 | fin a=>exact H.aeU m f (q a rfl)
 | mW=>exact H.abn m f
 | eD k=>exact H.YD m f
 | bX c=>exact absurd rfl (z c)
 | gp c w=>exact H.abq m f
 | fA c a=>exact H.abr m f
 | oZ=>exact H.abo m f
 | jo o=>exact H.VR m f
 | ed o b=>exact H.abt m f
 | kQ c=>exact H.abu m f
 | o5=>exact H.abp m f
 | dQ c s=>exact H.YE m f
 | ko c=>exact H.abv m f
 | gF=>exact H.VS m f
 | fE d r=>exact H.YF m f
theorem pg (x:Rp):Calm (RT.idle x):=eF (.inl (by simp only [RT.aH];omega))
theorem EI.one (H:EI n e p T own A) (f:i<n) {a:Ac} (d:T i=(l,.one a)) (x:Rp):On n e p T own A {p with steps:=p.steps+1} (bD T i (l,.idle x)) own A λ_ _=>True:=by
 have L:=H.loc i f
 rw [d] at L
 exact H.on f (h':=(l,.idle x)) H.step (L.idle rfl x) (by rw [d]) (λo h=>by cases h) (λo b h=>by cases h) (pg x)
theorem aiD {s f:Int} {w:Wd} (a:s=0->0<=f/\f<24):∀b,24<=b->(PS.put p s f w).bd b=p.bd b:=by
 intro b d
 unfold PS.put
 split
 ·rename_i h
  have:=a h
  exact iN
 ·rfl
theorem YG {s f:Int} {w:Wd} (a:s≠0->0<=f/\f<9) (q:Int):Gd.bU (PS.put p s f w) q=Gd.bU p q:=by
 unfold Gd.bU PS.put
 split
 ·rfl
 ·rename_i h
  have:=a h
  show (if _/\_ then w else _:Wd).num=_
  rw [iN]
theorem BS {s f:Int} {w:Wd}:(PS.put p s f w).nb=p.nb/\(PS.put p s f w).ns=p.ns/\(PS.put p s f w).nf=p.nf/\(PS.put p s f w).made=p.made/\(PS.put p s f w).bP=p.bP/\(PS.put p s f w).gen=p.gen/\(PS.put p s f w).used=p.used:=by
 unfold PS.put
 split <;> exact ⟨rfl,rfl,rfl,rfl,rfl,rfl,rfl⟩
theorem EI.put (H:EI n e p T own A) (z:i<n) {a:Ac} (u:T i=(l,.one a)) {s f:Int} (w:Wd) (x:Rp) (D:s=0->0<=f/\f<24) (G:s≠0->0<=f/\f<9) :
  On n e p T own A (PS.put {p with steps:=p.steps+1} s f w) (bD T i (l,.idle x)) own A λ_ _=>True:=by
 have L:=H.loc i z
 rw [u] at L
 have d:=aiD (p:={p with steps:=p.steps+1}) (w:=w) D
 have q:=YG (p:={p with steps:=p.steps+1}) (w:=w) G
 obtain ⟨F,P,Q,R,I,y,C⟩:=BS (p:={p with steps:=p.steps+1}) (s:=s) (f:=f) (w:=w)
 have r:aF (PS.put {p with steps:=p.steps+1} s f w)=aF p:=by unfold aF;rw [d 24 (by decide)]
 have B:=H.step.put s f w
 generalize E:PS.put {p with steps:=p.steps+1} s f w=p' at *
 refine ⟨H.p8 z B ⟨F,P,I⟩ ⟨by rw [d 24 (by decide),r];exact H.clock.1,by rw [r];exact Int.le_refl _⟩ (λj _ _=>⟨λk _=>d _ (by omega),d _ (by omega)⟩) ((L.idle rfl x).other (λk _=>d _ (by omega)) (d _ (by omega)) (by rw [r];exact Int.le_refl _)) (by rw [C];exact H.used) H.out (λs J=>.inl ⟨J,by rw [y],q s⟩) (λ_ _ _=>⟨id,id⟩) (λm M=>?_) (by have:=H.zP i;rw [u] at this;exact this) (λo h=>by cases h) (λo b h=>by cases h)
   (λO=>Ep.same (p:=p) (A:=A) (T:=T) H.ep (λ_ _=>d _ (by omega)) r (λ_ _=>rfl) (λ_ _ _ _ _ _=>lF.calm (pg x)) z O),λj U K _ s g S=>?_⟩
 ·have:=H.note i m (by rw [u];exact M)
  exact ⟨this.own,by rw [y];exact this.gen,λh=>(this.bU h).trans (q _).symm,λh=>by rw [r];exact this.iY h⟩
 ·refine S.p8 (λh=>⟨h,by rw [y],q s⟩) (λk _ _=>?_) (λ_ _ h=>h) λN _=>N.calm (by rw [u];exact λ_ h=>h) (pg x)
  have:iR e p' j k=iR e p j k:=by
   unfold iR
   rw [d _ (by omega),d _ (by omega)]
  rw [this]
  exact ⟨λ_ h=>h,λ_ h=>h⟩
theorem EI.alloc (H:EI n e p T own A) (D:i<n) {a:Ac} (B:T i=(l,.one a)) {b:Int} (I:b<=aF p) (G:p.nf≠0) :
  ∃q:Int,q=p.fr (p.nf-1).toNat/\own q=.free/\(1<=q/\q<=p.ns)/\(PS.alloc {p with steps:=p.steps+1} b).2=⟨⟨q,p.gen (q-1).toNat+1,0,0,false⟩,true⟩ /\
   On n e p T own A (PS.alloc {p with steps:=p.steps+1} b).1 (bD T i (l,.idle (PS.alloc {p with steps:=p.steps+1} b).2)) (λs=>if s=q then .hand i else own s) A λ_ _=>True:=by
 have L:=H.loc i D
 rw [B] at L
 have U:=H.ok.nf
 obtain ⟨C,E,P⟩:=H.ok.fr (p.nf-1).toNat (by omega)
 have z:=H.step.alloc (by have:=H.ok.made.2;show p.made<p.steps+1;omega) b
 have M:PS.alloc {p with steps:=p.steps+1} b=({p with steps:=p.steps+1,nf:=p.nf-1,made:=p.made+1,gen:=λi=>if i=(p.fr (p.nf-1).toNat-1).toNat then p.gen (p.fr (p.nf-1).toNat-1).toNat+1 else p.gen i,used:=λi=>if i=(p.fr (p.nf-1).toNat-1).toNat then true else p.used i,cell:=λi k=>if i=(p.fr (p.nf-1).toNat-1).toNat/\k<10 then iF b k else p.cell i k},⟨⟨p.fr (p.nf-1).toNat,p.gen (p.fr (p.nf-1).toNat-1).toNat+1,0,0,false⟩,true⟩):=by
  unfold PS.alloc
  exact if_neg G
 refine ⟨_,rfl,?_⟩
 generalize R:p.fr (p.nf-1).toNat=q at *
 have f:own q=.free:=by
  by_cases g:own q=.free
  ·exact g
  ·have:=(H.used q C E).2 g
   rw [P] at this
   cases this
 rw [M] at z ⊢
 refine ⟨f,⟨C,E⟩,rfl,?_⟩
 have r:∀s,own s≠.free->s≠q/\(s-1).toNat≠(q-1).toNat:=λs d=>by
  have w:=H.out s d
  have:s≠q:=λe=>d (e ▸ f)
  exact ⟨this,by omega⟩
 have F:∀s,own s≠.free->(if (s-1).toNat=(q-1).toNat/\9<10 then iF b 9 else p.cell (s-1).toNat 9).num=Gd.bU p s:=λs d=>by
  rw [if_neg (λh=>(r s d).2 h.1)];rfl
 refine ⟨H.p8 D z ⟨rfl,rfl,rfl⟩ ⟨H.clock.1,Int.le_refl _⟩ (λ_ _ _=>⟨λ_ _=>rfl,rfl⟩) ((L.idle rfl _).other (λ_ _=>rfl) rfl (Int.le_refl _)) (λs a b=>?_) (λs d=>?_) (λs d=>?_) (λj O s=>⟨λh=>?_,λh=>?_⟩) (λm J=>?_) (by have:=H.zP i;rw [B] at this;exact this) (λo h=>by cases h) (λo b h=>by cases h)
   (λQ=>Ep.same (p:=p) (A:=A) (T:=T) H.ep (λ_ _=>rfl) rfl (λ_ _=>rfl) (λ_ _ _ _ _ _=>lF.calm (pg _)) D Q),λj O K _ s g S=>?_⟩
 ·show (if (s-1).toNat=(q-1).toNat then true else p.used (s-1).toNat)=true↔_
  by_cases d:s=q
  ·rw [if_pos (by rw [d]),if_pos d];simp
  ·rw [iN,if_neg d];exact H.used s a b
 ·by_cases u:s=q
  ·rw [u];exact ⟨C,E⟩
  ·rw [if_neg u] at d;exact H.out s d
 ·by_cases u:s=q
  ·rw [u]
   refine .inr ⟨f,?_⟩
   show (if (q-1).toNat=(q-1).toNat/\9<10 then iF b 9 else _:Wd).num<=_
   rw [if_pos ⟨rfl,by decide⟩]
   exact I
  ·rw [if_neg u] at d
   exact .inl ⟨d,if_neg (r s d).2,F s d⟩
 ·exact (if_neg (r s (by rw [h];simp)).1).trans h
 ·exact (if_neg (r s (by rw [h];simp)).1).trans h
 ·have w:=H.note i m (by rw [B];exact J)
  have y:=r m.ref.slot (by rw [w.own];simp)
  exact ⟨(if_neg y.1).trans w.own,(if_neg y.2).trans w.gen,λh=>(w.bU h).trans (F _ (by rw [w.own];simp)).symm,w.iY⟩
 ·refine S.p8 (λh=>?_) (λ_ _ _=>⟨λ_ h=>h,λ_ h=>h⟩) (λ_ _ h=>h) λN _=>N.calm (by rw [B];exact λ_ h=>h) (pg _)
  have y:=r s h.1
  exact ⟨by show fG.known (if s=q then _ else _);rw [if_neg y.1];exact h,if_neg y.2,F s h.1⟩
theorem VV {b:Int} (a:p.nf=0):PS.alloc {p with steps:=p.steps+1} b=({p with steps:=p.steps+1},Rp.no):=by
 unfold PS.alloc
 exact if_pos a
theorem EI.drop (H:EI n e p T own A) (B:i<n) {w:Wd} (u:T i=(l,.fin ⟨5,0,0,0,w,Wd.zero⟩)) (z:own w.slot=.hand i) (F:p.gen (w.slot-1).toNat=w.gen) :
  p.act ⟨5,0,0,0,w,Wd.zero⟩=(PS.free {p with steps:=p.steps+1} w.slot,some ⟨Wd.zero,true⟩) /\
   On n e p T own A (PS.free {p with steps:=p.steps+1} w.slot) (bD T i (l,.idle Rp.yes)) (λs=>if s=w.slot then .free else own s) A λ_ _=>True:=by
 have L:=H.loc i B
 rw [u] at L
 obtain ⟨C,D⟩:=H.out w.slot (by rw [z];simp)
 have I:=(H.used _ C D).2 (by rw [z];simp)
 have E:p.act ⟨5,0,0,0,w,Wd.zero⟩=(PS.free {p with steps:=p.steps+1} w.slot,some ⟨Wd.zero,true⟩):=Qw ⟨C,D⟩ (.inr ⟨I,F⟩)
 have r:=H.ok.act ⟨5,0,0,0,w,Wd.zero⟩
 rw [E] at r
 refine ⟨E,?_⟩
 have k:∀s,(if s=w.slot then fG.free else own s)≠.free->s≠w.slot/\own s≠.free:=λs d=>by
  by_cases q:s=w.slot
  ·rw [if_pos q] at d;exact absurd rfl d
  ·rw [if_neg q] at d;exact ⟨q,d⟩
 have f:∀s o,own s=o->o≠.hand i->s≠w.slot:=λs o y a q=>by rw [q,z] at y;exact a y.symm
 have G:jZ l (.fin ⟨5,0,0,0,w,Wd.zero⟩)=none:=by unfold jZ;exact if_neg (by show ¬(5:Int)=2;decide)
 refine ⟨H.p8 B r ⟨rfl,rfl,rfl⟩ ⟨H.clock.1,Int.le_refl _⟩ (λ_ _ _=>⟨λ_ _=>rfl,rfl⟩) ((L.idle G _).other (λ_ _=>rfl) rfl (Int.le_refl _)) (λs y a=>?_) (λs d=>H.out s (k s d).2) (λs d=>.inl ⟨(k s d).2,rfl,rfl⟩) (λj M s=>⟨λh=>?_,λh=>?_⟩) (λm J=>?_) (by have:=H.zP i;rw [u] at this;exact this) (λo h=>by cases h) (λo b h=>by cases h)
   (λO=>Ep.same (p:=p) (A:=A) (T:=T) H.ep (λ_ _=>rfl) rfl (λ_ _=>rfl) (λ_ _ _ _ _ _=>lF.calm (pg _)) B O),λj M K _ s g S=>?_⟩
 ·show (if (s-1).toNat=(w.slot-1).toNat then false else p.used (s-1).toNat)=true↔_
  by_cases q:s=w.slot
  ·rw [if_pos (by rw [q]),if_pos q];simp
  ·rw [iN,if_neg q];exact H.used s y a
 ·exact (if_neg (f s _ h (by simp))).trans h
 ·exact (if_neg (f s _ h (by simp))).trans h
 ·have a:=H.note i m (by rw [u];exact J)
  exact ⟨(if_neg (f _ _ a.own (by simp))).trans a.own,a.gen,a.bU,a.iY⟩
 ·refine S.p8 (p':=PS.free {p with steps:=p.steps+1} w.slot) (λh=>⟨?_,rfl,rfl⟩) (λ_ _ _=>⟨λ_ h=>h,λ_ h=>h⟩) (λ_ _ h=>h) λN _=>N.calm (by rw [u];exact λ_ h=>h) (pg _)
  show fG.known (if s=w.slot then _ else _)
  rw [if_neg λq=>h.2 i (by rw [q];exact z)]
  exact h
theorem EI.JR (H:EI n e p T own A) (m:i<n) (f:T i=(l,.bX c)) (w:Wd):On n e p T own A {p with steps:=p.steps+1} (bD T i (RT.aB l (.bX c) ⟨w,true⟩)) own A λ_ _=>True:=by
 have L:=H.loc i m
 rw [f] at L
 obtain ⟨c1,c2⟩:0<=c.i/\c.i<9:=L.qw
 have a:=L.me
 have k:=L.qp
 simp only at a k
 have Li:=L.idle rfl Rp.yes
 have key:dm e n p i (RT.aB l (.bX c) ⟨w,true⟩)/\(RT.aB l (.bX c) ⟨w,true⟩).1.notes=l.notes/\(RT.aB l (.bX c) ⟨w,true⟩).2.aH<9:=by
  simp only [RT.aB]
  by_cases g:l.bF
  ·rw [if_pos g]
   exact ⟨Li.next ⟨L.bF.1 g,c1,c2⟩ (λ_ _ h=>by cases h),rfl,by simp only [RT.aH];omega⟩
  rw [if_neg g]
  by_cases g2:l.af=2/\w.slot≠0/\l.h c.i.toNat≠w.bN
  ·rw [if_pos g2]
   have q:e=2:=k.symm.trans g2.1
   have r:Ac.store 0 0 (25+l.me * 9+c.i) w.bN=Ac.store 0 0 (25+9 * (i:Int)+c.i) w.bN:=by rw [a];congr 1;omega
   exact ⟨Li.hold ⟨c1,c2⟩ (.inl q) (λz=>by omega) (by rw [r];rfl) ⟨⟨c1,c2⟩,.inl ⟨.inl q,by rw [r];show _=Ac.store 0 0 _ (if _ then _ else _);rw [if_pos rfl]⟩⟩,rfl,by simp only [RT.aH];omega⟩
  ·rw [if_neg g2]
   exact ⟨Li.next trivial (λ_ _ h=>by cases h),rfl,by simp only [RT.aH];omega⟩
 obtain ⟨u,y,d⟩:=key
 exact H.on m H.step u (by rw [f];exact y) (λo h=>absurd h (TE d o)) (λo b h=>absurd h (TF d o b)) (eF (.inl (by omega)))
theorem EI.ready (H:EI n e p T own A) (B:i<n) {w:Wd} (y:T i=RT.aB l (.bX c) ⟨w,true⟩) (M:0<=c.i/\c.i<9) (D:l.af=e) (z:w.slot≠0) (m:own w.slot=.Er) (r:p.gen (w.slot-1).toNat=w.gen) (d:e=4\/e=5->l.s.is=true) :
  (∀x,(T i).2=.idle x->gY e p T own A i [c.i.toNat] w.slot w.gen)/\∀c' w',(T i).2=.gp c' w'->RT.gB (T i).1 c.i (aF p)->gY e p T own A i [c.i.toNat] w.slot w.gen:=by
 have L:=H.loc i B
 have J:=H.e5
 have I:=H.bU w.slot (by rw [m];simp)
 have G:=H.clock.2
 have safe:F5 e (iR e p i c.i.toNat) w.slot (Gd.bU p w.slot)->gY e p T own A i [c.i.toNat] w.slot w.gen:=λu=>H.safe m r (List.mem_singleton.2 rfl) (by omega) u
 rw [y] at L ⊢
 simp only [RT.aB] at L ⊢
 by_cases g:l.bF
 ·rw [if_pos g] at L ⊢
  have a:=L.bF.1 g
  refine ⟨λx h=>(by cases h),λc' w' h b=>safe ?_⟩
  have b:=(BN L a).1 b
  have Li:=L.idle rfl Rp.yes
  unfold iR
  rcases b with ⟨C,f,o⟩ | ⟨F,f,o⟩
  ·rw [if_pos (.inr C),Li.kb (show c.i.toNat<9 by omega)]
   exact ⟨λh=>by omega,λ_=>by omega,λh=>by omega,λh=>by omega⟩
  ·rw [iN,Li.sb]
   unfold RS.iZ
   rw [if_pos f]
   refine ⟨λh=>by omega,λh=>by omega,λh=>by omega,λ_=>⟨rfl,?_⟩⟩
   show _<=l.s.high
   omega
 rw [if_neg g] at L ⊢
 by_cases g2:l.af=2/\w.slot≠0/\l.h c.i.toNat≠w.bN
 ·rw [if_pos g2]
  exact ⟨λx h=>(by cases h),λc' w' h=>(by cases h)⟩
 rw [if_neg g2] at L ⊢
 refine ⟨λx h=>safe ?_,λc' w' h=>(by cases h)⟩
 have a:¬(e=3\/e=5):=λh=>g (L.bF.2 h)
 unfold iR
 refine ⟨λk=>?_,λh=>absurd (.inl h) a,λE=>?_,λh=>absurd (.inr h) a⟩
 ·rw [if_pos (.inl k),L.kb (show c.i.toNat<9 by omega)]
  have:l.h c.i.toNat=w.bN:=by
   by_cases q:l.h c.i.toNat=w.bN
   ·exact q
   ·exact absurd ⟨D.trans k,z,q⟩ g2
  rw [this]
  rfl
 ·rw [iN,L.sb]
  unfold RS.iZ
  rw [if_pos (d (.inl E))]
theorem EI.copied (H:EI n e p T own A) (o:i<n) (q:T i=(l,.idle x)) {a b:Nat} (k:a<9) (m:b<9) (d:e=2\/e=3->l.h b=l.h a):iR e p i b=iR e p i a:=by
 have L:=H.loc i o
 rw [q] at L
 unfold iR
 split
 ·rename_i f
  rw [L.kb k,L.kb m,d f]
 ·rfl
theorem F7 (L:dm e n p i h) {k:Int} (o:0<=k/\k<9) (d:e=3\/e=5) (w:aF p<=aF p') (m:RT.gB h.1 k (aF p')):RT.gB h.1 k (aF p):=by
 have:=(BN (l:=h.1) (t:=h.2) L d).1 m
 refine (BN (l:=h.1) (t:=h.2) L d).2 (this.imp (λ⟨a,b,c⟩=>⟨a,b,?_⟩) λ⟨a,b,c⟩=>⟨a,b,?_⟩)
 ·have:=(L.h3 a k.toNat (by omega)).1
  omega
 ·rcases L.s5 with q | ⟨u,v,f,y,r⟩
  ·rw [q] at b;exact absurd b (by decide)
  ·rw [f] at c ⊢
   have c:v=_:=c
   show v=_
   omega
end
end Go.Proofs.YthomdlajobnmnaaGreatDoor.Gd
namespace Go.Proofs.YthomdlajobnmnaaGreatDoor.Sk
open Go.Rex Gd
structure Nd where
 s:Int
 g:Int
 deriving DecidableEq
def dG:Nd:=⟨0,0⟩
structure Gh where
 L:Nat->List Nd
 aj:Nat->Nd->Prop
 key:Nd->Int
 ht:Nd->Int
 seq:Nd->Nat
 c:Nat
def jq (l:Nat) (N:Nd):Int:=if N.s=0 then l else 2+l
def ad (l:Nat) (N:Nd):Ad:=⟨N.s,N.g,jq l N⟩
def ce (p:PS) (l:Nat) (N:Nd):Wd:=if N.s=0 then p.bd l else p.cell (N.s-1).toNat (2+l)
def nm (w:Wd) (N:Nd):Prop:=w.slot=N.s/\w.gen=N.g
def Gh.ky (G:Gh) (N:Nd):Int:=if N.s=0 then -1 else G.key N
def Gh.Lt (G:Gh) (a b:Nd):Prop:=G.ky a<G.ky b\/(G.ky a=G.ky b/\G.seq b<G.seq a)
def Gh.Q (G:Gh) (l:Nat):List Nd:=dG :: G.L l
def x8 (f:Nd->Wd):List Nd->Prop
 | []=>True
 | [a]=>(f a).slot=0
 | a :: b :: r=>nm (f a) b/\x8 f (b :: r)
def Lv (p:PS) (own:Int->fG) (N:Nd):Prop:=own N.s≠.free/\p.gen (N.s-1).toNat=N.g
def Pb (p:PS) (own:Int->fG) (N:Nd):Prop:=own N.s=.Er/\p.gen (N.s-1).toNat=N.g
theorem Pb.lv {p:PS} {own:Int->fG} {N:Nd} (h:Pb p own N):Lv p own N:=⟨by rw [h.1];simp,h.2⟩
structure Li (p:PS) (own:Int->fG) (G:Gh):Prop where
 pb:∀l,l<3->∀N∈G.L l,Pb p own N
 aj:∀l,l<3->∀N∈G.L l,G.aj l N
 zS:∀l,l<3->x8 (ce p l) (G.Q l)
 rm:∀l,l<3->(p.bd l).mark=false
 F8:∀l,l<3->∀N,G.aj l N->Lv p own N->N∈G.L l\/(ce p l N).mark=true
 bot:∀l N,G.aj (l+1) N->G.aj l N
 hi:∀l N,G.aj l N->(l:Int)<G.ht N
 top:∀N,G.aj 0 N->Lv p own N->(ce p 0 N).mark=true->∀l:Nat,(l:Int)<G.ht N->(ce p l N).mark=true
 zT:∀l,l<3->(G.Q l).Pairwise G.Lt
 s0:(G.Q 0).Pairwise λa b=>G.ky a<G.ky b
 f1:∀A B,G.aj 0 A->G.aj 0 B->G.key A=G.key B->G.seq A<G.seq B->A ∉ G.L 0
 sq:∀N,G.aj 0 N->G.seq N<G.c
 sj:∀A B,G.aj 0 A->G.aj 0 B->G.seq A=G.seq B->A=B
 nz:∀N,G.aj 0 N->1<=N.s/\N.g<=p.gen (N.s-1).toNat/\0<=G.key N/\G.ht N<=3
 kc:∀N,G.aj 0 N->Lv p own N->(p.cell (N.s-1).toNat 0).num=G.key N/\(p.cell (N.s-1).toNat 6).num=G.ht N
section
variable {p p':PS} {own z:Int->fG} {G:Gh} {l:Nat} {N P C D:Nd} {f A:Nd->Wd} {w:Wd}
theorem Gh.Lt.trans {a b c:Nd} (e:G.Lt a b) (d:G.Lt b c):G.Lt a c:=by
 unfold Gh.Lt at *
 omega
theorem rz:∀{r:List Nd},(∀a∈r,(A a).slot=(f a).slot/\(A a).gen=(f a).gen)->x8 f r->x8 A r
 | [],_,_=>trivial
 | [a],h,c=>(h a (List.mem_cons_self ..)).1.trans c
 | a :: b :: r,h,c=>⟨⟨(h a (List.mem_cons_self ..)).1.trans c.1.1,(h a (List.mem_cons_self ..)).2.trans c.1.2⟩,rz (λx d=>h x (List.mem_cons_of_mem _ d)) c.2⟩
theorem TJ:∀{r:List Nd},x8 f (r ++ [P])->(f P).slot=0
 | [],h=>h
 | [_],h=>h.2
 | _ :: b :: r,h=>TJ (r:=b :: r) h.2
theorem LB {s:List Nd}:∀{r:List Nd},x8 f (r ++ P :: C :: s)->nm (f P) C
 | [],h=>h.1
 | [_],h=>h.2.1
 | _ :: b :: r,h=>LB (r:=b :: r) h.2
theorem LC {s:List Nd}:∀{r:List Nd},x8 f (r ++ P :: s)->x8 f (P :: s)
 | [],h=>h
 | [_],h=>h.2
 | _ :: b :: r,h=>LC (r:=b :: r) h.2
theorem aiE (c:0<=N.s) (b:0<=P.s) {l a:Nat} (w:Wd):ce (PS.put p P.s (jq l P) w) a N=if a=l/\N.s=P.s then w else ce p a N:=by
 unfold ce PS.put jq
 all_goals grind
theorem tQ {s f:Int} {k:Nat} {i:Nat} (h:s=0\/i≠(s-1).toNat\/(k:Int)≠f) (a:0<=f) (w:Wd):(PS.put p s f w).cell i k=p.cell i k:=by
 grind [PS.put]
theorem JS {s f:Int} {k:Nat} (h:s≠0\/(k:Int)≠f) (a:0<=f) (w:Wd):(PS.put p s f w).bd k=p.bd k:=by
 grind [PS.put]
theorem aeY {s f:Int} {a:Nat} (c:a<3) (d:1<=s) (b:0<=f/\(f<2\/5<=f)) (w:Wd):ce (PS.put p s f w) a N=ce p a N:=by
 grind [ce,JS,tQ]
theorem Li.mem (H:Li p own G) (c:l<3) (a:P=dG\/(G.aj l P/\Lv p own P)) (b:(ce p l P).mark=false):P∈G.Q l:=by
 rcases a with rfl | ⟨e,d⟩
 ·exact List.mem_cons_self ..
 ·refine List.mem_cons_of_mem _ ?_
  all_goals grind [Li.F8]
theorem Li.fB (H:Li p own G) {l:Nat} (h:G.aj l N):G.aj 0 N:=by
 induction l with
 | zero=>exact h
 | succ l a=>exact a (H.bot l N h)
theorem Li.anG (H:Li p own G) {l k:Nat} (h:G.aj l N) (a:k<=l):G.aj k N:=by
 induction l with
 | zero=>rw [show k=0 by omega];exact h
 | succ l b =>
  grind [Li.bot]
theorem Li.succ (H:Li p own G) (d:l<3) (e:P∈G.Q l):(∃a,G.Q l=a ++ [P]/\(ce p l P).slot=0)\/∃a C b,G.Q l=a ++ P :: C :: b/\nm (ce p l P) C/\C∈G.L l:=by
 obtain ⟨a,b,h⟩:=List.append_of_mem e
 have c:=H.zS l d
 rw [h] at c
 cases b with
 | nil=>exact .inl ⟨a,h,TJ c⟩
 | cons C b =>
  refine .inr ⟨a,C,b,h,LB c,?_⟩
  have g:G.L l=(a ++ P :: C :: b).tail:=congrArg List.tail h
  rw [g]
  cases a <;> simp
theorem x9 (h:nm w N) (a:1<=N.s):w.slot≠0:=by
 rw [h.1];omega
theorem xh (h:nm w N) (h':nm w C):N=C:=by
 obtain ⟨a,b⟩:=N
 obtain ⟨c,d⟩:=C
 obtain ⟨i,e⟩:=h
 obtain ⟨j,g⟩:=h'
 all_goals grind
theorem Li.MU (H:Li p own G) (b:l<3) (a:N∈G.L l):G.aj 0 N:=H.fB (H.aj l b N a)
theorem Li.s1 (H:Li p own G) (b:l<3) (a:N∈G.L l):1<=N.s:=(H.nz N (H.MU b a)).1
theorem Li.next (H:Li p own G) (d:l<3) (e:P∈G.Q l) (c:(ce p l P).slot≠0):∃a C b,G.Q l=a ++ P :: C :: b/\nm (ce p l P) C/\C∈G.L l:=by
 grind [Li.succ]
theorem Li.last (H:Li p own G) (c:l<3) (g:P∈G.Q l) (d:(ce p l P).slot=0):∃a,G.Q l=a ++ [P]:=by
 rcases H.succ c g with ⟨a,h,-⟩ | ⟨a,C,b,j,e,i⟩
 ·exact ⟨a,h⟩
 ·exact absurd d (x9 e (H.s1 c i))
theorem mZ (h:1<=N.s):G.ky N=G.key N:=iN
theorem Li.behind (H:Li p own G) (d:l<3) (c:D∈G.L l) (u:(ce p 0 D).mark=true) {a b:List Nd} (hq:G.Q l=a ++ P :: b) (e:P=dG\/G.aj l P/\Lv p own P) (o:(ce p l P).mark=false) (y:G.ky P<=G.key D):D∈b:=by
 have n:=H.s1 d c
 have m:D∈a ++ P :: b:=by rw [<-hq];exact List.mem_cons_of_mem _ c
 have x:(ce p l D).mark=true:=H.top D (H.MU d c) (H.pb l d D c).lv u l (H.hi l D (H.aj l d D c))
 rcases List.mem_append.1 m with h | h
 ·exfalso
  have s:=H.zT l d
  rw [hq,List.pairwise_append] at s
  have:=s.2.2 D h P (List.mem_cons_self ..)
  unfold Gh.Lt at this
  rw [mZ n] at this
  rcases this with i | ⟨i,t⟩
  ·omega
  ·rcases e with e | ⟨e,r⟩
   ·rw [e] at i
    have:G.ky dG=-1:=if_pos rfl
    have:=(H.nz D (H.MU d c)).2.2.1
    omega
   ·have g:=H.fB e
    have k:=(H.nz P g).1
    rw [mZ k] at i
    have j:=H.f1 P D g (H.MU d c) i.symm t
    rcases H.F8 0 (by decide) P g r with q | q
    ·exact j q
    ·have:=H.top P g r q l (H.hi l P e)
     rw [o] at this
     cases this
 all_goals grind
theorem Li.HY (H:Li p own G) (c:l<3) (g:(ce p 0 D).mark=true) (d:P=dG\/G.aj l P/\Lv p own P) (b:(ce p l P).mark=false) (e:(ce p l P).slot=0) (i:G.ky P<=G.key D):D ∉ G.L l:=λj=>by
 obtain ⟨a,h⟩:=H.last c (H.mem c d b) e
 have:=H.behind c j g h d b i
 cases this
theorem Li.abw (H:Li p own G) (d:l<3) (s:(ce p 0 D).mark=true) (n:P=dG\/G.aj l P/\Lv p own P) (c:(ce p l P).mark=false) (j:nm (ce p l P) C) (m:1<=C.s) (q:G.ky P<=G.key D) (g:G.key D<G.key C):D ∉ G.L l:=λk=>by
 obtain ⟨a,t,b,h,r,u⟩:=H.next d (H.mem d n c) (x9 j m)
 obtain rfl:=xh j r
 have o:=H.behind d k s h n c q
 have e:=H.zT l d
 rw [h,List.pairwise_append] at e
 have e:=(List.pairwise_cons.1 e.2.1).2
 rcases List.mem_cons.1 o with i | i
 ·rw [i] at g;omega
 ·have:=(List.pairwise_cons.1 e).1 D i
  unfold Gh.Lt at this
  rw [mZ m,mZ (H.s1 d k)] at this
  omega
end
structure sD (p p':PS) (l:Nat) (P:Nd) (w:Wd):Prop where
 cw:∀(k:Nat) (N:Nd),0<=N.s->ce p' k N=if k=l/\N.s=P.s then w else ce p k N
 cell:∀i k,k<2\/5<=k->p'.cell i k=p.cell i k
 gen:p'.gen=p.gen
 bd:∀k,24<=k->p'.bd k=p.bd k
theorem tV {p:PS} {l:Nat} {P:Nd} (b:0<=P.s) (d:l<3) (w:Wd) (k:Int):sD p (PS.put {p with steps:=k} P.s (jq l P) w) l P w:=by
 refine ⟨λe N c=>aiE c b w,λi m a=>?_,BS.2.2.2.2.2.1,λm a=>?_⟩
 all_goals grind [tQ,jq,JS]
section
variable {p p':PS} {own own':Int->fG} {G:Gh} {l:Nat} {N P C D:Nd} {f f':Nd->Wd} {w:Wd}
theorem Eu {X Y:Nd} (d:X.s=Y.s) (c:X.g=Y.g):X=Y:=by
 obtain ⟨a,b⟩:=X
 all_goals simp_all
theorem Lv.eq {X Y:Nd} (a:Lv p own X) (b:Lv p own Y) (h:X.s=Y.s):X=Y:=Eu h (by rw [<-a.2,<-b.2,h])
theorem Li.qne (H:Li p own G) (c:l<3) {X Y:Nd} (b:X∈G.Q l) (a:Y=dG\/(1<=Y.s/\Lv p own Y)) (h:X.s=Y.s):X=Y:=by
 rcases List.mem_cons.1 b with b | b
 ·rcases a with a | a
  ·rw [b,a]
  ·rw [b] at h
   have:(0:Int)=Y.s:=h
   omega
 ·have d:=H.s1 c b
  rcases a with a | a
  ·rw [a] at h
   have:X.s=0:=h
   omega
  ·exact (H.pb l c X b).lv.eq a.2 h
theorem Li.q0 (H:Li p own G) (b:l<3) {X:Nd} (a:X∈G.Q l):0<=X.s:=by
 rcases List.mem_cons.1 a with a | a
 ·rw [a];exact Int.le_refl _
 ·have:=H.s1 b a;omega
theorem Li.ql (H:Li p own G) (b:l<3) {X:Nd} (a:X∈G.Q l):X=dG\/(1<=X.s/\Lv p own X):=by
 rcases List.mem_cons.1 a with a | a
 ·exact .inl a
 ·exact .inr ⟨H.s1 b a,(H.pb l b X a).lv⟩
theorem Li.pl (H:Li p own G) (a:P=dG\/G.aj l P/\Lv p own P):P=dG\/(1<=P.s/\Lv p own P):=a.imp id λh=>⟨(H.nz P (H.fB h.1)).1,h.2⟩
def Nl (p:PS) (own:Int->fG) (X:Nd):Prop:=X=dG\/(1<=X.s/\Lv p own X)
theorem Nl.s0 (h:Nl p own N):0<=N.s:=by
 rcases h with h | h
 ·rw [h];exact Int.le_refl _
 ·omega
theorem Nl.eq {X Y:Nd} (b:Nl p own X) (a:Nl p own Y) (h:X.s=Y.s):X=Y:=by
 rcases b with b | b
 ·rcases a with a | a
  ·rw [b,a]
  ·rw [b] at h
   have:(0:Int)=Y.s:=h
   omega
 ·rcases a with a | a
  ·rw [a] at h
   have:X.s=0:=h
   omega
  ·exact b.2.eq a.2 h
theorem Li.nl (H:Li p own G) {k:Nat} {X:Nd} (h:G.aj k X) (a:Lv p own X):Nl p own X:=.inr ⟨(H.nz X (H.fB h)).1,a⟩
theorem sD.ne (U:sD p p' l P w) (b:Nl p own P) {k:Nat} {X:Nd} (a:Nl p own X) (h:X≠P\/k≠l):ce p' k X=ce p k X:=by
 rw [U.cw k X a.s0]
 all_goals grind [Lv.eq,Nl.eq]
theorem sD.at (U:sD p p' l P w) (a:0<=P.s):ce p' l P=w:=by
 rw [U.cw l P a,if_pos ⟨rfl,rfl⟩]
theorem sD.lv (U:sD p p' l P w) (X:Nd):Lv p' own X↔Lv p own X:=by unfold Lv;rw [U.gen]
theorem Li.wM (H:Li p own G) (k:∀l,l<3->∀N∈G.L l,Pb p' own' N) (d:∀N,G.aj 0 N->Lv p' own' N->Lv p own N) (n:∀l,l<3->∀N∈G.Q l,(ce p' l N).slot=(ce p l N).slot/\(ce p' l N).gen=(ce p l N).gen)
  (j:∀l,l<3->(p'.bd l).mark=false) (m:∀l,l<3->∀N,G.aj l N->Lv p' own' N->(ce p l N).mark=true->(ce p' l N).mark=true) (g:∀N,G.aj 0 N->Lv p' own' N->(ce p' 0 N).mark=true->∀l:Nat,(l:Int)<G.ht N->(ce p' l N).mark=true)
  (e:∀N,G.aj 0 N->Lv p' own' N->(p'.cell (N.s-1).toNat 0).num=(p.cell (N.s-1).toNat 0).num/\(p'.cell (N.s-1).toNat 6).num=(p.cell (N.s-1).toNat 6).num) (h:∀i,p.gen i<=p'.gen i):Li p' own' G :=
 ⟨k,H.aj,λl c=>rz (n l c) (H.zS l c),j,λl c N a b=>(H.F8 l c N a (d N (H.fB a) b)).imp id (m l c N a b),H.bot,H.hi,g,H.zT,H.s0,H.f1,H.sq,H.sj,λN a=>⟨(H.nz N a).1,Int.le_trans (H.nz N a).2.1 (h _),(H.nz N a).2.2⟩,λN a b=>⟨(e N a b).1.trans (H.kc N a (d N a b)).1,(e N a b).2.trans (H.kc N a (d N a b)).2⟩⟩
theorem Li.same (H:Li p own G) (j:∀l,l<3->∀N∈G.L l,Pb p' own' N) (g:∀N,G.aj 0 N->Lv p' own' N->Lv p own N) (o:∀l,l<3->p'.bd l=p.bd l) (m:∀N,G.aj 0 N->Lv p' own' N->∀k,k≠7->p'.cell (N.s-1).toNat k=p.cell (N.s-1).toNat k) (n:∀i,p.gen i<=p'.gen i):Li p' own' G:=by
 have c:∀l,l<3->∀N,N=dG\/(G.aj 0 N/\Lv p' own' N)->ce p' l N=ce p l N:=λl b N a=>by
  grind [ce,dG]
 have e:∀N,G.aj 0 N->∀l:Nat,(l:Int)<G.ht N->l<3:=λN a l b=>by have:=(H.nz N a).2.2.2;omega
 refine H.wM j g (λl b N a=>?_) (λl b=>by rw [o l b];exact H.rm l b) (λl b N a d h=>?_) (λN a d h l b=>?_) (λN a d=>by rw [m N a d 0 (by decide),m N a d 6 (by decide)];exact ⟨rfl,rfl⟩) n
 ·rw [c l b N ?_]
  ·exact ⟨rfl,rfl⟩
  ·rcases List.mem_cons.1 a with h | h
   ·exact .inl h
   ·exact .inr ⟨H.MU b h,(j l b N h).lv⟩
 ·grind [Li.fB]
 ·rw [c 0 (by decide) N (.inr ⟨a,d⟩)] at h
  rw [c l (e N a l b) N (.inr ⟨a,d⟩)]
  exact H.top N a (g N a d) h l b
theorem Li.mark (H:Li p own G) (U:sD p p' l N w) (x:l<3) (t:G.aj 0 N) (r:Lv p own N) (n:w.slot=(ce p l N).slot/\w.gen=(ce p l N).gen/\w.mark=true) (o:l=0->∀k:Nat,0<k->(k:Int)<G.ht N->(ce p k N).mark=true):Li p' own G:=by
 have u:=(H.nz N t).1
 have c:∀X,Lv p' own X↔Lv p own X:=λX=>by unfold Lv;rw [U.gen]
 have s:∀k X,0<=X.s->(ce p' k X).slot=(ce p k X).slot/\(ce p' k X).gen=(ce p k X).gen\/(k=l/\X.s=N.s):=λk X a=>by
  grind [sD.cw]
 refine H.wM (λk b X a=>⟨(H.pb k b X a).1,by rw [U.gen];exact (H.pb k b X a).2⟩) (λX _ h=>(c X).1 h) (λk b X a=>?_) (λk b=>?_) (λk b X a j h=>?_) (λX a j h k b=>?_) (λX _ _=>?_) (λi=>by rw [U.gen];exact Int.le_refl _)
 ·grind [Li.q0,Li.qne,sD.cw]
 ·have:=U.cw k dG (Int.le_refl _)
  rw [if_neg (λq=>by have:(0:Int)=N.s:=q.2;omega)] at this
  have e:p'.bd k=p.bd k:=this
  rw [e];exact H.rm k b
 ·rw [U.cw k X (by have:=(H.nz X (H.fB a)).1;omega)]
  split
  ·exact n.2.2
  ·exact h
 ·have d:0<=X.s:=by have:=(H.nz X a).1;omega
  rw [U.cw k X d]
  split
  ·exact n.2.2
  ·rename_i g
   rw [U.cw 0 X d] at h
   by_cases m:0=l/\X.s=N.s
   ·have:=((c X).1 j).eq r m.2
    all_goals grind
   ·rw [if_neg m] at h
    exact H.top X a ((c X).1 j) h k b
 ·rw [U.cell _ 0 (.inl (by decide)),U.cell _ 6 (.inr (by decide))]
  exact ⟨rfl,rfl⟩
theorem Li.VX (H:Li p own G) (U:sD p p' l N w) (y:l<3) (u:G.aj 0 N) (x:Lv p own N) (m:¬G.aj l N) (s:(l:Int)<G.ht N) (z:(ce p l N).mark=false):Li p' own G:=by
 have r:=(H.nz N u).1
 have c:∀X,Lv p' own X↔Lv p own X:=λX=>by unfold Lv;rw [U.gen]
 have t:l≠0:=λq=>m (q ▸ u)
 have b:∀k X,0<=X.s->Lv p own X\/X=dG->X≠N\/k≠l->ce p' k X=ce p k X:=λk X a j A=>by
  rw [U.cw k X a]
  refine if_neg λg=>?_
  rcases j with j | j
  ·grind [Lv.eq,Nl.eq]
  ·rw [j] at g
   have:(0:Int)=N.s:=g.2
   omega
 refine H.wM (λk d X a=>⟨(H.pb k d X a).1,by rw [U.gen];exact (H.pb k d X a).2⟩) (λX _ h=>(c X).1 h) (λk d X a=>?_) (λk d=>?_) (λk d X a j h=>?_) (λX a j h k d=>?_) (λX _ _=>?_) (λi=>by rw [U.gen];exact Int.le_refl _)
 ·rw [b k X (H.q0 d a) ((H.ql d a).elim .inr λh=>.inl h.2) ?_]
  ·exact ⟨rfl,rfl⟩
  ·by_cases o:k=l
   ·refine .inl λq=>?_
    rw [o,q] at a
    rcases List.mem_cons.1 a with h | h
    ·rw [h] at r;exact absurd r (by decide)
    ·exact m (H.aj l y N h)
   ·exact .inr o
 ·have:=b k dG (Int.le_refl _) (.inr rfl) (.inl λq=>by rw [<-q] at r;exact absurd r (by decide))
  have e:p'.bd k=p.bd k:=this
  rw [e];exact H.rm k d
 ·rw [b k X (by have:=(H.nz X (H.fB a)).1;omega) (.inl ((c X).1 j)) ?_]
  all_goals grind
 ·have n:0<=X.s:=by have:=(H.nz X a).1;omega
  rw [b 0 X n (.inl ((c X).1 j)) (.inr (Ne.symm t))] at h
  by_cases g:X=N
  ·exfalso
   rw [g] at h
   have:=H.top N u x h l s
   rw [z] at this
   cases this
  ·rw [b k X n (.inl ((c X).1 j)) (.inl g)]
   exact H.top X a ((c X).1 j) h k d
 ·rw [U.cell _ 0 (.inl (by decide)),U.cell _ 6 (.inr (by decide))]
  exact ⟨rfl,rfl⟩
theorem HZ {s e:List Nd}:∀{r:List Nd},(∀a∈r,(f' a).slot=(f a).slot/\(f' a).gen=(f a).gen)->x8 f (r ++ P :: s)->x8 f' (P :: e)->x8 f' (r ++ P :: e)
 | [],_,_,d=>d
 | [a],c,h,d=>⟨⟨(c a (List.mem_cons_self ..)).1.trans h.1.1,(c a (List.mem_cons_self ..)).2.trans h.1.2⟩,d⟩
 | a :: b :: r,c,h,d=>⟨⟨(c a (List.mem_cons_self ..)).1.trans h.1.1,(c a (List.mem_cons_self ..)).2.trans h.1.2⟩,HZ (r:=b :: r) (λx g=>c x (List.mem_cons_of_mem _ g)) h.2 d⟩
theorem YH {a b:List Nd} (h:G.Q l=a ++ P :: b) (c:List Nd):dG :: (a ++ P :: c).tail=a ++ P :: c:=by
 cases a with
 | nil =>
  have:dG :: G.L l=P :: b:=h
  cases this
  rfl
 | cons x a =>
  have:dG=x:=by
   have:dG :: G.L l=x :: (a ++ P :: b):=h
   exact (List.cons.inj this).1
  rw [this]
  rfl
theorem Li.YI (h:G.Lt N N):False:=by unfold Gh.Lt at h;omega
def Gh.H5 (G:Gh) (l:Nat) (M:List Nd):Gh:={G with L:=λk=>if k=l then M else G.L k}
theorem QI {M:List Nd} {k:Nat}:(G.H5 l M).L k=if k=l then M else G.L k:=rfl
theorem aiF {M:List Nd} {k:Nat}:(G.H5 l M).Q k=if k=l then dG :: M else G.Q k:=by
 show dG :: (if k=l then M else G.L k)=_
 split <;> rfl
theorem Li.unlink (H:Li p own G) (U:sD p p' l P w) (j:l<3) (hP:P=dG\/G.aj l P/\Lv p own P) (R:(ce p l P).mark=false) (W:nm (ce p l P) C) (fT:1<=C.s) (YJ:(ce p l C).mark=true) (J:w.slot=(ce p l C).slot/\w.gen=(ce p l C).gen/\w.mark=false) :
  ∃M,Li p' own (G.H5 l M)/\∀X,X∈M↔X∈G.L l/\X≠C:=by
 have K:=H.pl hP
 have Q:0<=P.s:=by rcases K with h | h;rw [h];exact Int.le_refl _;omega
 obtain ⟨a,C',b,s,t,r⟩:=H.next j (H.mem j hP R) (x9 W fT)
 obtain rfl:=xh W t
 have hlv:∀X,Lv p' own X↔Lv p own X:=λX=>by unfold Lv;rw [U.gen]
 have O:=YH s b
 refine ⟨(a ++ P :: b).tail,?_,?_⟩
 rotate_left
 ·intro X
  have Z:=H.zT l j
  rw [s] at Z
  have hXq:∀X,X∈G.L l↔X∈(a ++ P :: C :: b).tail:=λX=>by
   rw [<-s];exact Iff.rfl
  all_goals grind [List.pairwise_cons,Li.YI,List.tail_cons,List.mem_of_mem_tail]
 generalize YK:(a ++ P :: b).tail=M at O ⊢
 have hsub:M.Sublist (G.L l):=by
  rw [<-YK]
  have:G.L l=(a ++ P :: C :: b).tail:=by rw [<-s];rfl
  all_goals grind
 have z:∀X,X∈G.L l->X≠C->X∈M:=λX c hn=>by
  have t:X∈G.Q l:=List.mem_cons_of_mem _ c
  rw [s] at t
  have r:X∈a ++ P :: b:=by
   grind
  rw [<-O] at r
  rcases List.mem_cons.1 r with h | h
  ·have:=H.s1 j c
   rw [h] at this
   exact absurd this (by decide)
  ·exact h
 have I:∀k,((G.H5 l M).L k).Sublist (G.L k):=λk=>by
  rw [QI]
  all_goals grind
 have F:∀k,((G.H5 l M).Q k).Sublist (G.Q k):=λk=>List.Sublist.cons_cons _ (I k)
 have ap2:=H.pb l j C r
 have hCP:C≠P:=λq=>by
  grind
 have S:∀k,k<3->∀X∈G.Q k,Nl p own X:=λk e X c=>H.ql e c
 have x:∀X,X∈a\/X∈b->X≠P:=λX c q=>by
  have Z:=H.zT l j
  all_goals grind [Li.YI,List.pairwise_cons]
 have i:∀k X,Nl p own X->X≠P\/k≠l->(ce p' k X).slot=(ce p k X).slot/\(ce p' k X).gen=(ce p k X).gen:=λk X c hn=>by
  grind [sD.ne]
 have Y:∀X,X∈a\/X∈b->X∈G.Q l:=λX c=>by
  grind
 refine ⟨λk e X c=>?_,λk e X c=>H.aj k e X ((I k).subset c),λk e=>?_,λk e=>?_,λk e X c u=>?_,H.bot,H.hi,λX c u h k e=>?_,λk e=>(H.zT k e).sublist (F k),H.s0.sublist (F 0),λA B t r h3 h4 h5=>H.f1 A B t r h3 h4 ((I 0).subset h5),H.sq,H.sj,λX c=>by rw [U.gen];exact H.nz X c,λX c u=>?_⟩
 ·have:=H.pb k e X ((I k).subset c)
  exact ⟨this.1,by rw [U.gen];exact this.2⟩
 ·rw [aiF]
  by_cases d:k=l
  ·rw [if_pos d,d,O]
   have V:=H.zS l j
   rw [s] at V
   refine HZ (λX c=>i l X (S l j X (Y X (.inl c))) (.inl (x X (.inl c)))) V ?_
   have n:=(LC V).2
   have L:x8 (ce p' l) b:=by
    cases b with
    | nil=>trivial
    | cons y b=>exact rz (λX c=>i l X (S l j X (Y X (.inr c))) (.inl (x X (.inr c)))) n.2
   cases b with
   | nil =>
    show (ce p' l P).slot=0
    rw [U.at Q,J.1]
    exact n
   | cons y b =>
    refine ⟨?_,L⟩
    show nm (ce p' l P) y
    rw [U.at Q]
    exact ⟨J.1.trans n.1.1,J.2.1.trans n.1.2⟩
  ·rw [if_neg d]
   exact rz (λX c=>i k X (S k e X c) (.inr d)) (H.zS k e)
 ·have h0:=U.cw k dG (Int.le_refl _)
  all_goals grind [ce,dG,Li.rm]
 ·have m:=(U.lv X).1 u
  rw [QI]
  by_cases d:k=l
  ·rw [if_pos d]
   rw [d] at c ⊢
   by_cases o:X=P
   ·rw [o]
    rcases H.F8 l j P (o ▸ c) (o ▸ m) with h | h
    all_goals grind
   ·rw [U.ne K (H.nl c m) (.inl o)]
    by_cases E:X=C
    ·exact .inr (by rw [E];exact YJ)
    ·exact (H.F8 l j X c m).imp (λh=>z X h E) id
  ·rw [if_neg d,U.ne K (H.nl c m) (.inr d)]
   exact H.F8 k e X c m
 ·have m:=(U.lv X).1 u
  have T:=H.nl c m
  have ay:(ce p 0 X).mark=true:=by
   by_cases g:X=P/\l=0
   ·rw [g.1,<-g.2,U.at Q,J.2.2] at h;cases h
   ·rw [U.ne K T (by rcases Decidable.not_and_iff_or_not.1 g with g | g;exact .inl g;exact .inr (Ne.symm g))] at h
    exact h
  have:=H.top X c m ay k e
  all_goals grind [sD.ne]
 ·have m:=(U.lv X).1 u
  rw [U.cell _ 0 (.inl (by decide)),U.cell _ 6 (.inr (by decide))]
  exact H.kc X c m
end
def Gh.ins (G:Gh) (l:Nat) (N:Nd) (M:List Nd):Gh:={G with L:=λk=>if k=l then M else G.L k,aj:=λk X=>G.aj k X\/(k=l/\X=N)}
def Gh.jJ (G:Gh) (N:Nd) (k h:Int):Gh:={G with key:=λX=>if X=N then k else G.key X,ht:=λX=>if X=N then h else G.ht X,seq:=λX=>if X=N then G.c else G.seq X,c:=G.c+1}
section
variable {p p':PS} {own own':Int->fG} {G:Gh} {l:Nat} {N P C D:Nd} {f f':Nd->Wd} {w:Wd}
theorem QJ {R:Nd->Nd->Prop} (tr:∀a b c,R a b->R b c->R a c) {a b:List Nd} (h:(a ++ P :: b).Pairwise R) (i:R P N) (e:∀C r,b=C :: r->R N C):(a ++ P :: N :: b).Pairwise R:=by
 rw [List.pairwise_append] at h ⊢
 obtain ⟨s1,s2,s3⟩:=h
 obtain ⟨s4,s5⟩:=List.pairwise_cons.1 s2
 have g:∀X∈b,R N X:=λX d=>by
  cases b with
  | nil=>cases d
  | cons C r =>
   grind [List.pairwise_cons]
 all_goals grind [List.pairwise_cons,List.mem_cons_self,List.mem_cons_of_mem]
theorem Li.link (H:Li p own G) (U:sD p p' l P w) (s:l<3) (hP:P=dG\/G.aj l P/\Lv p own P) (hpm:(ce p l P).mark=false) (hw:nm w N/\w.mark=false) (hNP:Pb p own N) (m:1<=N.s) (K:¬G.aj l N) (hht:(l:Int)<G.ht N)
  (J:(ce p l N).slot=(ce p l P).slot/\(ce p l N).gen=(ce p l P).gen) (hPN:G.Lt P N) (hNC:∀C,nm (ce p l P) C->1<=C.s->G.Lt N C) (hA:l≠0->G.aj (l-1) N)
  (T:l=0->(∀X,G.aj 0 X->G.seq X<G.seq N)/\G.seq N<G.c/\(N.g<=p.gen (N.s-1).toNat/\0<=G.key N/\G.ht N<=3)/\((p.cell (N.s-1).toNat 0).num=G.key N/\(p.cell (N.s-1).toNat 6).num=G.ht N)/\(ce p 0 N).mark=false/\G.ky P<G.ky N/\∀C,nm (ce p 0 P) C->1<=C.s->G.ky N<G.ky C) :
  ∃M,Li p' own (G.ins l N M)/\∀X,X∈M↔X∈G.L l\/X=N:=by
 have eZ:Nl p own P:=H.pl hP
 have zU:=eZ.s0
 have YL:Nl p own N:=.inr ⟨m,hNP.lv⟩
 have hPQ:=H.mem s hP hpm
 obtain ⟨a,b,z⟩:=List.append_of_mem hPQ
 have Z:=YH z (N :: b)
 have hNQ:∀k,¬G.aj k N->N ∉ G.L k\/3<=k:=λk i=>by
  by_cases t:k<3
  ·exact .inl λq=>i (H.aj k t N q)
  ·exact .inr (by omega)
 have hNL:N ∉ G.L l:=λq=>K (H.aj l s N q)
 have anH:N≠P:=λq=>by
  rw [q] at m K
  rcases hP with h | h
  ·rw [h] at m;exact absurd m (by decide)
  ·exact K h.1
 have VY:∀X,X∈(a ++ P :: N :: b).tail↔X∈G.L l\/X=N:=λX=>by
  have hXq:X∈G.L l↔X∈(a ++ P :: b).tail:=by rw [<-z];exact Iff.rfl
  all_goals grind
 refine ⟨(a ++ P :: N :: b).tail,?_,VY⟩
 generalize YK:(a ++ P :: N :: b).tail=M at Z VY ⊢
 have iL:∀k,(G.ins l N M).L k=if k=l then M else G.L k:=λk=>rfl
 have iQ:∀k,(G.ins l N M).Q k=if k=l then dG :: M else G.Q k:=λk=>by
  show dG :: (if k=l then M else G.L k)=_
  split <;> rfl
 have F:∀k X,(G.ins l N M).aj k X↔G.aj k X\/(k=l/\X=N):=λk X=>Iff.rfl
 have aY:(G.ins l N M).Lt=G.Lt:=rfl
 have iky:(G.ins l N M).ky=G.ky:=rfl
 have Cv:∀k,k<3->∀X∈G.Q k,Nl p own X:=λk i X c=>H.ql i c
 have S:∀C r,b=C :: r->nm (ce p l P) C/\1<=C.s:=λC r E=>by
  have L:=H.zS l s
  rw [z,E] at L
  have n:=LB L
  have hCq:C∈G.Q l:=by rw [z,E];simp
  refine ⟨n,?_⟩
  rcases List.mem_cons.1 hCq with h | h
  ·exfalso
   have x:=H.zT l s
   rw [z,E] at x
   cases a with
   | nil =>
    have e1:P=dG:=by
     grind
    all_goals grind [List.pairwise_cons,List.mem_cons_self,Li.YI]
   | cons y a =>
    have e1:y=dG:=by
     grind
    all_goals grind [List.pairwise_cons,Li.YI]
  ·exact H.s1 s h
 have V:∀X,X∈a\/X∈b->X≠P:=λX c q=>by
  grind [Li.zT,Li.YI,List.pairwise_cons]
 have JU:∀X,X∈a\/X∈b->X∈G.Q l:=λX c=>by
  grind
 have e:∀k X,Nl p own X->X≠P\/k≠l->(ce p' k X).slot=(ce p k X).slot/\(ce p' k X).gen=(ce p k X).gen:=λk X c hn=>by
  grind [sD.ne]
 have W:ce p' l N=ce p l N:=U.ne eZ YL (.inl anH)
 refine ⟨λk i X c=>?_,λk i X c=>?_,λk i=>?_,λk i=>?_,λk i X c Y=>?_,λk X c=>?_,λk X c=>?_,λX c Y h k i=>?_,λk i=>?_,?_,λA B n o t h4 h5=>?_,λX c=>?_,λA B n o t=>?_,λX c=>?_,λX c Y=>?_⟩
 ·have:Pb p own X:=by
   grind [Li.pb]
  exact ⟨this.1,by rw [U.gen];exact this.2⟩
 ·rw [iL] at c
  rw [F]
  split at c
  ·rename_i h
   rcases (VY X).1 c with h' | h'
   ·exact .inl (by rw [h];exact H.aj l s X h')
   ·exact .inr ⟨h,h'⟩
  ·exact .inl (H.aj k i X c)
 ·rw [iQ]
  by_cases d:k=l
  ·rw [if_pos d,d,Z]
   have L:=H.zS l s
   rw [z] at L
   refine HZ (λX c=>e l X (Cv l s X (JU X (.inl c))) (.inl (V X (.inl c)))) L ?_
   have u:=LC L
   refine ⟨by show nm (ce p' l P) N;rw [U.at zU];exact hw.1,?_⟩
   cases b with
   | nil =>
    show (ce p' l N).slot=0
    rw [W,J.1]
    exact u
   | cons y b =>
    refine ⟨?_,rz (λX c=>e l X (Cv l s X (JU X (.inr c))) (.inl (V X (.inr c)))) u.2⟩
    show nm (ce p' l N) y
    rw [W]
    exact ⟨J.1.trans u.1.1,J.2.trans u.1.2⟩
  ·rw [if_neg d]
   exact rz (λX c=>e k X (Cv k i X c) (.inr d)) (H.zS k i)
 ·have h0:=U.cw k dG (Int.le_refl _)
  all_goals grind [ce,dG,Li.rm]
 ·grind [sD.lv,Pb.lv,Li.F8,sD.ne,uU.nl,Li.nl]
 ·grind [Li.bot]
 ·rw [F] at c
  rcases c with h | ⟨n,o⟩
  ·exact H.hi k X h
  ·rw [n,o];exact hht
 ·have qd:=(U.lv X).1 Y
  rw [F] at c
  have hXn:Nl p own X:=by grind [uU.nl,Li.nl]
  have ay:(ce p 0 X).mark=true:=by
   by_cases g:X=P/\l=0
   ·rw [g.1,<-g.2,U.at zU,hw.2] at h;cases h
   ·rw [U.ne eZ hXn (by rcases Decidable.not_and_iff_or_not.1 g with g | g;exact .inl g;exact .inr (Ne.symm g))] at h
    exact h
  have F9:G.aj 0 X:=c.resolve_right λq=>by
   grind
  have:=H.top X F9 qd ay k i
  all_goals grind [sD.ne]
 ·rw [iQ]
  by_cases d:k=l
  ·rw [if_pos d,Z]
   have x:=H.zT l s
   rw [z] at x
   exact QJ (R:=G.Lt) (N:=N) (λ_ _ _ n o=>n.trans o) x hPN λC r E=>hNC C (S C r E).1 (S C r E).2
  ·rw [if_neg d];exact H.zT k i
 ·rw [iQ]
  by_cases d:0=l
  ·rw [if_pos d,Z]
   obtain ⟨-,-,-,-,-,q1,q2⟩:=T d.symm
   have x:=H.s0
   have j:=z
   rw [<-d] at j
   rw [j] at x
   refine QJ (R:=λa b=>G.ky a<G.ky b) (N:=N) (λ_ _ _ n o=>Int.lt_trans n o) x q1 λC r E=>?_
   all_goals grind
  ·rw [if_neg d];exact H.s0
 ·
  rw [F] at n o
  rw [iL] at h5
  have t:G.key A=G.key B:=t
  have h4:G.seq A<G.seq B:=h4
  by_cases d:0=l
  ·rw [if_pos d] at h5
   obtain ⟨q1,q2,-,-,-,q3,q4⟩:=T d.symm
   have hAN:A≠N:=λq=>by
    grind
   have I:A∈G.L 0:=by
    grind
   have Q:=H.MU (by decide) I
   rcases o with h | h
   ·exact H.f1 A B Q h t h4 I
   ·rw [h.2] at t
    have x:=H.s0
    have j:=z
    rw [<-d] at j
    have O:=QJ (R:=λa b=>G.ky a<G.ky b) (N:=N) (λ_ _ _=>Int.lt_trans) (j ▸ x) q3 λC r E=>by
     grind
    rw [List.pairwise_append] at O
    obtain ⟨s1,s2,s3⟩:=O
    have s4:=List.pairwise_cons.1 s2
    have s5:=List.pairwise_cons.1 s4.2
    have kA:G.ky A=G.key A:=mZ (H.nz A Q).1
    have kN:G.ky N=G.key N:=mZ m
    have hAm:A∈a ++ P :: b:=by rw [<-j];exact List.mem_cons_of_mem _ I
    all_goals grind
  all_goals grind [Li.f1]
 ·rw [F] at c
  rcases c with h | h
  ·exact H.sq X h
  ·rw [h.2];exact (T h.1.symm).2.1
 ·rw [F] at n o
  have t:G.seq A=G.seq B:=t
  all_goals grind [Li.sj]
 ·rw [F] at c
  rw [U.gen]
  rcases c with h | h
  ·exact H.nz X h
  ·rw [h.2];exact ⟨m,(T h.1.symm).2.2.1⟩
 ·have qd:=(U.lv X).1 Y
  rw [F] at c
  rw [U.cell _ 0 (.inl (by decide)),U.cell _ 6 (.inr (by decide))]
  rcases c with h | h
  ·exact H.kc X h qd
  ·rw [h.2];exact (T h.1.symm).2.2.2.1
theorem Li.jJ (H:Li p own G) (t:¬G.aj 0 N) (k h:Int):Li p own (G.jJ N k h):=by
 have g:∀l X,G.aj l X->X≠N:=λl X c q=>t (q ▸ H.fB c)
 have n:∀l X,G.aj l X->(G.jJ N k h).key X=G.key X:=λl X c=>if_neg (g l X c)
 have r:∀l X,G.aj l X->(G.jJ N k h).ht X=G.ht X:=λl X c=>if_neg (g l X c)
 have j:∀l X,G.aj l X->(G.jJ N k h).seq X=G.seq X:=λl X c=>if_neg (g l X c)
 have o:∀l,l<3->∀X∈G.Q l,(G.jJ N k h).ky X=G.ky X/\(X∈G.L l->(G.jJ N k h).seq X=G.seq X):=λl e X c=>by
  refine ⟨?_,λh=>j l X (H.aj l e X h)⟩
  rcases List.mem_cons.1 c with q | q
  ·rw [q];rfl
  ·unfold Gh.ky
   rw [n l X (H.aj l e X q)]
 have E:∀l,l<3->∀X∈G.Q l,X∈G.L l\/X=dG:=λl e X c=>(List.mem_cons.1 c).symm
 refine ⟨H.pb,H.aj,H.zS,H.rm,H.F8,H.bot,λl X c=>by rw [r l X c];exact H.hi l X c,λX c y F l e=>H.top X c y F l (by rw [r 0 X c] at e;exact e),λl e=>?_,?_,λA B d i s x=>H.f1 A B d i (by rw [<-n 0 A d,<-n 0 B i];exact s) (by rw [<-j 0 A d,<-j 0 B i];exact x),λX c=>by rw [j 0 X c];have:=H.sq X c;show _<G.c+1;omega,λA B d i s=>H.sj A B d i (by rw [<-j 0 A d,<-j 0 B i];exact s),λX c=>by rw [n 0 X c,r 0 X c];exact H.nz X c,λX c y=>by rw [n 0 X c,r 0 X c];exact H.kc X c y⟩
 ·have d:=H.zT l e
  show (dG :: G.L l).Pairwise (G.jJ N k h).Lt
  have d:(dG :: G.L l).Pairwise G.Lt:=d
  rw [List.pairwise_cons] at d ⊢
  refine ⟨λX c=>?_,d.2.imp_of_mem λ{a b} z u m=>?_⟩
  ·have:=o l e X (List.mem_cons_of_mem _ c)
   have s:=(H.nz X (H.MU e c)).2.2.1
   have x:G.ky X=G.key X:=mZ (H.nz X (H.MU e c)).1
   refine .inl ?_
   rw [this.1,x]
   have:(G.jJ N k h).ky dG=-1:=if_pos rfl
   omega
  ·have J:=o l e a (List.mem_cons_of_mem _ z)
   have I:=o l e b (List.mem_cons_of_mem _ u)
   all_goals grind [Gh.Lt]
 ·have d:(dG :: G.L 0).Pairwise λa b=>G.ky a<G.ky b:=H.s0
  show (dG :: G.L 0).Pairwise λa b=>(G.jJ N k h).ky a<(G.jJ N k h).ky b
  refine d.imp_of_mem λ{a b} z u m=>?_
  rw [(o 0 (by decide) a z).1,(o 0 (by decide) b u).1]
  exact m
end
structure St where
 p:PS
 T:Nat->LR
 own:Int->fG
 A:Nat->Int
 G:Gh
def St.c (S:St) (l:Nat) (N:Nd):Wd:=ce S.p l N
def St.dn (S:St) (N:Nd):Wd:=S.p.cell (N.s-1).toNat 7
def St.sf (S:St) (e:Int) (i:Nat) (K:List Nat) (N:Nd):Prop:=gY e S.p S.T S.own S.A i K N.s N.g
def St.kn (S:St) (N:Nd):Prop:=N=dG\/(1<=N.s/\(S.own N.s).known/\S.p.gen (N.s-1).toNat=N.g)
structure nC (S S':St) (tk:Option Nd):Prop where
 aj:∀l N,S.G.aj l N->S'.G.aj l N
 jJ:∀N,S.G.aj 0 N->S'.G.key N=S.G.key N/\S'.G.ht N=S.G.ht N/\S'.G.seq N=S.G.seq N
 tag:∀l,l<3->∀X,S.kn X->S'.kn X->S'.c l X=S.c l X\/((S.c l X).tag<(S'.c l X).tag/\(S.c l X).mark=false)
 ptr:∀l,l<3->∀X,S.kn X->S'.kn X->¬S.G.aj l X->X≠dG->tk≠some X->(S'.c l X).slot=(S.c l X).slot/\(S'.c l X).gen=(S.c l X).gen
 new:∀l,l<3->∀N,N∈S'.G.L l->N∈S.G.L l\/tk=some N
 nin:∀l N,S'.G.aj l N->S.G.aj l N\/tk=some N
 dn:∀X,1<=X.s->S.kn X->S'.kn X->S'.dn X=S.dn X\/((S.dn X).num=0/\(S'.dn X).num≠0)
 aF:aF S.p<=aF S'.p
structure jG (S:St) (l:Nat) (P:Nd) (w:Wd):Prop where
 le:w.tag<=(S.c l P).tag
 eq:w.tag=(S.c l P).tag->w=S.c l P
 mr:w.mark=true->w=S.c l P
def Us:Nat->List Nat
 | 0=>[2,5,8]
 | 1=>[5,8]
 | _=>[8]
def rA (S:St) (τ:Option Nd) (l:Nat):Prop:=∀D,τ=some D->D ∉ S.G.L l
def sF (S:St) (e:Int) (i l:Nat) (b:Int) (P:Nd):Prop:=P=dG\/(S.G.aj l P/\S.sf e i (Us l) P/\S.G.key P<b)
def za (S:St) (e:Int) (i l k:Nat) (w:Wd):Prop:=∃X,nm w X/\S.G.aj l X/\S.sf e i [k] X
structure nO (S:St) (e:Int) (i l:Nat) (b:Int) (s:Pt):Prop where
 ex:∃P,s.a=ad l P/\sF S e i l b P/\jG S l P s.cur
 mr:s.cur.mark=false
 cu:s.cur.slot≠0->∃C,nm s.cur C/\S.G.aj l C/\b<=S.G.key C
structure Nx (S:St) (e:Int) (i l:Nat) (b:Int) (τ:Option Nd) (C:Nd) (w:Wd):Prop where
 cu:w.slot≠0->za S e i l (3 * l) w
 MI:w.slot=0->w.mark=false->S.G.key C<b->rA S τ l
def Ca.acc (q:Ca) (C:Int) (a:Ac):Prop :=
 (q.kind=3/\a=Ac.load q.slot q.gen q.field)\/(q.kind=4/\a=⟨2,q.slot,q.gen,q.field,q.ay,q.new⟩)\/(q.kind=5/\a=⟨3,q.slot,q.gen,q.field,q.ay,q.new⟩)\/(q.kind=8/\∃b,b<=C/\a=⟨4,0,0,0,Wd.zero,Wd.ig b⟩)
def Aw (e:Int) (i:Nat) (p:PS) (q:Ca) (R:Rp->Prop) (h:LR):Prop :=
 match h.2 with
 | .idle x=>R x
 | .one a=>Ca.acc q (aF p) a
 | .bX c=>q.kind=6/\c=q
 | .gp c w=>q.kind=6/\c=q/\(RT.gB h.1 q.i (aF p)->R ⟨w,true⟩)
 | .fA c _=>q.kind=6/\c=q
 | .fin a=>(q.kind=7/\(e=2\/e=3)/\a.kind=2/\a.field=25+9 * i+q.i)\/(q.kind=9/\a=⟨5,0,0,0,q.ay,Wd.zero⟩)\/((q.kind=1\/q.kind=2)/\a.kind=2)
 | .mW=>q.kind=1
 | .eD _=>q.kind=2
 | .oZ=>q.kind=8
 | _=>q.kind=10
def R2 (S:St) (e:Int) (i l:Nat) (τ:Option Nd) (P:Nd) (x:Rp):Prop:=jG S l P x.word/\(x.word.mark=false->(x.word.slot≠0->za S e i l (3 * l+1) x.word)/\(x.word.slot=0->rA S τ l))
def R3 (S:St) (e:Int) (i l:Nat) (b:Int) (τ:Option Nd) (P C:Nd) (cur w:Wd):Prop:=jG S l C w/\(S.c l P=cur->Nx S e i l b τ C w)
def Old (G:Gh) (c:Cm) (F:Nd):Prop:=∀k:Nat,0<k->k<3->∀C,nm (c.sp k).cur C->G.aj 0 C->G.key C=G.key F->G.seq C<=G.seq F
def R5 (S:St) (e:Int) (i l:Nat) (b:Int) (τ:Option Nd) (C:Nd) (c:Cm) (x:Rp):Prop:=eY x.word c.cur->Nx S e i l b τ C c.next/\(b<=S.G.key C->rA S τ l)/\(l=0->Old S.G c C)
def R6 (S:St) (l:Nat) (τ:Option Nd) (P:Nd) (c:Cm) (x:Rp):Prop:=x.ok=true->jG S l P (cB c.cur c.next)/\(c.next.slot=0->rA S τ l)
structure CC (S:St) (e:Int) (i:Nat) (b:Int) (τ:Option Nd) (l:Nat) (c:Cm):Prop where
 l3:l<3
 iG:c.level=l
 bd:c.bound=b
 fd:c.found=Wd.zero
 sp:∀k,l<k->k<3->nO S e i k b (c.sp k)/\rA S τ k
structure lg (S:St) (e:Int) (i l:Nat) (b:Int) (c:Cm) (P:Nd):Prop where
 pv:c.pv=ad l P
 ok:sF S e i l b P
 sn:jG S l P c.cur
 mr:c.cur.mark=false
inductive CI (S:St) (e:Int) (i:Nat) (b:Int) (τ:Option Nd) (l:Nat) (c:Cm):Prop
 | s2 (P:Nd) (h0:c.at'=2) (hp:c.pv=ad l P) (ho:sF S e i l b P) (ht:Aw e i S.p (o9 (ad l P) (3 * l+1)) (R2 S e i l τ P) (S.T i))
 | s3 (P C:Nd) (h0:c.at'=3) (hc:lg S e i l b c P) (hn:nm c.cur C) (hi:S.G.aj l C) (hs:S.sf e i [3 * l+1] C) (ht:Aw e i S.p (o9 (ad l C) (3 * l)) (λx=>R3 S e i l b τ P C c.cur x.word) (S.T i))
 | s4 (P C:Nd) (h0:c.at'=4) (hc:lg S e i l b c P) (hn:nm c.cur C) (hi:S.G.aj l C) (hs:S.sf e i [3 * l+1] C) (hx:R3 S e i l b τ P C c.cur c.next) (ht:Aw e i S.p (gH ⟨C.s,C.g,0⟩) (λx=>x.word.num=S.G.key C) (S.T i))
 | s5 (P C:Nd) (h0:c.at'=5) (hc:lg S e i l b c P) (hn:nm c.cur C) (hi:S.G.aj l C) (hs:S.sf e i [3 * l+1] C) (hx:R3 S e i l b τ P C c.cur c.next) (hk:c.k=S.G.key C) (ht:Aw e i S.p (gH (ad l P)) (R5 S e i l b τ C c) (S.T i))
 | s6 (P C:Nd) (h0:c.at'=6) (hc:lg S e i l b c P) (hn:nm c.cur C) (hi:S.G.aj l C) (hs:S.sf e i [3 * l+1] C) (hx:jG S l C c.next) (hm:c.next.mark=true) (hu:c.next.slot≠0->za S e i l (3 * l) c.next) (ht:Aw e i S.p (fM (ad l P) c.cur (cB c.cur c.next)) (R6 S l τ P c) (S.T i))
 | s7 (C:Nd) (h0:c.at'=7) (hp:c.pv=ad l C) (hi:S.G.aj l C) (hk:S.G.key C<b) (hs:S.sf e i [3 * l+1] C) (hx:jG S l C c.next) (hm:c.next.mark=false) (hu:c.next.slot≠0->za S e i l (3 * l) c.next) (hq:c.next.slot=0->rA S τ l) (ht:Aw e i S.p (mF (3 * l+2) (3 * l+1)) (λ_=>True) (S.T i)) (he:e=2\/e=3->(S.T i).1.h (3 * l+2)=(S.T i).1.h (3 * l+1))
 | s8 (P:Nd) (h0:c.at'=8) (hc:lg S e i l b c P) (hu:za S e i l (3 * l) c.cur) (ht:Aw e i S.p (mF (3 * l+1) (3 * l)) (λ_=>True) (S.T i)) (he:e=2\/e=3->(S.T i).1.h (3 * l+1)=(S.T i).1.h (3 * l))
 | s9 (P:Nd) (h0:c.at'=9) (h2:l<2) (hp:c.pv=ad l P) (hi:S.G.aj l P) (hk:S.G.key P<b) (hs:S.sf e i (Us (l+1)) P) (ht:Aw e i S.p (mF (3 * l+2) (3 * l+5)) (λ_=>True) (S.T i))
structure CE (S:St) (e:Int) (i:Nat) (b:Int) (τ:Option Nd) (c:Cm):Prop where
 sp:∀k,k<3->nO S e i k b (c.sp k)/\rA S τ k
 fd:c.found.slot≠0->∃F,c.found=⟨F.s,F.g,0,0,false⟩/\S.G.aj 0 F/\S.sf e i [1] F/\S.G.key F=b/\Old S.G c F
 no:c.found.slot=0->∀C,nm (c.sp 0).cur C->1<=C.s->S.G.key C≠b
section
variable {S S':St} {e:Int} {i l k:Nat} {b:Int} {τ n:Option Nd} {P C D N X:Nd} {w cur:Wd} {c:Cm} {x:Rp} {K:List Nat}
theorem adu (h:S.sf e i K N) (a:1<=N.s):S.kn N:=.inr ⟨a,gY.kn h,gY.gen h⟩
theorem jG.mG (h:jG S l P w) (B:nC S S' n) (a:l<3) (f:S.kn P) (d:S'.kn P):jG S' l P w:=by
 rcases B.tag l a P f d with q | ⟨j,g⟩
 ·exact ⟨by rw [q];exact h.le,by rw [q];exact h.eq,by rw [q];exact h.mr⟩
 ·refine ⟨by have:=h.le;omega,λq=>by have:=h.le;omega,λq=>?_⟩
  have:=h.mr q
  rw [this,g] at q
  cases q
theorem jG.back (h:jG S l P w) (B:nC S S' n) (d:l<3) (j:S.kn P) (f:S'.kn P) (a:S'.c l P=w):S.c l P=w:=by
 rcases B.tag l d P j f with q | ⟨g,m⟩
 ·rw [<-q];exact a
 ·rw [a] at g
  have:=h.le
  omega
theorem rA.mG (h:rA S τ l) (B:nC S S' n) (f:l<3) (g:∀D,τ=some D->n≠some D):rA S' τ l:=λD a d=>by
 rcases B.new l f D d with q | q
 ·exact h D a q
 ·exact g D a q
end
end Go.Proofs.YthomdlajobnmnaaGreatDoor.Sk
