/- part 6 of the proof -/
import Derived.Test.YthomdlajobnmnaaGreatDoorX5
set_option linter.unusedSimpArgs false
set_option linter.unusedVariables false
namespace Go.Rex
theorem Co {P:Program} {T:bf} {R:Ending->World->Prop} {F b:aZ} {a:AS} {w:World} (d:b.f=F.f) (c:b.todo=F.todo) (e:b.cur=F.cur)
  (h:dV P T R F a w):dV P T R b a w:=by
 grind [dV]
theorem NC (F:aZ) (d:Option Tmp) (v:SV):(F.put d v).f=F.f/\(F.put d v).todo=F.todo/\(F.put d v).cur=F.cur:=by cases d <;> exact ⟨rfl,rfl,rfl⟩
theorem Jm (F:aZ) (i:Nat):(F.eB i).f=F.f/\(F.eB i).todo=F.todo/\(F.eB i).fr=F.fr:=by
 unfold aZ.eB
 split <;> exact ⟨rfl,rfl,rfl⟩
theorem Sr {F G:aZ} (i:Nat) (h:F.cur=G.cur):(F.eB i).cur=(G.eB i).cur:=by
 grind [aZ.eB,Dl,EZ]
theorem GM {F:aZ} {i:Nat} {p:List Nat} {k:dC} {sc:List SB} {d:Bool} (h:(F.eB i).cur=.dr p k sc d):d=true/\∃p' k' a,F.cur=.dr p' k' sc a:=by
 grind [aZ.eB,Dl,EZ]
theorem qX.put {T:bf} {ρ:Env} {ν:Nat->Addr} {F:aZ} {a:Act} {S:World->Prop} (h:qX T ρ ν F a S) {dst:Option Tmp} (hd:vo T F.f dst=true) {v:SV} {x:Value} (f:x=v.den ρ ν) :
  qX T ρ ν (F.put dst v) (a.put dst x) S:=by
 subst f
 cases dst with
 | none=>exact ⟨h.fr,h.tmps,h.defers,h.held⟩
 | some d =>
  have e:d<a.tmps.size:=Nat.lt_of_lt_of_le (by simpa [vo] using hd) h.tmps
  refine ⟨λt u b=>?_,by simpa [aZ.put,Act.put] using h.tmps,h.defers,λp k sc d g=>h.held p k sc d g⟩
  simp only [aZ.put] at b
  simp only [Act.put]
  unfold assoc at b
  split at b
  ·rename_i c
   simp only [beq_iff_eq] at c
   subst c
   simp at b
   subst b
   rw [Array.getD_eq_getD_getElem?]
   simp [e]
  ·rename_i c
   simp only [beq_iff_eq] at c
   rw [Array.getD_eq_getD_getElem?,Array.getElem?_setIfInBounds_ne c,<-Array.getD_eq_getD_getElem?]
   exact h.fr t u b
theorem qX.advance {T:bf} {ρ:Env} {ν:Nat->Addr} {F:aZ} {a:Act} {S:World->Prop} (h:qX T ρ ν F a S) (i:Nat):qX T ρ ν (F.eB i) a S:=by
 obtain ⟨b,e,c⟩:=Jm F i
 refine ⟨by rw [c];exact h.fr,by rw [b];exact h.tmps,h.defers,λp k sc d f=>?_⟩
 all_goals grind [GM,qX.held,Rel.held]
abbrev mo:=List (dJ × (Env->Prop) × (Env->Prop))
def wP (P:Program) (T:bf) (B:AY) (R:Ending->World->Prop) (cs:mo) (ρ:Env) (ν:Nat->Addr) (c:dh) (a:AS) (aS0:List AS) (w:World):SR->Prop
 | .next i n h=>(∀b∈i,b.den ρ=true) ->
   (∀d m l e j,bY c.nv c.hp.length ρ d ν m->(n=[]->d=ρ)->c.nv<=h.nv/\c.hp.length<=h.hp.length->(∀b∈i,b.den d=true)->(∀f∈n,f.den d)->Rel T B d m h l e j->Goal P T R h l e j)->Goal P T R c a aS0 w
 | .alt x y=>(Rel T B ρ ν x a aS0 w->Goal P T R x a aS0 w)->(Rel T B ρ ν y a aS0 w->Goal P T R y a aS0 w)->Goal P T R c a aS0 w
 | .call i g o h=>(∀b∈i,b.den ρ=true)->∀k pre post,cs[g]?=some (k,pre,post)->pre (o.bT ρ) ->
   (∀d m l e j,bY c.nv c.hp.length ρ d ν m->c.nv<=h.nv/\c.hp.length<=h.hp.length->(∀b∈i,b.den d=true)->post (aV o k.nv c.nv ρ d)->Rel T B d m h l e j->Goal P T R h l e j)->Goal P T R c a aS0 w
 | .ret i v=>(∀b∈i,b.den ρ=true)->(c.dH=[]->R (.returned (v.den ρ ν)) w)->Goal P T R c a aS0 w
 | _=>True
theorem RB {P:Program} {f:FuncId} {R:Ending->World->Prop} {k:List Item} {c:List PanicEntry} {a b:Act} {w w':World} (h:lZ P f R k (.panic c) a w):lZ P f R k (.panic c) b w':=by
 cases h.1
theorem Dx {ρ:Env} {ν:Nat->Addr}:∀{args:List SW} {i:Nat} {t:Nat} {v:SV},assoc t (zt args i)=some v->∃k x,t=i+k/\args[k]?=some x/\v=.w x
 | [],i,t,v,h=>by simp [zt,assoc] at h
 | x :: r,i,t,v,h=>by
  simp only [zt] at h
  unfold assoc at h
  split at h
  ·rename_i a
   simp only [beq_iff_eq] at a
   simp at h
   exact ⟨0,x,by omega,rfl,h.symm⟩
  ·obtain ⟨k,y,d,b,c⟩:=Dx (ρ:=ρ) (ν:=ν) h
   exact ⟨k+1,y,by omega,by simpa using b,c⟩
theorem aD.ajT {ρ:Env} {ν:Nat->Addr} {b:List SB} {w:World} (h:aD ρ ν b w) {sb:SB} (m:sb.dead ρ=false->ν b.length=⟨(ν b.length).block,0,none⟩/\(∃arr,jl w.heap[(ν b.length).block]? sb.t arr/\sb.has ρ ν arr) /\
    ∀(k:Nat) (s:SB),b[k]?=some s->s.dead ρ=false->(ν k).block≠(ν b.length).block) (e:sb.ro=false):aD ρ ν (b ++ [sb]) w:=by
 cases hd:sb.dead ρ with
 | false =>
  grind [aD.push]
 | true =>
  have d:∀(i:Nat) (a:SB),(b ++ [sb])[i]?=some a->a.dead ρ=false->b[i]?=some a:=by
   grind
  exact ⟨λi j x y o p l g n q=>h.inj i j x y (d i x o l) (d j y p g) l g n q,λk s f c e=>h.ak k s (d k s f c) c e,λk s f c e=>h.rd k s (d k s f c) c e⟩
theorem Jn {f:FuncId} {aS0:List SW}:∀{l:List dJ} {i g:Nat} {k:dJ},zw f aS0 l i=some (g,k)->k.f=f/\i<=g/\l[g-i]?=some k
 | [],_,_,_,h=>by simp [zw] at h
 | c :: r,i,g,k,h=>by
  unfold zw at h
  split at h
  ·rename_i a
   simp only [Option.some.injEq,Prod.mk.injEq] at h
   obtain ⟨rfl,rfl⟩:=h
   simp only [Bool.and_eq_true,beq_iff_eq] at a
   exact ⟨a.1,Nat.le_refl _,by simp⟩
  ·obtain ⟨b,e,d⟩:=Jn h
   refine ⟨b,by omega,?_⟩
   rw [show g-i=(g-(i+1))+1 by omega]
   simpa using d
theorem Xg {σ:Sub} {d:List (Nat × Nat)}:∀{l:List (Nat × Nat)},WX σ d l=true->∀g k,assoc g l=some k->∃b,assoc g d=some b/\RU σ k b=true
 | [],_,g,k,h=>by simp [assoc] at h
 | (j,i) :: r,h,g,k,a=>by
  simp only [WX,Bool.and_eq_true] at h
  unfold assoc at a
  split at a
  ·rename_i e
   simp only [beq_iff_eq] at e
   subst e
   simp at a
   subst a
   obtain ⟨c,-⟩:=h
   split at c
   ·rename_i b f
    exact ⟨b,f,c⟩
   ·cases c
  ·exact Xg h.2 g k a
theorem af6 {σ:Sub} {ρ:Env} {ν:Nat->Addr} {a:List (Nat × Nat)} (m:iU ν a) {l:List (Nat × Nat)} (h:WX σ a l=true):iU (σ.eX ρ ν) l:=by
 refine ⟨λg k i c=>?_,λg o k n f d j e b=>?_⟩
 all_goals grind [Xg,OC,NA.at_,iU.at_,iU.ne]
theorem Xh {σ:Sub} {m d:Nat} {ρ c:Env} {ν e:Nat->Addr} {n:Nat} (b:bY m n (σ.env ρ ν) c (σ.eX ρ ν) e):aV σ m d ρ (fq d m ρ c)=c.num:=by
 simp only [aV,Env.num,Env.mk.injEq,true_and,and_true]
 have f:∀i,m<=i->¬(i-m+d<d)/\i-m+d-d+m=i:=λi a=>by omega
 refine ⟨?_,?_,?_,?_⟩ <;> funext i <;> split
 ·rename_i a;rw [b.iv i a];rfl
 ·grind [fq]
 ·rename_i a;rw [b.bv i a];rfl
 ·grind [fq]
 ·rename_i a;rw [b.ic i a];rfl
 ·grind [fq]
 ·rename_i a;rw [b.bc i a];rfl
 all_goals grind [fq]
section
variable {P:Program} {T:bf} {B:AY} {R:Ending->World->Prop} {E:Ex} {cs:mo} {ρ:Env} {ν:Nat->Addr} {c:dh} {a:AS} {aS0:List AS} {w:World}
theorem Su (hT:dI P T) (hE:E.cons=cs.map (·.1)) (hC:∀k pre post,(k,pre,post)∈cs->kX k=true/\aK P k pre post) (n:Rel T B ρ ν c a aS0 w) {p:List Nat} (bH:c.top.Dj=p)
  {i:Nat} {eB:aZ->aZ} (Pq:∀F:aZ,F.cur=c.top.cur->eB F=F.eB i) {Q:Exit->Act->World->Prop} {K:Act->World->Prop}
  (hK:∀(F':aZ) (a':Act) (w':World),F'.f=c.top.f->F'.todo=c.top.todo->F'.cur=(c.top.eB i).cur->dV P T (RK P T R c.dH aS0) F' (a',a.2) w'->K a' w')
  (hG:wpOp P (T.ops c.top.f p) Q i K a.1 w->Goal P T R c a aS0 w) :
  wP P T B R cs ρ ν c a aS0 w (AX T E c (T.ops c.top.f p) i eB):=by
 have hput:∀(d:Option Tmp) (v:SV),eB (c.top.put d v)=(c.top.put d v).eB i:=λd v=>Pq _ (NC _ _ _).2.2
 have Jo:∀(d:Option Tmp) (v:SV) p k sc,(eB (c.top.put d v)).cur=.dr p k sc false->False:=by
  grind [GM]
 have S:∀(c':dh) (d:Option Tmp) (v:SV) (a':Act) (w':World),c'.top=eB (c.top.put d v)->c'.dH=c.dH->Goal P T R c' (a',a.2) aS0 w'->K a' w':=by
  grind [Goal,NC,Rel.top,Jm,qX.put,aZ.put,bY.trans,Sr]
 have Ps:∀{D:Env} {O:Nat->Addr},qX T D O c.top a.1 a.2->∀{d:Option Tmp} {v:SV} {x:Value},vo T c.top.f d=true->x=v.den D O->qX T D O (eB (c.top.put d v)) (a.1.put d x) a.2:=by
  intro D O hF d v x hd Y
  rw [hput]
  exact (hF.put hd Y).advance i
 unfold AX
 split
 ·trivial
 rename_i o ho
 split
 ·trivial
 rename_i z
 replace z:vo T c.top.f o.dst=true:=by simpa using z
 split
 ·trivial
 rename_i g hgc
 have hwant:=O9 n.top.fr hgc
 have hgo:∀(w':World) (K':Act->World->Prop),wpOp P (T.ops c.top.f p) Q i K' a.1 w'=if g.den ρ then o.wp P a.1 w' K' Q\/(o.asks P a.1 w'/\LetsOut Q) else K' (a.1.put o.dst undef) w':=by
  intro w' K'
  unfold wpOp
  rw [ho]
  simp only [hwant]
 have same:∀(d:Option Tmp) (v:SV) (x:Value) (w':World),vo T c.top.f d=true->x=v.den ρ ν->w'=w->Rel T B ρ ν {c with top:=eB (c.top.put d v)} (a.1.put d x,a.2) aS0 w':=by
  intro d v x w' hd Y hw
  subst hw
  exact ⟨n.nv,n.n,n.gZ,n.kn,n.gl,n.hp,n.wr,n.own,Ps n.top hd Y,n.dH,λp k sc h=>(Jo _ _ _ _ _ h).elim⟩
 have R0:=bY.refl c.nv c.hp.length ρ ν
 have L0:c.nv<=c.nv/\c.hp.length<=c.hp.length:=⟨Nat.le_refl _,Nat.le_refl _⟩
 split
 ·
  rename_i U
  have hg0:=BE.dR n.kn U
  intro _ m
  apply hG
  rw [hgo,hg0]
  simp only [Bool.false_eq_true,if_false]
  exact S {c with top:=eB (c.top.put o.dst (.iB []))} o.dst (.iB []) _ _ rfl rfl (m ρ ν (_,a.2) aS0 w R0 (λ_=>rfl) L0 (by simp) (by simp) (same o.dst (.iB []) undef w z rfl rfl))
 ·
  rename_i U
  split
  ·rename_i x os ajU
   intro r m
   apply hG
   rw [hgo]
   cases hgd:g.den ρ with
   | false =>
    grind [Bool.false_eq_true,Rel.top,qX.put,aZ.put,SV.den]
   | true =>
    simp only [if_true]
    refine .inl ?_
    have A:=xC (hT.sw c.top.f) n.gl (qL hgd n.kn) n.top.fr n.hp ajU (λb hb=>by
      have:=r (.or g.oI b) (List.mem_map.2 ⟨b,hb,rfl⟩)
      all_goals grind [BE.den,BE.jW])
    unfold Oper.wp
    rw [A]
    exact S {c with top:=eB (c.top.put o.dst (.gd g x))} o.dst (.gd g x) _ _ rfl rfl (m ρ ν (_,a.2) aS0 w R0 (λ_=>rfl) L0 r (by simp) (same o.dst (.gd g x) _ w z (by simp [SV.den,hgd]) rfl))
  ·trivial
 ·rename_i U
  have hg1:=BE.dR n.kn U
  have J:wpOp P (T.ops c.top.f p) Q i K a.1 w↔(o.wp P a.1 w K Q\/(o.asks P a.1 w/\LetsOut Q)):=by rw [hgo,hg1];simp
  have um:=Pp (P:=P) (ρ:=ρ) (ν:=ν) (w:=w) (a:=a.1) (nv:=c.nv) (o:=o) (hT.sw c.top.f) n.gl n.kn n.top.fr n.hp
  split
  ·
   rename_i v os u
   intro r m
   apply hG
   rw [J]
   refine .inl ?_
   rw [u] at um
   unfold Oper.wp
   rw [um r]
   exact S {c with top:=eB (c.top.put o.dst v)} o.dst v _ _ rfl rfl (m ρ ν (_,a.2) aS0 w R0 (λ_=>rfl) L0 r (by simp) (same o.dst v _ w z rfl rfl))
  ·
   rename_i v sb os u
   split
   ·rename_i G
    intro r m
    apply hG
    rw [J]
    refine .inl ?_
    have W:=ZJ c.nv c.hp.length ρ ν w.heap.size
    have wN:lq ν c.hp.length w.heap.size c.hp.length=⟨w.heap.size,0,none⟩:=by simp [lq]
    generalize lq ν c.hp.length w.heap.size=O at W wN
    have l:=n.ext G W
    have ab4:=Pp (P:=P) (ρ:=ρ) (ν:=O) (w:=w) (a:=a.1) (nv:=c.nv) (o:=o) (hT.sw c.top.f) l.gl l.kn l.top.fr l.hp
    rw [u] at ab4
    obtain ⟨obj,arr,Pw,hhas,hro,A⟩:=ab4 wN r
    unfold Oper.wp
    rw [A]
    have V:(w.alloc obj).heap[w.heap.size]?=some obj:=heap_alloc_new w _
    have hold:∀k,k<w.heap.size->(w.alloc obj).heap[k]?=w.heap[k]?:=λk q=>heap_alloc_old w _ q
    have L:∀(k:Nat) (s:SB),c.hp[k]?=some s->s.dead ρ=false->(O k).block<w.heap.size:=λk s q M=>l.hp.lt q M
    refine S {c with hp:=c.hp ++ [sb],top:=eB (c.top.put o.dst v)} o.dst v _ _ rfl rfl (m ρ O (_,a.2) aS0 _ W (λ_=>rfl) ⟨Nat.le_refl _,by simp⟩ r (by simp) ⟨l.nv,?_,l.gZ,l.kn,l.gl,?_,?_,?_,Ps l.top z rfl,l.dH,λp k sc h=>(Jo _ _ _ _ _ h).elim⟩)
    ·simp only [List.length_append]
     have:=l.n
     omega
    ·refine aD.push (l.hp.wM (by simp) λk s q M=>hold _ (L k s q M)) (by rw [wN]) (by rw [wN,V];exact Pw) hhas hro λk s q M=>?_
     all_goals grind
    ·exact l.wr.step rfl rfl rfl (by simp) λk q _=>hold k (Nat.lt_of_lt_of_le q l.wr.size)
    ·intro k s q hso N
     simp only at q
     rw [List.getElem?_append] at q
     split at q
     ·exact l.own k s q hso N
     ·rename_i hge
      rw [List.getElem?_singleton] at q
      split at q
      ·have:k=c.hp.length:=by omega
       subst this
       rw [wN]
       exact .inl l.wr.size
      ·cases q
   ·trivial
  ·
   rename_i b sb os u
   intro r m
   apply hG
   rw [J]
   refine .inl ?_
   rw [u] at um
   obtain ⟨r0,w',C,hr0,yF,hown,hd0,A,hO,jI⟩:=um r
   unfold Oper.wp
   rw [A]
   have hlt:b<c.hp.length:=(List.getElem?_eq_some_iff.1 yF).1
   rcases hr0 with rfl | rfl
   all_goals
    refine S {c with hp:=c.hp.set b sb,top:=eB (c.top.put o.dst (.iB []))} o.dst (.iB []) _ _ rfl rfl (m ρ ν (_,a.2) aS0 _ R0 (λ_=>rfl) ⟨Nat.le_refl _,by simp⟩ r (by simp) ⟨n.nv,?_,n.gZ,n.kn,n.gl,jI,?_,?_,Ps n.top z rfl,n.dH,λp k sc h=>(Jo _ _ _ _ _ h).elim⟩)
    ·simp only [List.length_set];exact n.n
    ·refine n.wr.step hO.os hO.tape hO.output (by rw [hO.size];exact Nat.le_refl _) λk q hn=>hO.block k λe=>?_
     rcases n.own b C yF hown hd0 with h | h
     ·omega
     ·rw [<-e] at h;exact hn h
    ·intro k s q hso N
     simp only at q
     by_cases hkb:b=k
     ·subst hkb
      exact n.own b C yF hown hd0
     ·rw [List.getElem?_set_ne hkb] at q
      exact n.own k s q hso N
  ·
   rename_i b v sb k fs os u
   split
   ·rename_i G
    simp only [Bool.and_eq_true] at G
    obtain ⟨⟨G,hbs⟩,hmap⟩:=G
    intro r m
    apply hG
    rw [J]
    refine .inl ?_
    rw [u] at um
    obtain ⟨vr,w',A,hne0,g',D,ob,W,hvr,hfs,hro,y,WG,L⟩:=um r
    have wN:lq ν c.hp.length g' c.hp.length=⟨g',0,none⟩:=by simp [lq]
    generalize lq ν c.hp.length g'=O at W wN hvr L
    have l:=n.ext G W
    have Dy:=G
    simp only [dh.sc,Bool.and_eq_true] at Dy
    have apV:=Dy.1.1.1.2
    have hlt:∀(k:Nat) (s:SB),c.hp[k]?=some s->s.dead D=false->(O k).block<w.heap.size:=λk s q M=>l.hp.lt q M
    have ZP:∀o',ob=some o'->∃j C,b=some j/\o'=(O j).block/\c.hp[j]?=some C/\C.dead D=false/\C.ro=false/\C.own=true:=by
     grind [SB.pG,jR,bY.bl]
    have ay:∀(k:Nat) (s:SB),(pJ b c.hp)[k]?=some s->s.dead D=false->c.hp[k]?=some s/\b≠some k:=by
     intro k s q M
     cases b with
     | none=>exact ⟨q,by simp⟩
     | some j =>
      grind [pJ,SB.dead]
    have hne:∀(k:Nat) (s:SB),(pJ b c.hp)[k]?=some s->s.dead D=false->ob≠some (O k).block:=by
     intro k s q M he
     obtain ⟨h1,h2⟩:=ay k s q M
     obtain ⟨j,C,e1,e2,e3,e4,e5,e6⟩:=ZP _ he
     have:=l.hp.inj j k C s e3 h1 e4 M e5 e2.symm
     subst this
     exact h2 e1
    have hlen:(pJ b c.hp).length=c.hp.length:=by cases b <;> simp [pJ]
    unfold Oper.wp
    rw [A]
    refine S {c with nv:=c.nv+k,hp:=pJ b c.hp ++ [sb],top:=eB (c.top.put o.dst v)} o.dst v _ _ rfl rfl
     (m D O (_,a.2) aS0 _ W (λh=>?_) ⟨Nat.le_add_right _ _,by simp only [List.length_append];omega⟩ (λx Y=>by rw [Oz W hbs x Y];exact r x Y) hfs ⟨Nat.le_trans l.nv (Nat.le_add_right _ _),?_,l.gZ,l.kn,l.gl,?_,?_,?_,Ps l.top z hvr,l.dH,λp k sc h=>(Jo _ _ _ _ _ h).elim⟩)
    ·exact absurd h hne0
    ·simp only [List.length_append]
     have:=l.n
     omega
    ·have hbase:aD D O (pJ b c.hp) w':=by
      have hdrop:aD D O (pJ b c.hp) w:=by
       cases b with
       | none=>exact l.hp
       | some j=>exact l.hp.drop j
      refine hdrop.wM y.size λk s q M=>?_
      exact y.block _ (hlt k s (ay k s q M).1 M) λe=>hne k s q M e.symm
     all_goals grind [aD.ajT,jl.oJ,SB.lY,Nat.ne_of_lt]
    ·refine l.wr.step y.os y.tape y.output y.size λk q hn=>y.block k (Nat.lt_of_lt_of_le q l.wr.size) λe=>?_
     obtain ⟨j,C,e1,e2,e3,e4,e5,e6⟩:=ZP k e.symm
     rcases l.own j C e3 e6 e4 with h | h
     all_goals grind
    ·intro k s q hso N
     simp only at q
     rw [List.getElem?_append,hlen] at q
     split at q
     ·obtain ⟨h1,-⟩:=ay k s q N
      exact l.own k s h1 hso N
     ·rename_i hge
      rw [List.getElem?_singleton] at q
      split at q
      ·have:k=c.hp.length:=by omega
       subst this
       simp at q
       subst q
       rw [wN]
       obtain ⟨-,h3⟩:=L N
       rcases h3 with h3 | h3
       ·obtain ⟨j,C,e1,e2,e3,e4,e5,e6⟩:=ZP _ h3
        have:=l.own j C e3 e6 e4
        rw [<-e2] at this
        exact this
       ·rw [h3];exact .inl l.wr.size
      ·cases q
   ·trivial
  ·
   rename_i f args u
   split
   ·
    rename_i g' k' hfind
    split
    ·rename_i G
     split
     ·rename_i σ os v c' I
      split
      ·rename_i hbs
       intro r kk pre post hcs hpre m
       apply hG
       rw [J]
       refine .inl ?_
       rw [u] at um
       obtain ⟨hkf,-,ZQ⟩:=Jn hfind
       rw [hE,Nat.sub_zero,List.getElem?_map,hcs] at ZQ
       simp at ZQ
       subst ZQ
       obtain ⟨hwf,hcon⟩:=hC kk pre post (List.mem_of_getElem? hcs)
       unfold Ny at I
       simp only at I
       split at I
       case isFalse=>cases I
       rename_i mK
       simp only [Bool.and_eq_true,beq_iff_eq] at mK
       obtain ⟨⟨⟨⟨k1,k2⟩,k3⟩,k4⟩,k5⟩:=mK
       split at I
       ·cases I
       rename_i os1 X
       split at I
       case h_2=>cases I
       rename_i Ph new vv hpost V hret
       simp only [Option.some.injEq,Prod.mk.injEq] at I
       obtain ⟨rfl,rfl,rfl,rfl⟩:=I
       generalize KD (uGl (Ur {lo:=0,ae:=0} kk.args args) c.gl kk.gl) c.hp kk.hp=σ at *
       have Dy:=G
       simp only [dh.sc,Bool.and_eq_true] at Dy
       obtain ⟨⟨⟨⟨s1,s2⟩,s3⟩,s4⟩,s5⟩:=Dy
       have am6:=KA (ν:=ν) X r n.hp
       obtain ⟨fn,hfn,hfb,af7⟩:∃fn,P.funcs[f]?=some fn/\fn.body.isSome=true/\(fn.name == "runtime.NumGoroutine")=false:=hkf ▸ hcon.fn
       have A:=um fn hfn hfb af7
       unfold Oper.wp
       rw [A]
       have hargs:(kk.args.map (·.den (σ.env ρ ν) (σ.eX ρ ν))).toArray=(args.map (·.den ρ ν)).toArray:=by rw [Ky k3]
       have Z:=hcon.run (σ.env ρ ν) (σ.eX ρ ν) w am6 (af6 n.gl k4) hpre
       rw [hargs,hkf] at Z
       refine Calls.mono Z λe w' he=>?_
       obtain ⟨dN,fJ,W,rfl,hP,hW,hO,hpo⟩:=he
       have H:=Pg (d:=c.nv) (n0:=c.hp.length) k1 k2 k5 W
       obtain ⟨q1,q2,q3,q4⟩:=aed hwf k1 k2 X r k5 s2 n.hp n.own n.wr.size W hP hW hO hpost V
       have hag:=GJ c.nv kk.nv c.hp.length kk.hp.length ρ dN ν fJ
       have l:=n.ext G hag
       have apW:=(GI V).1
       refine S {c with nv:=c.nv+(kk.iV-kk.nv),hp:=Ph ++ new,top:=eB (c.top.put o.dst vv)} o.dst vv _ _ rfl rfl
        (m _ _ (_,a.2) aS0 _ hag ⟨Nat.le_add_right _ _,by simp only [List.length_append];omega⟩ (λx Y=>by rw [Oz hag hbs x Y];exact r x Y) (by rw [Xh W];exact hpo)
          ⟨Nat.le_trans l.nv (Nat.le_add_right _ _),?_,l.gZ,l.kn,l.gl,q1,?_,q2,Ps l.top z (SV.dK H hret).symm,l.dH,λp k sc h=>(Jo _ _ _ _ _ h).elim⟩)
       ·simp only [List.length_append]
        have:=n.n
        omega
       ·refine n.wr.step hW.os hW.tape hW.output hW.size λk q hn=>hW.block k (Nat.lt_of_lt_of_le q n.wr.size) λhb=>?_
        all_goals grind
      ·trivial
     ·trivial
    ·trivial
   ·split
    ·rename_i fn hfn
     split
     ·rename_i hcond
      simp only [Bool.and_eq_true,Bool.not_eq_true',decide_eq_true_eq] at hcond
      obtain ⟨⟨hb,hn⟩,hlen⟩:=hcond
      intro _ m
      apply hG
      rw [J]
      refine .inl ?_
      have Mx:=hT.fns f fn (hT.Ug hfn)
      rw [u] at um
      unfold Oper.wp
      rw [um fn Mx hb hn]
      obtain ⟨body,hbody⟩:=Option.isSome_iff_exists.1 hb
      refine Reach.calls Mx hbody ?_
      have M:=m ρ ν ({tmps:=(args.map (·.den ρ ν)).toArray ++ Array.replicate (fn.ntmps-(args.map (·.den ρ ν)).toArray.size) undef,defers:=[]},λ_=>True) (a :: aS0) w R0 (λ_=>rfl) L0 (by simp) (by simp)
       ⟨n.nv,n.n,n.gZ,n.kn,n.gl,n.hp,n.wr,n.own,⟨?_,?_,rfl,λp k sc d hc=>by cases hc⟩,⟨n.top,n.dH⟩,λp k sc hc=>by cases hc⟩
      ·have hbd:T.body f=body:=by
        grind [bf.body,bf.f]
       unfold Goal dV at M
       simp only [List.map_cons,List.map_nil,SI.j6,hbd,Code.at,Option.getD_some] at M
       refine Reach.mono M λe w' he=>?_
       obtain ⟨v,rfl,KJ⟩:=he
       all_goals grind [bf.ops,Reach.ops,Rel.top,bf.f,aZ.Dj,Jm]
      ·intro t v ht
       obtain ⟨k,x,rfl,Y,rfl⟩:=Dx (ρ:=ρ) (ν:=ν) ht
       have q:k<args.length:=(List.getElem?_eq_some_iff.1 Y).1
       rw [Array.getD_eq_getD_getElem?,Array.getElem?_append]
       all_goals grind [SV.den]
      all_goals grind [bf.ntmps,bf.f]
     ·trivial
    ·trivial
  ·trivial
  ·trivial
end
theorem tu {body:Code} {p:List Nat} {d:Code} (h:Code.at body p=some d) (i:Nat):Code.at body (p ++ [i])=Code.at d [i]:=by
 rw [Code.ad7,h];rfl
section
variable {P:Program} {T:bf} {ρ:Env} {ν:Nat->Addr}
def UJ (a:Act):ResultVar->Sem Value
 | .tmp t=>pure (a.tmps.getD t undef)
 | .cell x t=>do loadVar t (<-asAddr (a.tmps.getD x undef))
theorem UK (fn:Func) (a:Act):results fn a.tmps=(do let b <-fn.results.mapM (UJ a);pure (if h:b.size=1 then b[0] else .tuple b)):=by
 unfold results
 congr 1
theorem KL (k:dI P T) {c:dh} {a:Act} {w:World} (j:Kn.ok ρ c.kn) (e:qI ρ ν c.top.fr a) (m:aD ρ ν c.hp w):∀{l:List ResultVar} {d:List SW} {os:List BE},
  Dm T c l=some (d,os)->(∀o∈os,o.den ρ=true) ->
  (l.mapM (UJ a)).run P w=.ok (d.map (·.den ρ ν)) w
 | [],d,os,h,_=>by
  simp only [Dm,Option.some.injEq,Prod.mk.injEq] at h
  obtain ⟨rfl,rfl⟩:=h
  rfl
 | .tmp t :: r,d,os,h,f=>by
  unfold Dm at h
  split at h
  ·rename_i x C g p n
   simp only [Option.some.injEq,Prod.mk.injEq] at h
   obtain ⟨rfl,rfl⟩:=h
   have z:=KL k j e m n f
   have b:a.tmps.getD t undef=x.den ρ ν:=e t _ p
   rw [List.mapM_cons]
   simp only [UJ,Sem.run_bind,Sem.run_pure,Result.andThen_ok,z,b,List.map_cons]
  ·cases h
 | .cell x t :: r,d,os,h,f=>by
  unfold Dm at h
  split at h
  ·rename_i u C g p n
   split at h
   ·rename_i y A B
    simp only [Option.some.injEq,Prod.mk.injEq] at h
    obtain ⟨rfl,rfl⟩:=h
    have z:=KL k j e m n (λo s=>f o (by simp [s]))
    have b:a.tmps.getD x undef=.pointer (some (u.den ρ ν)):=e x _ p
    have q:=LY k j m B (λo s=>f o (by simp [s]))
    rw [List.mapM_cons]
    have i:(asAddr (.pointer (some (u.den ρ ν)))).run P w=.ok (u.den ρ ν) w:=rfl
    simp only [UJ,Sem.run_bind,Sem.run_pure,Result.andThen_ok,z,b,i,q,List.map_cons,SV.den]
   ·cases h
  ·cases h
theorem Jp (i:dI P T) {c:dh} {a:Act} {w:World} (d:Kn.ok ρ c.kn) (e:qI ρ ν c.top.fr a) (g:aD ρ ν c.hp w) {fn:Func} {b:List SW} {os:List BE}
  (h:Dm T c fn.results.toList=some (b,os)) (f:∀o∈os,o.den ρ=true) :
  (results fn a.tmps).run P w=.ok (SV.den ρ ν (Dn b)) w:=by
 have:=KL i d e g h f
 rw [UK,Array.mapM_eq_mapM_toList]
 simp only [Sem.run_bind,map_eq_pure_bind]
 rw [this]
 simp only [Result.andThen_ok,Sem.run_pure]
 congr 1
 rcases b with _ | ⟨x,_ | ⟨y,r⟩⟩
 all_goals grind [Dn,SV.den]
end
section
variable {P:Program} {T:bf} {B:AY} {R:Ending->World->Prop} {E:Ex} {cs:mo} {inf:List (List OI)} {ρ:Env} {ν:Nat->Addr} {c:dh} {a:AS} {aS0:List AS} {w:World}
theorem Px (l:dI P T) (d:Rel T B ρ ν c a aS0 w)
  (y:∀fn v,P.funcs[c.top.f]?=some fn->(results fn a.1.tmps).run P w=.ok v w->RK P T R c.dH aS0 (.returned v) w->Goal P T R c a aS0 w) :
  wP P T B R cs ρ ν c a aS0 w (xI T c):=by
 unfold xI
 split
 ·trivial
 rename_i fn q
 have t:=l.fns _ fn (l.Ug q)
 split
 ·trivial
 rename_i j L g
 simp only
 cases e:c.dH with
 | nil =>
  simp only
  intro f K
  refine y fn _ t (Jp l d.kn d.top.fr d.hp g f) ?_
  rw [e]
  exact K e
 | cons x st =>
  obtain ⟨G,i⟩:=x
  simp only
  split
  ·rename_i hd
   intro f h
   refine y fn _ t (Jp l d.kn d.top.fr d.hp g f) ?_
   rw [e]
   have o:=d.dH
   rw [e] at o
   cases aS0 with
   | nil=>cases o
   | cons b z =>
    obtain ⟨m,n⟩:=o
    refine ⟨_,rfl,?_⟩
    have r:qX T ρ ν ((G.put (((T.ops G.f G.Dj)[i]?).bind (·.dst)) (Dn j)).eB i)
      (b.1.put (((T.ops G.f G.Dj)[i]?).bind (·.dst)) (SV.den ρ ν (Dn j))) b.2:=(m.put hd rfl).advance i
    have u:=h ρ ν (b.1.put (((T.ops G.f G.Dj)[i]?).bind (·.dst)) (SV.den ρ ν (Dn j)),b.2) z w (bY.refl _ _ _ _) (λ_=>rfl) ⟨Nat.le_refl _,Nat.le_refl _⟩ f (by simp)
     ⟨d.nv,d.n,d.gZ,d.kn,d.gl,d.hp,d.wr,d.own,r,n,λp k s C=>by cases (GM C).1⟩
    unfold Goal at u
    obtain ⟨I,D,J⟩:=NC G (((T.ops G.f G.Dj)[i]?).bind (·.dst)) (Dn j)
    obtain ⟨A,H,-⟩:=Jm (G.put (((T.ops G.f G.Dj)[i]?).bind (·.dst)) (Dn j)) i
    obtain ⟨F,g2,-⟩:=Jm G i
    exact Co (F.trans (A.trans I).symm) (g2.trans (H.trans D).symm) (Sr i J.symm) u
  ·trivial
theorem Xi (W:dI P T) (d:Rel T B ρ ν c a aS0 w) {p:List Nat} {i D:Nat} {k:dC} {sc:List SB} (M:c.top.cur=.dr p (.take i D k) sc false) :
  wP P T B R cs ρ ν c a aS0 w (wJ T c (T.ops c.top.f p) i D p k sc):=by
 have Y:=d.top.held p _ sc _ M
 have I:=d.held p _ sc M
 unfold wJ
 split
 ·trivial
 rename_i o X
 split
 ·trivial
 rename_i r
 replace r:vo T c.top.f o.dst=true:=by simpa using r
 split
 ·trivial
 rename_i g U
 have e:=O9 d.top.fr U
 have take:∀(t:List SB) (S1:World->Prop) (v:SV) (G:List BE),fZ sc t=true->fZ t c.hp=true->((∀w,S1 w)\/((S1=λw=>aD ρ ν t w)/\∀x,k.iA=some x->x∈bitsOf (T.ops c.top.f p).size D)) ->
   ((∀b∈G,b.den ρ=true)->YieldsIf P (T.ops c.top.f p) S1 o (v.den ρ ν) a.1) ->
   wP P T B R cs ρ ν c a aS0 w (.next G [] {c with top:={c.top.put o.dst v with cur:=.dr p k t false}}):=by
  intro t S1 v G hle O s L q C
  have K:aD ρ ν t w:=ES O d.hp
  have hf:qX T ρ ν {c.top.put o.dst v with cur:=.dr p k t false} (a.1.put o.dst (v.den ρ ν)) (λw=>aD ρ ν t w):=by
   have N:=d.top.put (v:=v) r rfl
   refine ⟨N.fr,N.tmps,N.defers,λp' k' Z d' hc=>?_⟩
   all_goals grind
  have n:=C ρ ν (_,λw=>aD ρ ν t w) aS0 w (bY.refl _ _ _ _) (λ_=>rfl) ⟨Nat.le_refl _,Nat.le_refl _⟩ q (by simp) ⟨d.nv,d.n,d.gZ,d.kn,d.gl,d.hp,d.wr,d.own,hf,d.dH,λp' k' Z hc=>by
    grind⟩
  unfold Goal dV
  rw [M]
  refine ⟨λ_=>(Y w).2 (ES I d.hp),λlisted J Q=>?_⟩
  obtain ⟨z1,z2,z3,z5,z6,z4⟩:=Q
  unfold Goal dV at n
  obtain ⟨e1,e2,e3⟩:=NC c.top o.dst v
  simp only [e1,e2] at n
  have V:=n.2 _ J z4
  rw [oM z3] at V
  rw [oM rfl]
  refine FI (S:=a.2) (S':=λw=>aD ρ ν t w) (λf h'=>(Y f).2 (ES hle h')) ?_
  refine Ov (S1:=S1) (l:=bitsOf (T.ops c.top.f p).size D) X (Region.noSelect_spec J) (λ_ _ _ h=>RB h) z6 s k.size listed a.1 w (Region.free_spec X z2) z1 (L q) ?_ (λ_=>K) z5 V
  rcases s with h | ⟨h,_⟩
  ·exact h w
  ·rw [h]
   exact K
 have h0:fZ sc sc=true:=Kr (Nat.le_refl _) λk x y hx L=>by rw [hx] at L;cases L;exact SB.qV x
 have H:∀f,aD ρ ν [] f:=λf=>⟨λi j a b hi=>(by simp at hi),λk sb h=>(by simp at h),λk sb h=>(by simp at h)⟩
 have u:∀kn,fZ sc ((l5 T c.gl kn c.top.fr c.hp sc o).getD sc)=true/\fZ ((l5 T c.gl kn c.top.fr c.hp sc o).getD sc) c.hp=true:=by
  grind [l5,Mc,Kt]
 have s:∀kn,¬((l5 T c.gl kn c.top.fr c.hp sc o).isSome && !Nz k.iA (bitsOf (T.ops c.top.f p).size D))=true ->
   (∀f,(λf=>aD ρ ν ((l5 T c.gl kn c.top.fr c.hp sc o).getD []) f) f)\/(((λf=>aD ρ ν ((l5 T c.gl kn c.top.fr c.hp sc o).getD []) f)=λf=>aD ρ ν ((l5 T c.gl kn c.top.fr c.hp sc o).getD sc) f)/\∀x,k.iA=some x->x∈bitsOf (T.ops c.top.f p).size D):=by
  intro kn hn
  cases hh:l5 T c.gl kn c.top.fr c.hp sc o with
  | none=>exact .inl H
  | some h =>
   grind [Nz]
 split
 ·rename_i m
  have n:=BE.dR d.kn m
  exact take sc (λ_=>True) (.iB []) [] h0 I (.inl λ_=>trivial) λ_=>.inr ⟨by rw [e,n],rfl⟩
 ·rename_i m
  have n:=BE.dR d.kn m
  split
  ·trivial
  rename_i F
  split
  ·rename_i v G A
   exact take _ _ v G (u _).1 (u _).2 (s _ F) λq=>.inl ⟨by rw [e,n],λf z=>xC (W.sw c.top.f) d.gl d.kn d.top.fr z A q⟩
  ·trivial
  ·trivial
 ·rename_i m
  split
  ·trivial
  rename_i F
  split
  ·rename_i x G A
   refine take _ _ (.gd g x) _ (u _).1 (u _).2 (s _ F) λq=>?_
   cases n:g.den ρ with
   | false=>exact .inr ⟨by rw [e,n],by simp [SV.den,n]⟩
   | true =>
    refine .inl ⟨by rw [e,n],λf z=>?_⟩
    rw [xC (W.sw c.top.f) d.gl (qL n d.kn) d.top.fr z A (λb hb=>by
      have:=q (.or g.oI b) (List.mem_map.2 ⟨b,hb,rfl⟩)
      all_goals grind [BE.den,BE.jW])]
    simp [SV.den,n]
  ·trivial
theorem aeh (hT:dI P T) (hE:E.cons=cs.map (·.1)) (hC:∀k pre post,(k,pre,post)∈cs->kX k=true/\aK P k pre post) (e:Rel T B ρ ν c a aS0 w) {p:List Nat} {k:dC} {sc:List SB} {d:Bool} (O:c.top.cur=.dr p k sc d) :
  wP P T B R cs ρ ν c a aS0 w (GG T E c p k sc d):=by
 have hS:=e.top.held p k sc d O
 unfold GG
 split
 ·
  rename_i hdr
  obtain ⟨g,rfl⟩:∃g,k=.drop g:=by
   cases k <;> first | exact ⟨_,rfl⟩ | (cases hdr)
  intro _ o
  have hnil:∀G,aD ρ ν [] G:=λG=>⟨λi j a b hi=>(by simp at hi),λk sb h=>(by simp at h),λk sb h=>(by simp at h)⟩
  have hf:qX T ρ ν {c.top with cur:=.dr p g [] false} a.1 (λw=>aD ρ ν [] w) :=
   ⟨e.top.fr,e.top.tmps,e.top.defers,λJ g L d' n=>by
     grind⟩
  have D:=o ρ ν (a.1,λw=>aD ρ ν [] w) aS0 w (bY.refl _ _ _ _) (λ_=>rfl) ⟨Nat.le_refl _,Nat.le_refl _⟩ (by simp) (by simp) ⟨e.nv,e.n,e.gZ,e.kn,e.gl,e.hp,e.wr,e.own,hf,e.dH,λJ g L n=>by
    simp only [lg.dr.injEq] at n
    rw [<-n.2.2.1]
    rfl⟩
  unfold Goal dV at D ⊢
  rw [O]
  refine ⟨λh=>(by cases h),λlisted m f=>?_⟩
  obtain ⟨t,A,I⟩:=f
  have z:=D.2 listed m I
  have h3:=(oM (s:=g) A).1 z
  exact FJ (S:=a.2) t h3
 rename_i U
 have U:k.De=false:=by simpa using U
 split
 ·rename_i hd
  split
  ·rename_i x
   intro _ o
   have D:=o ρ ν a aS0 w (bY.refl _ _ _ _) (λ_=>rfl) ⟨Nat.le_refl _,Nat.le_refl _⟩ (by simp) (by simp) ⟨e.nv,e.n,e.gZ,e.kn,e.gl,e.hp,e.wr,e.own,⟨e.top.fr,e.top.tmps,e.top.defers,λJ g L d' n=>by
     grind⟩,e.dH,λJ g L n=>by
     simp only [lg.dr.injEq] at n
     rw [<-n.2.2.1]
     exact x⟩
   all_goals grind [Goal,dV]
  ·trivial
 rename_i hd
 have hd':d=false:=by simpa using hd
 subst hd'
 have x:=e.held p k sc O
 have hSw:a.2 w:=(hS w).2 (ES x e.hp)
 have dY:(∀listed:Array Bool,Region.noSelect (T.ops c.top.f p)=true->ou (T.ops c.top.f p) listed k ->
     wL P (T.ops c.top.f p) (lZ P c.top.f (RK P T R c.dH aS0) (c.top.todo.map (SI.j6 (T.body c.top.f)))) a.2 k listed a.1 w)->Goal P T R c a aS0 w:=by
  intro h
  unfold Goal dV
  rw [O]
  exact ⟨λ_=>hSw,h⟩
 have single:∀(i:Nat) (g:dC),k.rest=g->(∀listed,ou (T.ops c.top.f p) listed k->g.jk=false/\ou (T.ops c.top.f p) (listed.setIfInBounds i true) g /\
       ((wpOp P (T.ops c.top.f p) (lZ P c.top.f (RK P T R c.dH aS0) (c.top.todo.map (SI.j6 (T.body c.top.f)))) i (λa' G=>(asked g.iA (listed.setIfInBounds i true)->a.2 G)/\jm P .any (T.ops c.top.f p) (lZ P c.top.f (RK P T R c.dH aS0) (c.top.todo.map (SI.j6 (T.body c.top.f)))) a.2 g.iA g.size (listed.setIfInBounds i true) a' G) a.1 w) ->
         wL P (T.ops c.top.f p) (lZ P c.top.f (RK P T R c.dH aS0) (c.top.todo.map (SI.j6 (T.body c.top.f)))) a.2 k listed a.1 w)) ->
   wP P T B R cs ρ ν c a aS0 w (AX T E c (T.ops c.top.f p) i (EZ p g sc)):=by
  intro i g hk V
  have Pq:∀F:aZ,F.cur=c.top.cur->EZ p g sc F=F.eB i:=by
   grind [aZ.eB]
  refine Su hT hE hC e (p:=p) (by unfold aZ.Dj;rw [O]) Pq (Q:=lZ P c.top.f (RK P T R c.dH aS0) (c.top.todo.map (SI.j6 (T.body c.top.f))))
   (K:=λa' G=>(g.De=false->a.2 G)/\∀listed,Region.noSelect (T.ops c.top.f p)=true->ou (T.ops c.top.f p) listed k ->
     jm P .any (T.ops c.top.f p) (lZ P c.top.f (RK P T R c.dH aS0) (c.top.todo.map (SI.j6 (T.body c.top.f)))) a.2 g.iA g.size (listed.setIfInBounds i true) a' G) ?_ ?_
  ·intro F' a' G N z h3 D
   have h3':F'.cur=.dr p g sc true:=by rw [h3];unfold aZ.eB;rw [O,<-hk];rfl
   unfold dV at D
   rw [h3',N,z] at D
   refine ⟨D.1,λlisted m f=>?_⟩
   obtain ⟨t,A,-⟩:=V listed f
   exact (oM t).1 (D.2 _ m A)
  ·intro hw
   apply dY
   intro listed m f
   refine (V listed f).2.2 (wpOp_mono (λa' G h=>⟨λha=>?_,h.2 listed m f⟩) hw)
   cases W:g.De with
   | false=>exact h.1 W
   | true =>
    have hz:=(V listed f).2.1
    obtain ⟨k2,rfl⟩:∃k2,g=.drop k2:=by
     cases g <;> first | exact ⟨_,rfl⟩ | (cases W)
    exact absurd ha hz.1
 simp only
 split
 ·intro _ o
  apply dY
  intro listed m f
  have hrd:Region.ready .any (T.ops c.top.f p) listed=[]:=List.eq_nil_iff_forall_not_mem.2 f
  refine Ry hrd ⟨rfl,?_⟩ _
  have D:=o ρ ν a aS0 w (bY.refl _ _ _ _) (λ_=>rfl) ⟨Nat.le_refl _,Nat.le_refl _⟩ (by simp) (by simp) ⟨e.nv,e.n,e.gZ,e.kn,e.gl,e.hp,e.wr,e.own,⟨e.top.fr,e.top.tmps,e.top.defers,λp k d s n=>by cases n⟩,e.dH,λp k s n=>by cases n⟩
  exact D
 ·exact Xi hT e O
 ·rename_i i g _
  refine single i g rfl λlisted f=>?_
  obtain ⟨t,A,I,H⟩:=f
  refine ⟨I,H,λhw=>?_⟩
  refine ⟨λh0=>(by rw [h0] at t;cases t),λj hj=>?_⟩
  rw [A j hj]
  exact hw
 ·rename_i i g _
  refine single i g rfl λlisted f=>?_
  obtain ⟨t,I,H⟩:=f
  exact ⟨I,H,λhw=>hw⟩
 ·rename_i i y j C _
  intro X hy
  have M:∀(i:Nat) (y:dC),Rel T B ρ ν {c with top:={c.top with cur:=.dr p (.go i y) sc false}} a aS0 w:=λi y =>
   ⟨e.nv,e.n,e.gZ,e.kn,e.gl,e.hp,e.wr,e.own,⟨e.top.fr,e.top.tmps,e.top.defers,λJ g L d' n=>by
     grind⟩,e.dH,λJ g L n=>by
     simp only [lg.dr.injEq] at n
     rw [<-n.2.2.1]
     exact x⟩
  have r:=X (M i y)
  have u:=hy (M j C)
  apply dY
  intro listed m f
  obtain ⟨t,A,I,H,Z,z6,z9,Y,z8⟩:=f
  unfold Goal dV at r u
  have N:=r.2 listed m ⟨t,H,Y⟩
  have z:=u.2 listed m ⟨A,Z,z8⟩
  simp only [wL] at N z ⊢
  refine ⟨λh0=>(by rw [h0] at t;cases t),λq hq=>?_⟩
  rcases I q hq with rfl | rfl
  ·exact N
  ·rw [show (dC.alt i y q C).iA=C.iA from z9,z6];exact z
 ·rename_i i y j C _
  intro X hy
  have M:∀(s:dC),Rel T B ρ ν {c with top:={c.top with cur:=.dr p s sc false}} a aS0 w:=λs =>
   ⟨e.nv,e.n,e.gZ,e.kn,e.gl,e.hp,e.wr,e.own,⟨e.top.fr,e.top.tmps,e.top.defers,λJ g L d' n=>by
     grind⟩,e.dH,λJ g L n=>by
     simp only [lg.dr.injEq] at n
     rw [<-n.2.2.1]
     exact x⟩
  have r:=X (M (.go i y))
  have u:=hy (M (.go j C))
  apply dY
  intro listed m f
  obtain ⟨t,A,H,Z,Y,z8⟩:=f
  unfold Goal dV at r u
  have N:=r.2 listed m ⟨t,H,Y⟩
  have z:=u.2 listed m ⟨A,Z,z8⟩
  all_goals grind [wL]
 ·rename_i i y j C l kl _
  intro X hy
  have M:∀(s:dC),Rel T B ρ ν {c with top:={c.top with cur:=.dr p s sc false}} a aS0 w:=λs =>
   ⟨e.nv,e.n,e.gZ,e.kn,e.gl,e.hp,e.wr,e.own,⟨e.top.fr,e.top.tmps,e.top.defers,λJ g L d' n=>by
     grind⟩,e.dH,λJ g L n=>by
     simp only [lg.dr.injEq] at n
     rw [<-n.2.2.1]
     exact x⟩
  have r:=X (M (.go i y))
  have u:=hy (M (.two j C l kl))
  apply dY
  intro listed m f
  obtain ⟨t,A,zl,I,⟨H,Z,z5l⟩,⟨z6,z6l⟩,⟨z9,z9l⟩,Y,z8,z8l⟩:=f
  unfold Goal dV at r u
  have N:=r.2 listed m ⟨t,H,Y⟩
  have z:=u.2 listed m ⟨A,zl,Z,z5l,z8,z8l⟩
  simp only [wL] at N z ⊢
  refine ⟨λh0=>(by rw [h0] at t;cases t),λq hq=>?_⟩
  rcases I q hq with rfl | rfl | rfl
  ·exact N
  ·rw [show (dC.sU i y q C l kl).iA=C.iA from z9,z6];exact z.1
  ·rw [show (dC.sU i y j C q kl).iA=kl.iA from z9l,z6l];exact z.2
 ·cases U
theorem FQ {f:FuncId} {p:List Nat} {s:dC}:∀{l:List ((FuncId × List Nat) × dC)},vO f p l=some s->((f,p),s)∈l
 | [],h=>by simp [vO] at h
 | x :: r,h=>by
  unfold vO at h
  split at h
  ·rename_i b
   simp only [Bool.and_eq_true,beq_iff_eq] at b
   simp at h
   subst h
   rw [<-b.1,<-b.2]
   exact List.mem_cons_self ..
  ·exact List.mem_cons_of_mem _ (FQ h)
theorem Dz {f:FuncId} {p:List Nat} {s:dC}:∀{l:List ((FuncId × List Nat) × dC)} {inf:List (List OI)},jX T l inf=true->((f,p),s)∈l ->
  ∃os,(Region.noSelect (T.ops f p) && s.size == (T.ops f p).size && !s.jk && lL (T.ops f p) (T.ops f p).size (T.ops f p).toList os && ll os (2 ^ (T.ops f p).size-1) s)=true
 | [],_,_,h=>by cases h
 | x :: r,[],h,_=>by simp [jX] at h
 | x :: r,os :: q,h,b=>by
  simp only [jX] at h
  rw [Bool.and_eq_true] at h
  rcases List.mem_cons.1 b with e | b
  ·subst e
   exact ⟨os,h.1⟩
  ·exact Dz h.2 b
theorem ZR {f:FuncId} {p:List Nat} {s:dC} (i:jX T E.sched inf=true) (h:vO f p E.sched=some s) :
  Region.noSelect (T.ops f p)=true/\s.size=(T.ops f p).size/\s.jk=false/\ou (T.ops f p) (Array.replicate (T.ops f p).size false) s:=by
 obtain ⟨n,b⟩:=Dz i (FQ h)
 simp only [Bool.and_eq_true,beq_iff_eq,Bool.not_eq_true'] at b
 obtain ⟨⟨⟨⟨k,e⟩,m⟩,g⟩,l⟩:=b
 refine ⟨k,e,m,aea g (λj=>?_) (by simp) l⟩
 rw [Nat.testBit_two_pow_sub_one,Array.getD_eq_getD_getElem?,Array.getElem?_replicate]
 split <;> rename_i d <;> simp [d]
theorem Py (U:dI P T) (hE:E.cons=cs.map (·.1)) (hC:∀k pre post,(k,pre,post)∈cs->kX k=true/\aK P k pre post) (hS:jX T E.sched inf=true) (g:Rel T B ρ ν c a aS0 w):wP P T B R cs ρ ν c a aS0 w (rO T E c):=by
 have mv:∀{G:aZ},G.f=c.top.f->G.fr=c.top.fr->G.cur=.none->Rel T B ρ ν {c with top:=G} a aS0 w:=λ{G} Y W M =>
  ⟨g.nv,g.n,g.gZ,g.kn,g.gl,g.hp,g.wr,g.own,⟨by rw [W];exact g.top.fr,by rw [Y];exact g.top.tmps,g.top.defers,λp k s d u=>(by rw [M] at u;cases u)⟩,g.dH,λp k s u=>(by rw [M] at u;cases u)⟩
 have C:∀{k:List SI},c.top.cur=.none->Goal P T R {c with top:={c.top with todo:=k}} a aS0 w->Reach P c.top.f (RK P T R c.dH aS0) a.1 (k.map (SI.j6 (T.body c.top.f))) w:=by
  grind [Goal,dV]
 have r:=bY.refl c.nv c.hp.length ρ ν
 have t:c.nv<=c.nv/\c.hp.length<=c.hp.length:=⟨Nat.le_refl _,Nat.le_refl _⟩
 unfold rO
 simp only
 split
 ·
  rename_i p i m
  have j:wpOps P (T.ops c.top.f p) (lZ P c.top.f (RK P T R c.dH aS0) (c.top.todo.map (SI.j6 (T.body c.top.f)))) (List.range' i ((T.ops c.top.f p).size-i)) a.1 w->Goal P T R c a aS0 w:=by
   grind [Goal,dV]
  split
  ·rename_i O
   simp only [decide_eq_true_eq] at O
   have Z:∀F:aZ,F.cur=c.top.cur->Dl p i F=F.eB i:=by
    grind [aZ.eB]
   refine Su U hE hC g (p:=p) (by unfold aZ.Dj;rw [m]) Z (Q:=lZ P c.top.f (RK P T R c.dH aS0) (c.top.todo.map (SI.j6 (T.body c.top.f))))
    (K:=wpOps P (T.ops c.top.f p) (lZ P c.top.f (RK P T R c.dH aS0) (c.top.todo.map (SI.j6 (T.body c.top.f)))) (List.range' (i+1) ((T.ops c.top.f p).size-(i+1)))) ?_ ?_
   ·intro G a' w' Y W M n
    have h3':G.cur=.reg p (i+1):=by rw [M];unfold aZ.eB;rw [m];rfl
    all_goals grind [dV]
   ·intro hw
    apply j
    have:(T.ops c.top.f p).size-i=((T.ops c.top.f p).size-(i+1))+1:=by omega
    rw [this,List.range'_succ,wpOps_cons]
    exact hw
  ·rename_i N
   simp only [decide_eq_true_eq] at N
   intro _ e
   apply j
   have:(T.ops c.top.f p).size-i=0:=by omega
   rw [this]
   have n:=e ρ ν a aS0 w r (λ_=>rfl) t (by simp) (by simp) (mv rfl rfl rfl)
   exact ⟨rfl,n⟩
 ·grind [aeh]
 ·rename_i m
  have j:Reach P c.top.f (RK P T R c.dH aS0) a.1 (c.top.todo.map (SI.j6 (T.body c.top.f))) w->Goal P T R c a aS0 w:=by
   grind [Goal,dV]
  split
  ·rename_i h
   rw [h] at j
   exact Px U g λfn v J A V=>j (Reach.end J g.top.defers A V)
  ·rename_i id k h
   rw [h] at j
   intro _ e
   exact j (Reach.step (λb cs=>step_inBlock) (C m (e ρ ν a aS0 w r (λ_=>rfl) t (by simp) (by simp) (mv rfl rfl m))))
  ·trivial
  ·rename_i q k h
   rw [h] at j
   intro _ e
   exact j (Reach.step (λb cs=>step_inLoop) (C m (e ρ ν a aS0 w r (λ_=>rfl) t (by simp) (by simp) (mv rfl rfl m))))
  ·rename_i p k h
   rw [h] at j
   simp only [List.map_cons,SI.j6] at j
   split
   ·rename_i f
    rw [f] at j
    intro _ e
    exact j (Reach.step (λb cs=>step_skip) (C m (e ρ ν a aS0 w r (λ_=>rfl) t (by simp) (by simp) (mv rfl rfl m))))
   ·rename_i l f
    rw [f] at j
    intro _ e
    exact j (Reach.step (λb cs=>step_label) (C m (e ρ ν a aS0 w r (λ_=>rfl) t (by simp) (by simp) (mv rfl rfl m))))
   ·rename_i x y f
    rw [f] at j
    intro _ e
    have n:=C m (e ρ ν a aS0 w r (λ_=>rfl) t (by simp) (by simp) (mv rfl rfl m))
    simp only [List.map_cons,SI.j6,tu f,Code.at,Option.getD_some] at n
    exact j (Reach.step (λb cs=>step_seq) n)
   ·rename_i o x y f
    rw [f] at j
    split
    ·trivial
    rename_i b X
    have L:a.1.eval o=.bool (b.den ρ):=by
     simp only [Option.bind_eq_some_iff] at X
     obtain ⟨v,hv,z⟩:=X
     rw [nV g.gl g.kn g.top.fr hv]
     unfold wu at z
     split at z
     ·simp at z;subst z;rfl
     ·cases z
    split
    ·rename_i hd
     have:=BE.dR g.kn hd
     intro _ e
     have n:=C m (e ρ ν a aS0 w r (λ_=>rfl) t (by simp) (by simp) (mv rfl rfl m))
     simp only [List.map_cons,SI.j6,tu f,Code.at,Option.getD_some] at n
     refine j (Reach.step (λb' cs=>step_cond L) ?_)
     simp only [this,if_true]
     exact n
    ·rename_i hd
     have:=BE.dR g.kn hd
     intro _ e
     have n:=C m (e ρ ν a aS0 w r (λ_=>rfl) t (by simp) (by simp) (mv rfl rfl m))
     simp only [List.map_cons,SI.j6,tu f,Code.at,Option.getD_some] at n
     refine j (Reach.step (λb' cs=>step_cond L) ?_)
     all_goals grind
    ·trivial
   ·rename_i I x f
    rw [f] at j
    intro _ e
    have n:=C m (e ρ ν a aS0 w r (λ_=>rfl) t (by simp) (by simp) (mv rfl rfl m))
    simp only [List.map_cons,SI.j6,tu f,Code.at,Option.getD_some] at n
    exact j (Reach.step (λb cs=>step_block) n)
   ·rename_i x f
    rw [f] at j
    intro _ e
    have n:=C m (e ρ ν a aS0 w r (λ_=>rfl) t (by simp) (by simp) (mv rfl rfl m))
    simp only [List.map_cons,SI.j6,tu f,Code.at,Option.getD_some] at n
    exact j (Reach.step (λb cs=>step_loop) n)
   ·rename_i I f
    rw [f] at j
    split
    ·rename_i k' S
     intro _ e
     exact j (Reach.step (λb cs=>step_exit (rG _ _ S)) (C m (e ρ ν a aS0 w r (λ_=>rfl) t (by simp) (by simp) (mv rfl rfl m))))
    ·trivial
   ·rename_i f
    rw [f] at j
    exact Px U g λfn v J A V=>j (Reach.ret J g.top.defers A V)
   ·rename_i I ops f
    rw [f] at j
    intro _ e
    have D:T.ops c.top.f p=ops:=by unfold bf.ops;rw [f];rfl
    have n:=e ρ ν a aS0 w r (λ_=>rfl) t (by simp) (by simp) ⟨g.nv,g.n,g.gZ,g.kn,g.gl,g.hp,g.wr,g.own,⟨g.top.fr,g.top.tmps,g.top.defers,λp k s d u=>by cases u⟩,g.dH,λp k s u=>by cases u⟩
    refine j (Reach.region ?_)
    unfold Goal dV at n
    simp only [D,Nat.sub_zero] at n
    rw [List.range_eq_range']
    exact n
   ·rename_i I ops f
    rw [f] at j
    have D:T.ops c.top.f p=ops:=by unfold bf.ops;rw [f];rfl
    split
    ·rename_i s H
     obtain ⟨z1,z2,z3,z4⟩:=ZR hS H
     intro _ e
     have n:=e ρ ν (a.1,λw=>aD ρ ν [] w) aS0 {w with drawn:=w.drawn+1} r (λ_=>rfl) t (by simp) (by simp)
      ⟨g.nv,g.n,g.gZ,g.kn,g.gl,g.hp.drew _,g.wr.step rfl rfl rfl (Nat.le_refl _) (λ_ _ _=>rfl),g.own,
        ⟨g.top.fr,g.top.tmps,g.top.defers,λp k s d u w'=>by cases u;exact Iff.rfl⟩,g.dH,λp k s u=>by cases u;simp [fZ]⟩
     all_goals grind [Reach.draw,aD,dC.iA,dI.mixed,Goal,dV,Array.replicate,oM]
    ·trivial
   ·trivial
end
theorem Xj {a b:SI} (h:O4 a b=true):a=b:=by cases a <;> cases b <;> simp_all [O4]
theorem vw:∀{a b:List SI},pK a b=true->a=b
 | [],[],_=>rfl
 | [],_ :: _,h=>by simp [pK] at h
 | _ :: _,[],h=>by simp [pK] at h
 | a :: r,b :: s,h=>by
  simp only [pK,Bool.and_eq_true] at h
  rw [Xj h.1,vw h.2]
theorem Jq:∀{a b:List SW},vN a b=true->a=b
 | [],[],_=>rfl
 | [],_ :: _,h=>by simp [vN] at h
 | _ :: _,[],h=>by simp [vN] at h
 | a :: r,b :: s,h=>by
  simp only [vN,Bool.and_eq_true] at h
  rw [SW.aA h.1,Jq h.2]
theorem SV.aA {a b:SV} (h:a.same b=true):a=b:=by
 cases a <;> cases b <;> simp only [SV.same] at h <;> try cases h
 ·rw [SW.aA h]
 ·rw [Jq h]
 ·simp only [Bool.and_eq_true] at h
  rw [BE.aA h.1,SW.aA h.2]
theorem MB:∀{a b:Fr},zu a b=true->a=b
 | [],[],_=>rfl
 | [],_ :: _,h=>by simp [zu] at h
 | _ :: _,[],h=>by simp [zu] at h
 | (t,a) :: r,(u,b) :: s,h=>by
  simp only [zu,Bool.and_eq_true,beq_iff_eq] at h
  rw [h.1.1,SV.aA h.1.2,MB h.2]
theorem dC.aA:∀{a b:dC},a.same b=true->a=b:=by
 intro a
 induction a with
 | nil c=>intro b h;cases b <;> simp [dC.same] at h;rw [ve h]
 | take i D k f=>intro b h;cases b <;> simp [dC.same] at h;rw [h.1.1,h.1.2,f h.2]
 | drop k f=>intro b h;cases b <;> simp [dC.same] at h;rw [f h]
 | solo i k f=>intro b h;cases b <;> simp [dC.same] at h;rw [h.1,f h.2]
 | go i k f=>intro b h;cases b <;> simp [dC.same] at h;rw [h.1,f h.2]
 | alt i k j l e d=>intro b h;cases b <;> simp [dC.same] at h;rw [h.1.1.1,e h.1.1.2,h.1.2,d h.2]
 | two i k j l e d=>intro b h;cases b <;> simp [dC.same] at h;rw [h.1.1.1,e h.1.1.2,h.1.2,d h.2]
 | sU i k j l m n e d g=>intro b h;cases b <;> simp [dC.same] at h;rw [h.1.1.1.1.1,e h.1.1.1.1.2,h.1.1.1.2,d h.1.1.2,h.1.2,g h.2]
theorem SB.aA {a b:SB} (h:a.same b=true):a=b:=by
 obtain ⟨_,_,_,_,_,_,_,_,_,_⟩:=a
 obtain ⟨_,_,_,_,_,_,_,_,_,_⟩:=b
 simp only [SB.same,Bool.and_eq_true,beq_iff_eq] at h
 obtain ⟨⟨⟨⟨⟨⟨⟨⟨⟨j,g⟩,m⟩,i⟩,l⟩,d⟩,k⟩,f⟩,e⟩,c⟩:=h
 simp only [SB.mk.injEq]
 all_goals grind [Ag,qf,uZ,AJ,BE.aA]
theorem DC:∀{a b:List SB},wH a b=true->a=b
 | [],[],_=>rfl
 | [],_ :: _,h=>by simp [wH] at h
 | _ :: _,[],h=>by simp [wH] at h
 | a :: r,b :: s,h=>by
  simp only [wH,Bool.and_eq_true] at h
  rw [SB.aA h.1,DC h.2]
theorem lg.aA {a b:lg} (h:a.same b=true):a=b:=by
 cases a <;> cases b <;> simp only [lg.same] at h <;> try cases h
 ·rfl
 ·grind
 ·simp only [Bool.and_eq_true,beq_iff_eq] at h
  all_goals grind [dC.aA,DC]
theorem aZ.aA {a b:aZ} (h:a.same b=true):a=b:=by
 obtain ⟨_,_,_,_⟩:=a
 obtain ⟨_,_,_,_⟩:=b
 simp only [aZ.same,Bool.and_eq_true,beq_iff_eq] at h
 all_goals grind [MB,lg.aA,vw]
theorem Bc:∀{a b:List (aZ × Nat)},tq a b=true->a=b
 | [],[],_=>rfl
 | [],_ :: _,h=>by simp [tq] at h
 | _ :: _,[],h=>by simp [tq] at h
 | (F,i) :: r,(G,j) :: s,h=>by
  simp only [tq,Bool.and_eq_true,beq_iff_eq] at h
  rw [aZ.aA h.1.1,h.1.2,Bc h.2]
theorem DD:∀{a b:List (Nat × Nat)},wI a b=true->a=b
 | [],[],_=>rfl
 | [],_ :: _,h=>by simp [wI] at h
 | _ :: _,[],h=>by simp [wI] at h
 | (x,i) :: r,(y,j) :: s,h=>by
  simp only [wI,Bool.and_eq_true,beq_iff_eq] at h
  rw [h.1.1,h.1.2,DD h.2]
theorem uy {c:lg} (h:c.isNone=true):c=.none:=by cases c <;> simp_all [lg.isNone]
theorem ZT {k:dJ} {c c':dh} {args:List SW} {σ:Sub} {os:List BE} {v:SV} (h:Ny k c args=some (σ,os,v,c')):c'.kn=c.kn:=by
 grind [Ny]
theorem vR {T:bf} {E:Ex} {c c':dh} {ops:Array Oper} {i:Nat} {eB:aZ->aZ}:(∀os fs,AX T E c ops i eB=.next os fs c'->c'.kn=c.kn)/\(∀os g σ,AX T E c ops i eB=.call os g σ c'->c'.kn=c.kn)/\∀x y,AX T E c ops i eB≠.alt x y:=by
 refine ⟨λos fs h=>?_,λos g σ h=>?_,λx y h=>?_⟩
 all_goals unfold AX at h
 all_goals repeat' split at h
 all_goals grind [ZT]
theorem DF {T:bf} {c c':dh} {ops:Array Oper} {i D:Nat} {p:List Nat} {k:dC} {sc:List SB}:(∀os fs,wJ T c ops i D p k sc=.next os fs c'->c'.kn=c.kn)/\(∀os g σ,wJ T c ops i D p k sc≠.call os g σ c')/\∀x y,wJ T c ops i D p k sc≠.alt x y:=by
 grind [wJ]
theorem GN {T:bf} {c c':dh}:(∀os fs,xI T c=.next os fs c'->c'.kn=c.kn)/\(∀os g σ,xI T c≠.call os g σ c')/\∀x y,xI T c≠.alt x y:=by
 grind [xI]
theorem KM {T:bf} {E:Ex} {c c':dh} {p:List Nat} {k:dC} {sc:List SB} {d:Bool}:(∀os fs,GG T E c p k sc d=.next os fs c'->c'.kn=c.kn)/\(∀os g σ,GG T E c p k sc d=.call os g σ c'->c'.kn=c.kn) /\
  ∀x y,GG T E c p k sc d=.alt x y->(x.nv=c.nv/\x.hp=c.hp)/\y.nv=c.nv/\y.hp=c.hp:=by
 refine ⟨λos fs h=>?_,λos g σ h=>?_,λx y h=>?_⟩
 all_goals unfold GG at h
 all_goals simp only at h
 all_goals repeat' split at h
 all_goals first | (cases h;done) | (cases h;rfl) | exact vR.1 _ _ h | exact vR.2.1 _ _ _ h | exact absurd h (vR (c':=c').2.2 _ _) | exact DF.1 _ _ h | exact absurd h (DF.2.1 _ _ _) | exact absurd h (DF (c':=c').2.2 _ _) | (cases h;exact ⟨⟨rfl,rfl⟩,rfl,rfl⟩)
theorem DI {T:bf} {E:Ex} {c c':dh}:(∀os fs,rO T E c=.next os fs c'->c'.kn=c.kn)/\(∀os g σ,rO T E c=.call os g σ c'->c'.kn=c.kn) /\
  ∀x y,rO T E c=.alt x y->(x.nv=c.nv/\x.hp=c.hp)/\y.nv=c.nv/\y.hp=c.hp:=by
 refine ⟨λos fs h=>?_,λos g σ h=>?_,λx y h=>?_⟩
 all_goals unfold rO at h
 all_goals simp only at h
 all_goals repeat' split at h
 all_goals first | (cases h;done) | (cases h;rfl) | exact vR.1 _ _ h | exact vR.2.1 _ _ _ h | exact absurd h (vR (c':=c').2.2 _ _) | exact KM.1 _ _ h | exact KM.2.1 _ _ _ h | exact KM (c':=c').2.2 _ _ h | exact GN.1 _ _ h | exact absurd h (GN.2.1 _ _ _) | exact absurd h (GN (c':=c').2.2 _ _)
theorem ZU {T:bf} {E:Ex} {c c':dh} {os:List BE} {fs:List QF} (h:rO T E c=.next os fs c'):c'.kn=c.kn:=DI.1 _ _ h
theorem Xk {T:bf} {E:Ex} {c c':dh} {os:List BE} {g:Nat} {σ:Sub} (h:rO T E c=.call os g σ c'):c'.kn=c.kn:=DI.2.1 _ _ _ h
theorem qY {T:bf} {E:Ex} {c x y:dh} (h:rO T E c=.alt x y):x.nv=c.nv/\x.hp=c.hp/\y.nv=c.nv/\y.hp=c.hp:=by
 obtain ⟨⟨a,b⟩,c,d⟩:=DI (c':=x).2.2 _ _ h
 exact ⟨a,b,c,d⟩
section
variable {P:Program} {T:bf} {B:AY} {R:Ending->World->Prop} {E:Ex} {cs:mo} {inf:List (List OI)} {post:Env->Prop}
theorem Xl {σ:Sub} {ρ:Env} {ν:Nat->Addr} {fr:Fr} {a:Act} (d:qI ρ ν fr a):∀{l:Fr},mFr σ fr l=true->qI (σ.env ρ ν) (σ.eX ρ ν) l a
 | [],_=>λt v h=>by simp [assoc] at h
 | (t,v) :: r,h=>by
  simp only [mFr,Bool.and_eq_true] at h
  intro u x b
  unfold assoc at b
  split at b
  ·rename_i e
   simp only [beq_iff_eq] at e
   subst e
   simp at b
   subst b
   obtain ⟨c,-⟩:=h
   split at c
   ·rename_i y f
    rw [WM c]
    exact d _ y f
   ·cases c
  ·exact Xl d h.2 u x b
structure af9 (P:Program) (T:bf) (B:AY) (R:Ending->World->Prop) (o:FN) (G:Env->Prop) (ρ:Env) (ν:Nat->Addr) (nv n:Nat):Prop where
 lo:B.nv<=o.lo/\o.lo<=nv/\o.lo<=o.cT.nv
 ae:B.n<=o.ae/\o.ae<=n/\o.ae<=o.cT.hp.length
 sc:Gr o.lo o.cT.kn=true/\Dg o.ae o.cT.gl=true/\xG o.lo o.ae o.cT.dH=true
 goal:∃Sw Xm,bY o.lo o.ae Sw ρ Xm ν/\Kn.ok Sw o.cT.kn/\∀ρ' aI a aS0 w,bY o.lo o.ae Sw ρ' Xm aI->Rel T B ρ' aI o.cT a aS0 w->G ρ'.num->Goal P T R o.cT a aS0 w
def ND (P:Program) (T:bf) (B:AY) (R:Ending->World->Prop) (op:List FN) (Γ:List (Env->Prop)) (ρ:Env) (ν:Nat->Addr) (nv n:Nat):Prop :=
 ∀(i:Nat) (o:FN),op[i]?=some o->∀G,Γ[i]?=some G->af9 P T B R o G ρ ν nv n
theorem ND.ext {op:List FN} {Γ:List (Env->Prop)} {ρ ρ':Env} {ν d:Nat->Addr} {nv n e c:Nat} (h:ND P T B R op Γ ρ ν nv n) (m:bY nv n ρ ρ' ν d) (k:nv<=e) (g:n<=c):ND P T B R op Γ ρ' d e c:=by
 intro i o p G q
 obtain ⟨b,a,sc,r,f,j,s,l⟩:=h i o p G q
 exact ⟨⟨b.1,Nat.le_trans b.2.1 k,b.2.2⟩,⟨a.1,Nat.le_trans a.2.1 g,a.2.2⟩,sc,r,f,j.trans m b.2.1 a.2.1,s,l⟩
theorem GQ {ρ:Env} {ν:Nat->Addr} {lo ae:Nat} {cT c:dh} {σ:Sub} {os:List BE} {a:AS} {aS0:List AS} {w:World} (h:Ja lo ae cT c=some (σ,os)) (y:∀o∈os,o.den ρ=true) (i:Rel T B ρ ν c a aS0 w)
  (s:B.nv<=lo/\lo<=cT.nv) (m:B.n<=ae/\ae<=cT.hp.length) (J:Gr lo cT.kn=true/\Dg ae cT.gl=true/\xG lo ae cT.dH=true) (F:Kn.ok ρ cT.kn) :
  Rel T B (σ.env ρ ν) (σ.eX ρ ν) cT a aS0 w/\bY lo ae ρ (σ.env ρ ν) ν (σ.eX ρ ν)/\(Goal P T R cT a aS0 w->Goal P T R c a aS0 w):=by
 unfold Ja at h
 simp only at h
 split at h
 case isFalse=>cases h
 rename_i e
 simp only [Bool.and_eq_true,beq_iff_eq] at e
 obtain ⟨⟨⟨⟨⟨⟨⟨⟨c1,c2⟩,c3⟩,c4⟩,H⟩,K⟩,G⟩,z⟩,D⟩:=e
 simp only [Option.map_eq_some_iff,Prod.mk.injEq] at h
 obtain ⟨C,b,rfl,rfl⟩:=h
 generalize KD (uFr {lo:=lo,ae:=ae} c.top.fr cT.top.fr) c.hp cT.hp=σ at *
 have t:bY lo ae ρ (σ.env ρ ν) ν (σ.eX ρ ν):=by
  grind [Sub.gZ,Rel.gZ]
 have f:=uy c4
 have l:=uy H
 have x:=Bc G
 have I:=DD z
 have g:=vw K
 refine ⟨⟨Nat.le_trans s.1 s.2,Nat.le_trans m.1 m.2,i.gZ.trans t s.1 m.1,II t J.1 F,?_,KA b y i.hp,i.wr,?_,⟨Xl i.top.fr D,by rw [c3];exact i.top.tmps,i.top.defers,λp k sc d e=>by rw [f] at e;cases e⟩,?_,λp k sc e=>by rw [f] at e;cases e⟩,t,?_⟩
 ·grind [iU.ext,Rel.gl]
 ·intro k M r q u
  obtain ⟨L,A,j⟩:=qK b y r u
  rw [j.eX,block_add]
  exact i.own _ A j.hp (j.own q) j.live
 ·grind [Dr.ext,Rel.dH]
 ·intro n
  unfold Goal at n ⊢
  rw [x] at n
  exact Co c3.symm g.symm (l.trans f.symm) n
theorem oN {Γ:List (Env->Prop)} {ρ:Env}:∀{os:List BE} {kn:Kn} {k:Kn->Out},Sat post cs Γ ρ (rP kn os k)->Kn.ok ρ kn ->
  (∀b∈os,b.den ρ=true)/\∃e,(∀ρ':Env,Kn.ok ρ' kn->(∀b∈os,b.den ρ'=true)->Kn.ok ρ' e)/\Sat post cs Γ ρ (k e)
 | [],kn,k,h,_=>⟨by simp,kn,λ_ h _=>h,h⟩
 | b :: r,kn,k,h,i=>by
  unfold rP at h
  split at h
  ·rename_i hd
   obtain ⟨j,e,f,l⟩:=oN h i
   refine ⟨λx d=>?_,e,λρ' a b=>f ρ' a (λx d=>b x (by simp [d])),l⟩
   rcases List.mem_cons.1 d with rfl | d
   ·exact BE.dR i hd
   ·exact j x d
  ·cases h
  ·obtain ⟨g,h⟩:=h
   obtain ⟨j,e,f,l⟩:=oN (h g) (qL g i)
   refine ⟨λx d=>?_,e,λρ' a c=>f ρ' (qL (c b (by simp)) a) (λx d=>c x (by simp [d])),l⟩
   rcases List.mem_cons.1 d with rfl | d
   ·exact g
   ·exact j x d
theorem KN {ρ:Env}:∀{fs:List QF} {kn:Kn},Kn.ok ρ kn->(∀f∈fs,f.den ρ)->Kn.ok ρ (O7 kn fs)
 | [],_,h,_=>h
 | .be b :: r,kn,h,a=>KN (fs:=r) (qL (a (.be b) (by simp)) h) λf c=>a f (by simp [c])
 | .cat .. :: r,kn,h,a=>KN (fs:=r) h λf c=>a f (by simp [c])
theorem Rel.Jr {ρ:Env} {ν:Nat->Addr} {c:dh} {a:AS} {aS0:List AS} {w:World} (h:Rel T B ρ ν c a aS0 w) {kn:Kn} (b:Kn.ok ρ kn):Rel T B ρ ν {c with kn:=kn} a aS0 w :=
 ⟨h.nv,h.n,h.gZ,b,h.gl,h.hp,h.wr,h.own,h.top,h.dH,h.held⟩
theorem Xn {ρ:Env} {ν:Nat->Addr} {c:dh} {a:AS} {aS0:List AS} {w:World} {L:iX} {todo:List SI} (h:O5 T E c=some (L,todo)) (e:Rel T B ρ ν c a aS0 w) :
  Rel T B ρ ν {c with top:={c.top with todo:=todo}} a aS0 w/\(Goal P T R {c with top:={c.top with todo:=todo}} a aS0 w->Goal P T R c a aS0 w):=by
 unfold O5 at h
 split at h
 case h_2=>cases h
 rename_i p k l f
 split at h
 case h_2=>cases h
 split at h
 case h_2=>cases h
 rename_i x g
 simp only [Option.some.injEq,Prod.mk.injEq] at h
 obtain ⟨-,rfl⟩:=h
 refine ⟨⟨e.nv,e.n,e.gZ,e.kn,e.gl,e.hp,e.wr,e.own,⟨e.top.fr,e.top.tmps,e.top.defers,λp k sc d i=>by rw [show c.top.cur=.none from l] at i;cases i⟩,e.dH,λp k sc i=>by rw [show c.top.cur=.none from l] at i;cases i⟩,λj=>?_⟩
 unfold Goal dV at j ⊢
 simp only [l] at j ⊢
 rw [f]
 simp only [List.map_cons,SI.j6,tu g,Code.at,Option.getD_some,g] at j ⊢
 exact Reach.step (λb cs=>step_loop) j
theorem Xo {ρ:Env} {ν:Nat->Addr} {c:dh} {a:AS} {aS0:List AS} {w:World} {todo:List SI} (h:O6 E c=some todo) (e:Rel T B ρ ν c a aS0 w) :
  Rel T B ρ ν {c with top:={c.top with todo:=todo}} a aS0 w/\(Goal P T R {c with top:={c.top with todo:=todo}} a aS0 w->Goal P T R c a aS0 w):=by
 unfold O6 at h
 split at h
 case h_2=>cases h
 rename_i p k i f
 split at h
 case h_2=>cases h
 simp only [Option.some.injEq] at h
 subst h
 refine ⟨⟨e.nv,e.n,e.gZ,e.kn,e.gl,e.hp,e.wr,e.own,⟨e.top.fr,e.top.tmps,e.top.defers,λp k sc d g=>by rw [show c.top.cur=.none from i] at g;cases g⟩,e.dH,λp k sc g=>by rw [show c.top.cur=.none from i] at g;cases g⟩,λj=>?_⟩
 unfold Goal dV at j ⊢
 simp only [i] at j ⊢
 rw [f]
 exact Reach.step (λb cs=>step_inLoop) j
theorem Js {c:dh}:∀{l:List FN} {i j:Nat} {o:FN},zx c l i=some (j,o)->i<=j/\l[j-i]?=some o
 | [],_,_,_,h=>by simp [zx] at h
 | x :: r,i,j,o,h=>by
  unfold zx at h
  split at h
  ·simp only [Option.some.injEq,Prod.mk.injEq] at h
   obtain ⟨rfl,rfl⟩:=h
   exact ⟨Nat.le_refl _,by simp⟩
  ·obtain ⟨b,a⟩:=Js h
   refine ⟨by omega,?_⟩
   rw [show j-i=(j-(i+1))+1 by omega]
   simpa using a
theorem Xp {L:iX} {c cT:dh} {todo:List SI} (h:O3 T L c todo=some cT):cT.kn=c.kn/\cT.gl=c.gl/\cT.dH=c.dH:=by
 unfold O3 at h
 all_goals grind
def wQ (F:dJ) (B:AY) (post:Env->Prop) (e:Ending) (w':World):Prop :=
 ∃a b,bY F.nv F.hp.length B.ρ a B.ν b/\e=.returned (F.ret.den a b)/\aD a b F.hp' w'/\cK B.w B.W w'/\mJ B.w.heap.size B.W a b F.hp'/\post a.num
theorem DJ:∀{a b:Kn},wK a b=true->a=b
 | [],[],_=>rfl
 | [],_ :: _,h=>by simp [wK] at h
 | _ :: _,[],h=>by simp [wK] at h
 | (x,t) :: r,(y,u) :: s,h=>by
  simp only [wK,Bool.and_eq_true,beq_iff_eq] at h
  obtain ⟨⟨d,c⟩,e⟩:=h
  rw [BE.aA d,c,DJ e]
theorem Jt {x y:Fr} {t:Nat} {v:SV} (h:assoc t (KH x y)=some v):assoc t x=some v/\assoc t y=some v:=by
 have a:=kE h
 unfold KH at a
 simp only [List.mem_filter,Bool.and_eq_true] at a
 all_goals grind [SV.aA]
theorem SE {ρ:Env} {ν:Nat->Addr} {x y:dh} {a:AS} {aS0:List AS} {w:World} (h:vP x y=true) (b:Rel T B ρ ν x a aS0 w) :
  Rel T B ρ ν (qm x y) a aS0 w/\(Goal P T R (qm x y) a aS0 w->Goal P T R x a aS0 w):=by
 simp only [vP,Bool.and_eq_true,beq_iff_eq] at h
 obtain ⟨⟨⟨⟨⟨⟨⟨⟨i,e⟩,m⟩,g⟩,k⟩,d⟩,j⟩,l⟩,o⟩:=h
 have n:=uy d
 refine ⟨⟨b.nv,b.n,b.gZ,b.kn,b.gl,b.hp,b.wr,b.own,⟨λt v c=>b.top.fr t v (Jt c).1,b.top.tmps,b.top.defers,b.top.held⟩,b.dH,b.held⟩,λf=>?_⟩
 all_goals grind [Goal,dV,qm]
theorem SF {ρ:Env} {ν:Nat->Addr} {x y:dh} {a:AS} {aS0:List AS} {w:World} (h:vP x y=true) (b:Rel T B ρ ν y a aS0 w) :
  Rel T B ρ ν (qm x y) a aS0 w/\(Goal P T R (qm x y) a aS0 w->Goal P T R y a aS0 w)/\y.nv=(qm x y).nv/\y.hp=(qm x y).hp:=by
 simp only [vP,Bool.and_eq_true,beq_iff_eq] at h
 obtain ⟨⟨⟨⟨⟨⟨⟨⟨j,f⟩,g⟩,e⟩,o⟩,r⟩,n⟩,l⟩,i⟩:=h
 have q:=uy r
 have u:=uy n
 replace f:=DJ f
 replace g:=DD g
 replace e:=DC e
 replace l:=vw l
 replace i:=Bc i
 refine ⟨⟨by show B.nv<=x.nv;rw [j];exact b.nv,by show B.n<=x.hp.length;rw [e];exact b.n,b.gZ,by show Kn.ok ρ x.kn;rw [f];exact b.kn,by show iU ν x.gl;rw [g];exact b.gl,by show aD ρ ν x.hp w;rw [e];exact b.hp,b.wr,by show mJ _ _ ρ ν x.hp;rw [e];exact b.own,⟨λt v m=>b.top.fr t v (Jt m).2,by show T.ntmps x.top.f<=_;rw [o];exact b.top.tmps,b.top.defers,λp k sc d c=>(by
     have c:x.top.cur=.dr p k sc d:=c
     all_goals grind)⟩,by show Dr T ρ ν x.dH aS0;rw [i];exact b.dH,λp k sc c=>(by
     have c:x.top.cur=.dr p k sc false:=c
     rw [q] at c;cases c)⟩,λs=>?_,j.symm,e.symm⟩
 all_goals grind [Goal,dV,qm]
theorem Pz {ρ:Env} {kn:Kn} {os:List BE} (c:Kn.ok ρ kn) (h:UA kn os=true):∀b∈os,b.den ρ=true:=by
 intro b a
 have:=List.all_eq_true.1 h b a
 all_goals grind [BE.dR]
theorem Xq {ρ:Env} {ν:Nat->Addr} {e:Nat} {x y:dh} {a:AS} {aS0:List AS} {w:World} (h:Je e x y=true) (t:B.n<=e) (f:Rel T B ρ ν y a aS0 w) :
  ∃l,bY y.nv e ρ ρ ν l/\Rel T B ρ l x a aS0 w/\(Goal P T R x a aS0 w->Goal P T R y a aS0 w)/\x.nv=y.nv/\e<=x.hp.length:=by
 unfold Je at h
 simp only [Bool.and_eq_true,beq_iff_eq,Nat.ble_eq] at h
 obtain ⟨⟨⟨⟨⟨⟨c,o⟩,m⟩,k⟩,q⟩,u⟩,j⟩:=h
 split at j
 case h_2=>cases j
 rename_i g z b
 have i:=DJ o
 have d:=m
 simp only [dh.sc,Bool.and_eq_true] at d
 obtain ⟨⟨⟨⟨s1,-⟩,-⟩,-⟩,-⟩:=d
 obtain ⟨p,n,r⟩:=GQ (P:=P) (R:=R) b (Pz f.kn j) f ⟨f.nv,by rw [c];exact Nat.le_refl _⟩ ⟨t,k⟩ ⟨by rw [<-c];exact s1,q,by rw [<-c];exact u⟩ (by rw [i];exact f.kn)
 have s:bY x.nv x.hp.length (g.env ρ ν) ρ (g.eX ρ ν) (g.eX ρ ν):=by
  have:=n.symm
  rw [<-c] at this
  exact ⟨this.iv,this.bv,this.vv,this.ic,this.bc,this.vc,λ_ _=>rfl⟩
 exact ⟨g.eX ρ ν,⟨λ_ _=>rfl,λ_ _=>rfl,λ_ _=>rfl,λ_ _=>rfl,λ_ _=>rfl,λ_ _=>rfl,n.bl⟩,p.ext m s,r,c,k⟩
theorem ZV {ρ:Env} {ν:Nat->Addr} {c:dh} {a:AS} {aS0:List AS} {w:World} {e m:Nat} (u:B.n<=e) (s:e<=c.hp.length) (d:Rel T B ρ ν c a aS0 w) :
  Rel T B ρ ν (zy e m c) a aS0 w/\(Goal P T R (zy e m c) a aS0 w->Goal P T R c a aS0 w)/\(zy e m c).nv=c.nv/\e<=(zy e m c).hp.length:=by
 unfold zy
 split
 ·rename_i g
  simp only [Bool.and_eq_true,Nat.blt_eq,Nat.ble_eq] at g
  obtain ⟨⟨⟨r,q⟩,t⟩,-⟩:=g
  have b:∀(k:Nat) (sb:SB),(c.hp.take m)[k]?=some sb->c.hp[k]?=some sb:=λk sb f=>by
   grind
  have hlen:(c.hp.take m).length=m:=by rw [List.length_take];omega
  refine ⟨⟨d.nv,by show B.n<=(c.hp.take m).length;omega,d.gZ,d.kn,d.gl,⟨λi j x y l n=>d.hp.inj i j x y (b i x l) (b j y n),λk sb f=>d.hp.ak k sb (b k sb f),λk sb f=>d.hp.rd k sb (b k sb f)⟩,d.wr,λk sb f=>d.own k sb (b k sb f),d.top,d.dH,λp k sc o=>?_⟩,λh=>h,rfl,by show e<=(c.hp.take m).length;omega⟩
  all_goals grind [Rel.top,WZ]
 all_goals grind
theorem UL {ρ:Env} {ν:Nat->Addr} {c c':dh} {a:AS} {aS0:List AS} {w:World} {b:Nat} {ls:List Nat} (f:B.n<=b) (d:b<=c'.hp.length) (e:Rel T B ρ ν c' a aS0 w) :
  Rel T B ρ ν (vQ b c ls c').1 a aS0 w/\(Goal P T R (vQ b c ls c').1 a aS0 w->Goal P T R c' a aS0 w)/\(vQ b c ls c').1.nv=c'.nv/\b<=(vQ b c ls c').1.hp.length:=by
 unfold vQ
 all_goals grind [ZV]
theorem pO (A:dI P T) (C:E.cons=cs.map (·.1)) (F:∀k pre post,(k,pre,post)∈cs->kX k=true/\aK P k pre post) (G:jX T E.sched inf=true) {R:Ending->World->Prop} {ρ:Env} {d D:Nat} (t:B.n<=D) :
  ∀(n:Nat) {ls:List Nat} {c z:dh} {ν:Nat->Addr} {a:AS} {aS0:List AS} {w:World},Dp T E d D n ls c=some z->D<=c.hp.length->Rel T B ρ ν c a aS0 w ->
   (∀K Q p w',bY c.nv D ρ ρ ν K->c.nv<=z.nv->D<=z.hp.length->Rel T B ρ K z Q p w'->Goal P T R z Q p w')->Goal P T R c a aS0 w
 | 0,_,_,_,_,_,_,_,h,_,_,_=>by simp [Dp] at h
 | n+1,ls,c,z,ν,a,aS0,w,h,m,hr,u=>by
  unfold Dp at h
  have J:=Py (P:=P) (R:=R) (E:=E) A C F G hr
  split at h
  ·rename_i os fs c' l
   rw [l] at J
   split at h
   ·rename_i U
    simp only [Bool.and_eq_true,List.isEmpty_iff] at U
    refine J (Pz hr.kn U.2) λI K Q p w' f X hle ho pX b=>?_
    obtain rfl:=X U.1
    split at h
    rename_i c2 ls2 hcl
    obtain ⟨k1,k2,k3,k4⟩:=UL (P:=P) (R:=R) (c:=c) (ls:=ls) t (Nat.le_trans m hle.2) b
    rw [hcl] at k1 k2 k3 k4
    apply k2
    have N:bY c.nv D I I ν K:=⟨λi j=>f.iv i j,λi j=>f.bv i j,λi j=>f.vv i j,λi j=>f.ic i j,λi j=>f.bc i j,λi j=>f.vc i j,λi j=>f.bl i (Nat.lt_of_lt_of_le j m)⟩
    split at h
    ·cases h
     exact u K Q p w' N (by rw [k3];exact hle.1) k4 k1
    ·refine pO A C F G t n h k4 k1 λs a2 q r H g o e=>?_
     rw [k3] at H g
     exact u s a2 q r (N.trans H hle.1 (Nat.le_refl _)) (Nat.le_trans hle.1 g) o e
   ·cases h
  ·rename_i x y l
   rw [l] at J
   obtain ⟨e1,e2,S,e4⟩:=qY l
   split at h
   ·rename_i x' y' hx hy
    split at h
    ·rename_i O
     cases h
     refine J (λb=>pO A C F G t n hx (by rw [e2];exact m) b λs a2 q r f g o e=>?_) (λb=>pO A C F G t n hy (by rw [e4];exact m) b λs a2 q r f g o e=>?_)
     ·obtain ⟨L,M⟩:=SE (P:=P) (R:=R) O e
      rw [e1] at f g
      exact M (u s a2 q r f g o L)
     ·obtain ⟨L,M,Z,V⟩:=SF (P:=P) (R:=R) O e
      rw [S] at f
      rw [S,Z] at g
      rw [V] at o
      exact M (u s a2 q r f g o L)
    ·split at h
     ·rename_i O
      cases h
      have W:B.n<=c.hp.length:=Nat.le_trans t m
      refine J (λb=>pO A C F G t n hx (by rw [e2];exact m) b λs a2 q r f g o e=>?_) (λb=>pO A C F G t n hy (by rw [e4];exact m) b λs a2 q r f g o e=>?_)
      ·rw [e1] at f g
       exact u s a2 q r f g o e
      ·obtain ⟨Y,m0,L,M,Z,V⟩:=Xq (P:=P) (R:=R) O W e
       rw [S] at f
       rw [S] at g
       exact M (u Y a2 q r (f.trans m0 g m) (by rw [Z];exact g) (Nat.le_trans m V) L)
     ·cases h
   ·cases h
  ·cases h
theorem lM (s:dI P T) (t:E.cons=cs.map (·.1)) (u:∀k pre post,(k,pre,post)∈cs->kX k=true/\aK P k pre post) (C:jX T E.sched inf=true) (J:B.nv=E.fin.nv/\B.n=E.fin.hp.length) :
  ∀(n:Nat) {op:List FN} {Γ:List (Env->Prop)} {ρ:Env} {ν:Nat->Addr} {c:dh} {a:AS} {aS0:List AS} {w:World},op.length=Γ.length->ND P T B (wQ E.fin B post) op Γ ρ ν c.nv c.hp.length->Sat post cs Γ ρ (exec T E n op c)->Rel T B ρ ν c a aS0 w ->
   Goal P T (wQ E.fin B post) c a aS0 w
 | 0,op,Γ,ρ,ν,c,a,aS0,w,_,_,h,l=>by cases h
 | n+1,op,Γ,ρ,ν,c,a,aS0,w,hlen,K,h,l=>by
  unfold exec at h
  rw [dh.norm_eq] at h
  split at h
  ·
   rename_i L todo hat
   obtain ⟨W,hgo⟩:=Xn (P:=P) (R:=wQ E.fin B post) hat l
   split at h
   ·cases h
   rename_i cT htm
   split at h
   ·cases h
   rename_i σ os j
   split at h
   case isFalse=>cases h
   rename_i hsc
   simp only [Bool.and_eq_true,Nat.ble_eq] at hsc
   obtain ⟨⟨⟨hsc1,hsc2⟩,I⟩,H⟩:=hsc
   obtain ⟨X,MC,hkn',h'⟩:=oN h l.kn
   obtain ⟨Inv,m,hI,D⟩:=h'
   obtain ⟨t1,t2,t3⟩:=Xp htm
   have Dy:=hsc1
   simp only [dh.sc,Bool.and_eq_true] at Dy
   obtain ⟨⟨⟨⟨s1,s2⟩,s3⟩,s4⟩,s5⟩:=Dy
   have agb:Gr c.nv cT.kn=true/\Dg c.hp.length cT.gl=true/\xG c.nv c.hp.length cT.dH=true:=by rw [t1,t2,t3];exact ⟨s1,s5,s4⟩
   have hkT:Kn.ok ρ cT.kn:=by rw [t1];exact l.kn
   obtain ⟨hrT,hAT,F⟩:=GQ (P:=P) (R:=wQ E.fin B post) j X W ⟨l.nv,I⟩ ⟨l.n,H⟩ agb hkT
   apply hgo
   apply F
   have main:∀(M:Nat) (e:Env) (aI:Nat->Addr) (a:AS) (aS0:List AS) (w:World),bY c.nv c.hp.length ρ e ν aI->Rel T B e aI cT a aS0 w->Inv e.num->m e.num=M->Goal P T (wQ E.fin B post) cT a aS0 w:=by
    intro M
    induction M using Nat.strongRecOn with
    | ind M ih =>
     intro e aI a aS0 w p hrel hinv V
     have hj:=p.join
     have DK:=D e (by rw [hj];exact hinv)
     rw [hj] at DK
     refine lM s t u C J n (op:=⟨c.nv,c.hp.length,cT⟩ :: op) (Γ:=(λOy=>Inv Oy/\m Oy<m e.num) :: Γ) (by simp [hlen]) ?_ DK hrel
     intro i o hi G hG
     cases i with
     | zero =>
      simp at hi hG
      subst hi hG
      refine ⟨⟨l.nv,I,I⟩,⟨l.n,H,H⟩,agb,ρ,ν,p,hkT,λρ2 wR a2 wS w2 hA2 r hG2=>?_⟩
      exact ih _ (by rw [<-V];exact hG2.2) ρ2 wR a2 wS w2 hA2 r hG2.1 rfl
     | succ i =>
      have:=(K.ext p I H) i o (by simpa using hi) G (by simpa using hG)
      exact this
   exact main _ _ _ a aS0 w hAT hrT hI rfl
  split at h
  ·
   rename_i todo hat
   obtain ⟨W,hgo⟩:=Xo (P:=P) (R:=wQ E.fin B post) hat l
   split at h
   ·cases h
   rename_i i o hfind
   split at h
   ·cases h
   rename_i σ os j
   obtain ⟨X,MC,hkn',h'⟩:=oN h l.kn
   obtain ⟨G,hG,hGn⟩:=h'
   obtain ⟨-,hio⟩:=Js hfind
   rw [Nat.sub_zero] at hio
   obtain ⟨lo,ae,sc,Sw,Xm,q1,q2,q3⟩:=K i o hio G hG
   obtain ⟨hrT,hAT,F⟩:=GQ (P:=P) (R:=wQ E.fin B post) j X W ⟨lo.1,lo.2.2⟩ ⟨ae.1,ae.2.2⟩ sc (II q1 sc.1 q2)
   apply hgo
   apply F
   exact q3 _ _ a aS0 w (q1.trans hAT (Nat.le_refl _) (Nat.le_refl _)) hrT hGn
  have Q:=Py (P:=P) (R:=wQ E.fin B post) (E:=E) s t u C l
  split at h
  ·rename_i os fs c' f
   rw [f] at Q
   obtain ⟨h1,SG,h2,U⟩:=oN h l.kn
   refine Q h1 λe aI a' as' w' p hfs hle ho hf d=>?_
   have hk1:Kn.ok e SG:=h2 e (by
     have:=d.kn
     rwa [ZU f] at this) ho
   have hk2:=KN hk1 hf
   have hO':=K.ext p hle.1 hle.2
   refine lM s t u C J n (c:={c' with kn:=O7 SG fs}) hlen hO' ?_ (d.Jr hk2)
   unfold Sd at U
   split at U
   ·rw [hfs rfl];exact U
   ·have:=U e (by rw [p.join];exact hf)
    rw [p.join] at this
    exact this
  ·rename_i x y f
   rw [f] at Q
   obtain ⟨e1,e2,e3,e4⟩:=qY f
   split at h
   ·rename_i z O
    unfold O8 at O
    split at O
    case isFalse=>cases O
    split at O
    case h_2=>cases O
    rename_i x' y' hx hy
    split at O
    case isFalse =>
     split at O
     case isFalse=>cases O
     rename_i V
     cases O
     refine Q (λd=>pO s t u C l.n n hx (by rw [e2];exact Nat.le_refl _) d λwR a2 wS w2 p N Y r=>?_) (λd=>pO s t u C l.n n hy (by rw [e4];exact Nat.le_refl _) d λwR a2 wS w2 p N Y r=>?_)
     ·rw [e1] at p N
      exact lM s t u C J n hlen (K.ext p N Y) h r
     ·obtain ⟨ν3,m0,m1,m2,m3,m4⟩:=Xq (P:=P) (R:=wQ E.fin B post) V l.n r
      rw [e3] at p
      rw [e3] at N
      exact m2 (lM s t u C J n hlen (K.ext (p.trans m0 N (Nat.le_refl _)) (by rw [m3];exact N) m4) h m1)
    rename_i V
    cases O
    refine Q (λd=>pO s t u C l.n n hx (by rw [e2];exact Nat.le_refl _) d λwR a2 wS w2 p N Y r=>?_) (λd=>pO s t u C l.n n hy (by rw [e4];exact Nat.le_refl _) d λwR a2 wS w2 p N Y r=>?_)
    ·obtain ⟨m1,m2⟩:=SE (P:=P) (R:=wQ E.fin B post) V r
     rw [e1] at p N
     exact m2 (lM s t u C J n hlen (K.ext p N Y) h m1)
    ·obtain ⟨m1,m2,m3,m4⟩:=SF (P:=P) (R:=wQ E.fin B post) V r
     rw [e3] at p
     rw [e3,m3] at N
     rw [m4] at Y
     exact m2 (lM s t u C J n hlen (K.ext p N Y) h m1)
   exact Q (λd=>lM s t u C J n hlen (K.ext (bY.refl _ _ _ _) (by rw [(qY f).1];exact Nat.le_refl _) (by rw [(qY f).2.1];exact Nat.le_refl _)) h.1 d)
    (λd=>lM s t u C J n hlen (K.ext (bY.refl _ _ _ _) (by rw [(qY f).2.2.1];exact Nat.le_refl _) (by rw [(qY f).2.2.2];exact Nat.le_refl _)) h.2 d)
  ·rename_i os g σ c' f
   rw [f] at Q
   obtain ⟨h1,SG,h2,U⟩:=oN h l.kn
   obtain ⟨k,pre,Z,hcs,hpre,D⟩:=U
   refine Q h1 k pre Z hcs hpre λe aI a' as' w' p hle ho hpo d=>?_
   have hk1:Kn.ok e SG:=h2 e (by
     have:=d.kn
     rwa [Xk f] at this) ho
   have DK:=D e (by rw [p.join];exact hpo)
   rw [p.join] at DK
   exact lM s t u C J n (c:={c' with kn:=SG}) hlen (K.ext p hle.1 hle.2) DK (d.Jr hk1)
  ·rename_i b f
   obtain ⟨ht,hf⟩:=h
   cases hb:b.den ρ with
   | true=>exact lM s t u C J n (c:={c with kn:=jS b true c.kn}) hlen K (ht hb) (l.Jr (qL hb l.kn))
   | false=>exact lM s t u C J n (c:={c with kn:=jS b false c.kn}) hlen K (hf hb) (l.Jr (qL hb l.kn))
  ·rename_i os v f
   rw [f] at Q
   split at h
   ·rename_i σ os' q
    obtain ⟨h1,SG,h2,U⟩:=oN h l.kn
    refine Q (λb hb=>h1 b (List.mem_append_left _ hb)) λ_=>?_
    unfold WY at q
    simp only at q
    split at q
    case isFalse=>cases q
    rename_i hc
    simp only [Bool.and_eq_true,beq_iff_eq] at hc
    obtain ⟨⟨c1,c2⟩,c3⟩:=hc
    simp only [Option.map_eq_some_iff,Prod.mk.injEq] at q
    obtain ⟨os2,j,rfl,rfl⟩:=q
    generalize KD (uSV {lo:=E.fin.nv,ae:=E.fin.hp.length} E.fin.ret v) c.hp E.fin.hp'=σ at *
    have ho2:∀o∈os2,o.den ρ=true:=λo V=>h1 o (List.mem_append_right _ V)
    have p:=σ.gZ ρ ν
    rw [c1,c2] at p
    refine ⟨σ.env ρ ν,σ.eX ρ ν,?_,by rw [WM c3],KA j ho2 l.hp,l.wr,?_,U⟩
    ·have h5:=l.gZ
     rw [J.1,J.2] at h5
     exact h5.trans p (Nat.le_refl _) (Nat.le_refl _)
    ·intro k T' hk' hto htd
     obtain ⟨a',A,S⟩:=qK j ho2 hk' htd
     rw [S.eX,block_add]
     exact l.own _ A S.hp (S.own hto) S.live
   ·cases h
  ·cases h
  ·cases h
end
theorem IE.KO (ρ:Env):∀e:IE,e.den ρ.num=e.den ρ:=by
 intro e
 induction e <;> simp_all [IE.den,Env.num]
theorem BE.KO (ρ:Env):∀e:BE,e.den ρ.num=e.den ρ:=by
 intro e
 induction e <;> simp_all [BE.den,IE.KO]
 ·rfl
 ·rfl
theorem Kn.age {ρ:Env} {kn:Kn} (h:Kn.ok ρ.num kn):Kn.ok ρ kn:=λp a=>by rw [<-BE.KO];exact h p a
section
variable {post:Env->Prop} {cs:mo} {Γ:List (Env->Prop)} {ρ:Env}
theorem Sat.fin {σ:Sub} (h:post (σ.bT ρ)):Sat post cs Γ ρ (.fin σ):=h
theorem Sat.br {c:BE} {t e:Out} (b:c.den ρ=true->Sat post cs Γ ρ t) (a:c.den ρ=false->Sat post cs Γ ρ e):Sat post cs Γ ρ (.br c t e):=⟨b,a⟩
theorem Sat.ob {b:BE} {k:Out} (a:b.den ρ=true) (c:Sat post cs Γ ρ k):Sat post cs Γ ρ (.ob b k):=⟨a,λ_=>c⟩
theorem Sat.alt {a b:Out} (c:Sat post cs Γ ρ a) (d:Sat post cs Γ ρ b):Sat post cs Γ ρ (.alt a b):=⟨c,d⟩
theorem Sat.new {nv:Nat} {fs:List QF} {k:Out} (h:∀e:Env,(∀f∈fs,f.den (ρ.join nv e))->Sat post cs Γ (ρ.join nv e) k):Sat post cs Γ ρ (.new nv fs k):=h
theorem Sat.loop {nv:Nat} {σ:Sub} {k:Out} (Inv:Env->Prop) (m:Env->Nat) (a:Inv (σ.bT ρ)) (h:∀e:Env,Inv (ρ.join nv e).num->Sat post cs ((λρ'=>Inv ρ'/\m ρ'<m (ρ.join nv e).num) :: Γ) (ρ.join nv e) k):Sat post cs Γ ρ (.loop nv σ k):=⟨Inv,m,a,h⟩
theorem Sat.back {i:Nat} {σ:Sub} {G:Env->Prop} (a:Γ[i]?=some G) (h:G (σ.bT ρ)):Sat post cs Γ ρ (.back i σ):=⟨G,a,h⟩
theorem Sat.call {g:Nat} {σ:Sub} {nv:Nat} {k:Out} {c:dJ} {pre a:Env->Prop} (f:cs[g]?=some (c,pre,a)) (d:pre (σ.bT ρ)) (b:∀e:Env,a (aV σ c.nv nv ρ (ρ.join nv e))->Sat post cs Γ (ρ.join nv e) k):Sat post cs Γ ρ (.call g σ nv k):=⟨c,pre,a,f,d,b⟩
end
theorem bq {P:Program} {T:bf} (q:dI P T) {E:Ex} {cs:mo} {inf:List (List OI)} (L:E.cons=cs.map (·.1)) (D:∀k pre post,(k,pre,post)∈cs->kX k=true/\aK P k pre post) (Q:jX T E.sched inf=true)
  {n:Nat} {kn:Kn} {F:dJ} {out:Out} (K:E.fin=F) (hex:exec T E n [] (bZ F.f F.nv kn F.gl F.hp F.args)=out) (j:(match T.f F.f with | some fn=>fn.body.isSome && !(fn.name == "runtime.NumGoroutine") && decide (F.args.length<=fn.ntmps) | none=>false)=true)
  {pre post:Env->Prop} (C:∀ρ:Env,pre ρ.num->Kn.ok ρ.num kn) (N:∀ρ:Env,pre ρ.num->Sat post cs [] ρ out):aK P F pre post:=by
 subst K
 split at j
 case h_2=>cases j
 rename_i fn g
 simp only [Bool.and_eq_true,Bool.not_eq_true',decide_eq_true_eq] at j
 obtain ⟨⟨z,f⟩,R⟩:=j
 have y:=q.fns _ fn (q.Ug g)
 refine ⟨⟨fn,y,z,f⟩,λρ ν w J s e=>?_⟩
 obtain ⟨body,b⟩:=Option.isSome_iff_exists.1 z
 have m:T.ntmps E.fin.f=fn.ntmps:=by unfold bf.ntmps;rw [g];rfl
 have u:T.body E.fin.f=body:=by unfold bf.body;rw [g];simp [b]
 refine Reach.calls y b ?_
 have A:=N ρ e
 rw [<-hex] at A
 have l:=lM (P:=P) (B:=⟨w,jB ρ ν E.fin.hp,ρ,ν,E.fin.nv,E.fin.hp.length⟩) q L D Q ⟨rfl,rfl⟩ n (op:=[]) (Γ:=[]) (ρ:=ρ) (ν:=ν) (c:=bZ E.fin.f E.fin.nv kn E.fin.gl E.fin.hp E.fin.args)
  (a:=({tmps:=(E.fin.args.map (·.den ρ ν)).toArray ++ Array.replicate (fn.ntmps-(E.fin.args.map (·.den ρ ν)).toArray.size) undef,defers:=[]},λ_=>True)) (aS0:=[]) (w:=w) rfl (λi o h=>by simp at h) A
  ⟨Nat.le_refl _,Nat.le_refl _,bY.refl _ _ _ _,Kn.age (C ρ e),s,J,cK.refl _ _,λk sb I G M=>.inr ⟨k,sb,I,G,M,rfl⟩,⟨?_,?_,rfl,λp k sc d r=>by cases r⟩,trivial,λp k sc r=>by cases r⟩
 ·unfold Goal dV bZ at l
  simp only [List.map_cons,List.map_nil,SI.j6,u,Code.at,Option.getD_some] at l
  exact l
 ·intro t v H
  obtain ⟨k,x,rfl,O,rfl⟩:=Dx (ρ:=ρ) (ν:=ν) H
  have C:k<E.fin.args.length:=(List.getElem?_eq_some_iff.1 O).1
  rw [Array.getD_eq_getD_getElem?,Array.getElem?_append]
  all_goals grind [SV.den]
 ·rw [show T.ntmps (bZ E.fin.f E.fin.nv kn E.fin.gl E.fin.hp E.fin.args).top.f=fn.ntmps from m]
  simp
  omega
end Go.Rex
