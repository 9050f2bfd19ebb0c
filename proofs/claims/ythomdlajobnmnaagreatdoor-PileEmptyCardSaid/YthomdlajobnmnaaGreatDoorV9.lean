/- part 9 of the proof -/
import Derived.Test.YthomdlajobnmnaaGreatDoorV8
set_option linter.unusedSimpArgs false
set_option linter.unusedVariables false
namespace Go.Rex
theorem Ph {a b:SI} (h:IG a b=true):a=b:=by cases a <;> cases b <;> simp_all [IG]
theorem qC:∀{a b:List SI},l5 a b=true→a=b
 | [],[],_=>rfl
 | [],_ :: _,h=>by simp [l5] at h
 | _ :: _,[],h=>by simp [l5] at h
 | a :: r,b :: s,h=>by
  simp only [l5,Bool.and_eq_true] at h
  rw [Ph h.1,qC h.2]
theorem Dt:∀{a b:List SW},qP a b=true→a=b
 | [],[],_=>rfl
 | [],_ :: _,h=>by simp [qP] at h
 | _ :: _,[],h=>by simp [qP] at h
 | a :: r,b :: s,h=>by
  simp only [qP,Bool.and_eq_true] at h
  rw [SW.aC h.1,Dt h.2]
theorem SV.aC {a b:SV} (h:a.same b=true):a=b:=by
 cases a <;> cases b <;> simp only [SV.same] at h <;> try cases h
 ·rw [SW.aC h]
 ·rw [Dt h]
 ·simp only [Bool.and_eq_true] at h
  rw [BE.aC h.1,SW.aC h.2]
theorem F7:∀{a b:Fr},uI a b=true→a=b
 | [],[],_=>rfl
 | [],_ :: _,h=>by simp [uI] at h
 | _ :: _,[],h=>by simp [uI] at h
 | (t,a) :: r,(u,b) :: s,h=>by
  simp only [uI,Bool.and_eq_true,beq_iff_eq] at h
  rw [h.1.1,SV.aC h.1.2,F7 h.2]
theorem ek.aC:∀{a b:ek},a.same b=true→a=b:=by
 intro a
 induction a with
 | nil c=>intro b h;cases b <;> simp [ek.same] at h;rw [CX h]
 | take i D k ih=>intro b h;cases b <;> simp [ek.same] at h;rw [h.1.1,h.1.2,ih h.2]
 | drop k ih=>intro b h;cases b <;> simp [ek.same] at h;rw [ih h]
 | solo i k ih=>intro b h;cases b <;> simp [ek.same] at h;rw [h.1,ih h.2]
 | go i k ih=>intro b h;cases b <;> simp [ek.same] at h;rw [h.1,ih h.2]
 | alt i k j l ihk ihl=>intro b h;cases b <;> simp [ek.same] at h;rw [h.1.1.1,ihk h.1.1.2,h.1.2,ihl h.2]
theorem SB.aC {a b:SB} (h:a.same b=true):a=b:=by
 obtain ⟨_,_,_,_,_,_,_,_,_,_⟩:=a
 obtain ⟨_,_,_,_,_,_,_,_,_,_⟩:=b
 simp only [SB.same,Bool.and_eq_true,beq_iff_eq] at h
 obtain ⟨⟨⟨⟨⟨⟨⟨⟨⟨h1,h2⟩,h3⟩,h4⟩,h5⟩,h6⟩,h7⟩,h8⟩,h9⟩,h10⟩:=h
 simp only [SB.mk.injEq]
 exact ⟨h7,vB h4,kH h5,qz h6,h1,h3,vR h9,h8,h2,BE.aC h10⟩
theorem yO:∀{a b:List SB},rE a b=true→a=b
 | [],[],_=>rfl
 | [],_ :: _,h=>by simp [rE] at h
 | _ :: _,[],h=>by simp [rE] at h
 | a :: r,b :: s,h=>by
  simp only [rE,Bool.and_eq_true] at h
  rw [SB.aC h.1,yO h.2]
theorem nG.aC {a b:nG} (h:a.same b=true):a=b:=by
 cases a <;> cases b <;> simp only [nG.same] at h <;> try cases h
 ·rfl
 ·simp only [Bool.and_eq_true,beq_iff_eq] at h
  rw [h.1,h.2]
 ·simp only [Bool.and_eq_true,beq_iff_eq] at h
  rw [h.1.1.1,ek.aC h.1.1.2,yO h.1.2,h.2]
theorem aZ.aC {a b:aZ} (h:a.same b=true):a=b:=by
 obtain ⟨_,_,_,_⟩:=a
 obtain ⟨_,_,_,_⟩:=b
 simp only [aZ.same,Bool.and_eq_true,beq_iff_eq] at h
 obtain ⟨⟨⟨h1,h2⟩,h3⟩,h4⟩:=h
 rw [h1,F7 h2,nG.aC h3,qC h4]
theorem wo:∀{a b:List (aZ × Nat)},oQ a b=true→a=b
 | [],[],_=>rfl
 | [],_ :: _,h=>by simp [oQ] at h
 | _ :: _,[],h=>by simp [oQ] at h
 | (F,i) :: r,(G,j) :: s,h=>by
  simp only [oQ,Bool.and_eq_true,beq_iff_eq] at h
  rw [aZ.aC h.1.1,h.1.2,wo h.2]
theorem yP:∀{a b:List (Nat × Nat)},rF a b=true→a=b
 | [],[],_=>rfl
 | [],_ :: _,h=>by simp [rF] at h
 | _ :: _,[],h=>by simp [rF] at h
 | (x,i) :: r,(y,j) :: s,h=>by
  simp only [rF,Bool.and_eq_true,beq_iff_eq] at h
  rw [h.1.1,h.1.2,yP h.2]
theorem pO {c:nG} (h:c.isNone=true):c=.none:=by cases c <;> simp_all [nG.isNone]
theorem RI {k:dJ} {c c':bZ} {args:List SW} {σ:Sub} {os:List BE} {v:SV} (h:GX k c args=some (σ,os,v,c')):c'.kn=c.kn:=by
 unfold GX at h
 simp only at h
 split at h
 ·split at h
  ·cases h
  ·split at h
   ·cases h;rfl
   ·cases h
 ·cases h
theorem qV {T:aX} {E:Ex} {c c':bZ} {ops:Array Oper} {i:Nat} {eu:aZ→aZ}:(∀os fs,vY T E c ops i eu=.next os fs c'→c'.kn=c.kn)∧(∀os g σ,vY T E c ops i eu=.call os g σ c'→c'.kn=c.kn)∧∀x y,vY T E c ops i eu≠.alt x y:=by
 refine ⟨fun os fs h=>?_,fun os g σ h=>?_,fun x y h=>?_⟩
 all_goals unfold vY at h
 all_goals repeat' split at h
 all_goals first | (cases h;done) | (cases h;rfl) | skip
 rename_i hby _
 cases h
 have:=RI hby
 exact this
theorem yQ {T:aX} {c c':bZ} {ops:Array Oper} {i D:Nat} {p:List Nat} {k:ek} {sc:List SB}:(∀os fs,rG T c ops i D p k sc=.next os fs c'→c'.kn=c.kn)∧(∀os g σ,rG T c ops i D p k sc≠.call os g σ c')∧∀x y,rG T c ops i D p k sc≠.alt x y:=by
 refine ⟨fun os fs h=>?_,fun os g σ h=>?_,fun x y h=>?_⟩
 all_goals unfold rG at h
 all_goals repeat' split at h
 all_goals first | (cases h;done) | (cases h;rfl)
theorem Bu {T:aX} {c c':bZ}:(∀os fs,sP T c=.next os fs c'→c'.kn=c.kn)∧(∀os g σ,sP T c≠.call os g σ c')∧∀x y,sP T c≠.alt x y:=by
 refine ⟨fun os fs h=>?_,fun os g σ h=>?_,fun x y h=>?_⟩
 all_goals unfold sP at h
 all_goals repeat' split at h
 all_goals try simp only at h
 all_goals repeat' split at h
 all_goals first | (cases h;done) | (cases h;rfl)
theorem EG {T:aX} {E:Ex} {c c':bZ} {p:List Nat} {k:ek} {sc:List SB} {d:Bool}:(∀os fs,Bl T E c p k sc d=.next os fs c'→c'.kn=c.kn)∧(∀os g σ,Bl T E c p k sc d=.call os g σ c'→c'.kn=c.kn) ∧
  ∀x y,Bl T E c p k sc d=.alt x y→(x.nv=c.nv∧x.hp=c.hp)∧y.nv=c.nv∧y.hp=c.hp:=by
 refine ⟨fun os fs h=>?_,fun os g σ h=>?_,fun x y h=>?_⟩
 all_goals unfold Bl at h
 all_goals simp only at h
 all_goals repeat' split at h
 all_goals first | (cases h;done) | (cases h;rfl) | exact qV.1 _ _ h | exact qV.2.1 _ _ _ h | exact absurd h (qV (c':=c').2.2 _ _) | exact yQ.1 _ _ h | exact absurd h (yQ.2.1 _ _ _) | exact absurd h (yQ (c':=c').2.2 _ _) | (cases h;exact ⟨⟨rfl,rfl⟩,rfl,rfl⟩)
theorem yR {T:aX} {E:Ex} {c c':bZ}:(∀os fs,nV T E c=.next os fs c'→c'.kn=c.kn)∧(∀os g σ,nV T E c=.call os g σ c'→c'.kn=c.kn) ∧
  ∀x y,nV T E c=.alt x y→(x.nv=c.nv∧x.hp=c.hp)∧y.nv=c.nv∧y.hp=c.hp:=by
 refine ⟨fun os fs h=>?_,fun os g σ h=>?_,fun x y h=>?_⟩
 all_goals unfold nV at h
 all_goals simp only at h
 all_goals repeat' split at h
 all_goals first | (cases h;done) | (cases h;rfl) | exact qV.1 _ _ h | exact qV.2.1 _ _ _ h | exact absurd h (qV (c':=c').2.2 _ _) | exact EG.1 _ _ h | exact EG.2.1 _ _ _ h | exact EG (c':=c').2.2 _ _ h | exact Bu.1 _ _ h | exact absurd h (Bu.2.1 _ _ _) | exact absurd h (Bu (c':=c').2.2 _ _)
theorem RJ {T:aX} {E:Ex} {c c':bZ} {os:List BE} {fs:List QF} (h:nV T E c=.next os fs c'):c'.kn=c.kn:=yR.1 _ _ h
theorem Pj {T:aX} {E:Ex} {c c':bZ} {os:List BE} {g:Nat} {σ:Sub} (h:nV T E c=.call os g σ c'):c'.kn=c.kn:=yR.2.1 _ _ _ h
theorem nH {T:aX} {E:Ex} {c x y:bZ} (h:nV T E c=.alt x y):x.nv=c.nv∧x.hp=c.hp∧y.nv=c.nv∧y.hp=c.hp:=by
 obtain ⟨⟨a,b⟩,c,d⟩:=yR (c':=x).2.2 _ _ h
 exact ⟨a,b,c,d⟩
section
variable {P:Program} {T:aX} {B:vZ} {R:Ending→World→Prop} {E:Ex} {cs:mf} {inf:List (List OI)} {post:Env→Prop}
theorem Pk {σ:Sub} {ρ:Env} {ν:Nat→Addr} {fr:Fr} {a:Act} (hf:mX ρ ν fr a):∀{l:Fr},TW σ fr l=true→mX (σ.env ρ ν) (σ.eY ρ ν) l a
 | [],_=>fun t v h=>by simp [assoc] at h
 | (t,v) :: r,h=>by
  simp only [TW,Bool.and_eq_true] at h
  intro u x hx
  unfold assoc at hx
  split at hx
  ·rename_i he
   simp only [beq_iff_eq] at he
   subst he
   simp at hx
   subst hx
   obtain ⟨h1,-⟩:=h
   split at h1
   ·rename_i y hy
    rw [OT h1]
    exact hf _ y hy
   ·cases h1
  ·exact Pk hf h.2 u x hx
structure Xj (P:Program) (T:aX) (B:vZ) (R:Ending→World→Prop) (o:Ap) (G:Env→Prop) (ρ:Env) (ν:Nat→Addr) (nv n:Nat):Prop where
 lo:B.nv≤o.lo∧o.lo≤nv∧o.lo≤o.cT.nv
 az:B.n≤o.az∧o.az≤n∧o.az≤o.cT.hp.length
 sc:AY o.lo o.cT.kn=true∧Bh o.az o.cT.gl=true∧vW o.lo o.az o.cT.dw=true
 goal:∃Le Pm,dn o.lo o.az Le ρ Pm ν∧Kn.ok Le o.cT.kn∧∀ρ' aK a aS0 w,dn o.lo o.az Le ρ' Pm aK→Rel T B ρ' aK o.cT a aS0 w→G ρ'.num→Goal P T R o.cT a aS0 w
def G5 (P:Program) (T:aX) (B:vZ) (R:Ending→World→Prop) (op:List Ap) (Γ:List (Env→Prop)) (ρ:Env) (ν:Nat→Addr) (nv n:Nat):Prop :=
 ∀(i:Nat) (o:Ap),op[i]?=some o→∀G,Γ[i]?=some G→Xj P T B R o G ρ ν nv n
theorem G5.ext {op:List Ap} {Γ:List (Env→Prop)} {ρ ρ':Env} {ν aK:Nat→Addr} {nv n iD n':Nat} (h:G5 P T B R op Γ ρ ν nv n) (hA:dn nv n ρ ρ' ν aK) (h1:nv≤iD) (h2:n≤n'):G5 P T B R op Γ ρ' aK iD n':=by
 intro i o hi G hG
 obtain ⟨lo,az,sc,Le,Pm,q1,q2,q3⟩:=h i o hi G hG
 exact ⟨⟨lo.1,Nat.le_trans lo.2.1 h1,lo.2.2⟩,⟨az.1,Nat.le_trans az.2.1 h2,az.2.2⟩,sc,Le,Pm,q1.trans hA lo.2.1 az.2.1,q2,q3⟩
theorem Jg {ρ:Env} {ν:Nat→Addr} {lo az:Nat} {cT c:bZ} {σ:Sub} {os:List BE} {a:AS} {aS0:List AS} {w:World} (h:GV lo az cT c=some (σ,os)) (ho:∀o∈os,o.den ρ=true) (hr:Rel T B ρ ν c a aS0 w)
  (h1:B.nv≤lo∧lo≤cT.nv) (h2:B.n≤az∧az≤cT.hp.length) (hs:AY lo cT.kn=true∧Bh az cT.gl=true∧vW lo az cT.dw=true) (hk:Kn.ok ρ cT.kn) :
  Rel T B (σ.env ρ ν) (σ.eY ρ ν) cT a aS0 w∧dn lo az ρ (σ.env ρ ν) ν (σ.eY ρ ν)∧(Goal P T R cT a aS0 w→Goal P T R c a aS0 w):=by
 unfold GV at h
 simp only at h
 split at h
 case isFalse=>cases h
 rename_i hc
 simp only [Bool.and_eq_true,beq_iff_eq] at hc
 obtain ⟨⟨⟨⟨⟨⟨⟨⟨c1,c2⟩,c3⟩,c4⟩,c5⟩,c6⟩,c7⟩,c8⟩,c9⟩:=hc
 simp only [Option.map_eq_some_iff,Prod.mk.injEq] at h
 obtain ⟨os',hinst,rfl,rfl⟩:=h
 generalize Ez (WS {lo:=lo,az:=az} c.top.fr cT.top.fr) c.hp cT.hp=σ at *
 have hA:dn lo az ρ (σ.env ρ ν) ν (σ.eY ρ ν):=by
  have:=σ.gJ ρ ν
  rw [c1,c2] at this
  exact this
 have Pn:=pO c4
 have Xk:=pO c5
 have Xl:=wo c7
 have hgl:=yP c8
 have htodo:=qC c6
 refine ⟨⟨Nat.le_trans h1.1 h1.2,Nat.le_trans h2.1 h2.2,hr.gJ.trans hA h1.1 h2.1,CB hA hs.1 hk,?_,Ey hinst ho hr.hp,hr.wr,?_,⟨Pk hr.top.fr c9,by rw [c3];exact hr.top.tmps,hr.top.defers,fun p k sc d hc=>by rw [Pn] at hc;cases hc⟩,?_,fun p k sc hc=>by rw [Pn] at hc;cases hc⟩,hA,?_⟩
 ·refine iB.ext hA hs.2.1 ?_
  rw [hgl];exact hr.gl
 ·intro k T' hk' hto htd
  obtain ⟨a',A,hB⟩:=mZ hinst ho hk' htd
  rw [hB.eY,block_add]
  exact hr.own _ A hB.hp (hB.own hto) hB.live
 ·refine yD.ext hA hs.2.2 ?_
  rw [Xl];exact hr.dw
 ·intro hg
  unfold Goal at hg ⊢
  rw [Xl] at hg
  exact xB c3.symm htodo.symm (Xk.trans Pn.symm) hg
theorem lG {Γ:List (Env→Prop)} {ρ:Env}:∀{os:List BE} {kn:Kn} {k:Kn→Out},Sat post cs Γ ρ (nX kn os k)→Kn.ok ρ kn →
  (∀b∈os,b.den ρ=true)∧∃F8,(∀ρ':Env,Kn.ok ρ' kn→(∀b∈os,b.den ρ'=true)→Kn.ok ρ' F8)∧Sat post cs Γ ρ (k F8)
 | [],kn,k,h,_=>⟨by simp,kn,fun _ h _=>h,h⟩
 | b :: r,kn,k,h,hk=>by
  unfold nX at h
  split at h
  ·rename_i hd
   obtain ⟨h1,F8,h2,h3⟩:=lG h hk
   refine ⟨fun x hx=>?_,F8,fun ρ' a b=>h2 ρ' a (fun x hx=>b x (by simp [hx])),h3⟩
   rcases List.mem_cons.1 hx with rfl | hx
   ·exact BE.df hk hd
   ·exact h1 x hx
  ·cases h
  ·obtain ⟨h0,h⟩:=h
   obtain ⟨h1,F8,h2,h3⟩:=lG (h h0) (ng h0 hk)
   refine ⟨fun x hx=>?_,F8,fun ρ' a c=>h2 ρ' (ng (c b (by simp)) a) (fun x hx=>c x (by simp [hx])),h3⟩
   rcases List.mem_cons.1 hx with rfl | hx
   ·exact h0
   ·exact h1 x hx
theorem EH {ρ:Env}:∀{fs:List QF} {kn:Kn},Kn.ok ρ kn→(∀f∈fs,f.den ρ)→Kn.ok ρ (IK kn fs)
 | [],_,h,_=>h
 | .be b :: r,kn,h,hf=>EH (fs:=r) (ng (hf (.be b) (by simp)) h) fun f hm=>hf f (by simp [hm])
 | .cat .. :: r,kn,h,hf=>EH (fs:=r) h fun f hm=>hf f (by simp [hm])
theorem Rel.Du {ρ:Env} {ν:Nat→Addr} {c:bZ} {a:AS} {aS0:List AS} {w:World} (h:Rel T B ρ ν c a aS0 w) {kn:Kn} (hk:Kn.ok ρ kn):Rel T B ρ ν {c with kn:=kn} a aS0 w :=
 ⟨h.nv,h.n,h.gJ,hk,h.gl,h.hp,h.wr,h.own,h.top,h.dw,h.held⟩
theorem Po {ρ:Env} {ν:Nat→Addr} {c:bZ} {a:AS} {aS0:List AS} {w:World} {L:iy} {todo:List SI} (h:II T E c=some (L,todo)) (hr:Rel T B ρ ν c a aS0 w) :
  Rel T B ρ ν {c with top:={c.top with todo:=todo}} a aS0 w∧(Goal P T R {c with top:={c.top with todo:=todo}} a aS0 w→Goal P T R c a aS0 w):=by
 unfold II at h
 split at h
 case h_2=>cases h
 rename_i p k bW htodo
 split at h
 case h_2=>cases h
 split at h
 case h_2=>cases h
 rename_i x hat
 simp only [Option.some.injEq,Prod.mk.injEq] at h
 obtain ⟨-,rfl⟩:=h
 refine ⟨⟨hr.nv,hr.n,hr.gJ,hr.kn,hr.gl,hr.hp,hr.wr,hr.own,⟨hr.top.fr,hr.top.tmps,hr.top.defers,fun p k sc d hc=>by rw [show c.top.cur=.none from bW] at hc;cases hc⟩,hr.dw,fun p k sc hc=>by rw [show c.top.cur=.none from bW] at hc;cases hc⟩,fun hg=>?_⟩
 unfold Goal dR at hg ⊢
 simp only [bW] at hg ⊢
 rw [htodo]
 simp only [List.map_cons,SI.iN,oV hat,Code.at,Option.getD_some,hat] at hg ⊢
 exact Reach.step (fun b cs=>step_loop) hg
theorem Pp {ρ:Env} {ν:Nat→Addr} {c:bZ} {a:AS} {aS0:List AS} {w:World} {todo:List SI} (h:IJ E c=some todo) (hr:Rel T B ρ ν c a aS0 w) :
  Rel T B ρ ν {c with top:={c.top with todo:=todo}} a aS0 w∧(Goal P T R {c with top:={c.top with todo:=todo}} a aS0 w→Goal P T R c a aS0 w):=by
 unfold IJ at h
 split at h
 case h_2=>cases h
 rename_i p k bW htodo
 split at h
 case h_2=>cases h
 simp only [Option.some.injEq] at h
 subst h
 refine ⟨⟨hr.nv,hr.n,hr.gJ,hr.kn,hr.gl,hr.hp,hr.wr,hr.own,⟨hr.top.fr,hr.top.tmps,hr.top.defers,fun p k sc d hc=>by rw [show c.top.cur=.none from bW] at hc;cases hc⟩,hr.dw,fun p k sc hc=>by rw [show c.top.cur=.none from bW] at hc;cases hc⟩,fun hg=>?_⟩
 unfold Goal dR at hg ⊢
 simp only [bW] at hg ⊢
 rw [htodo]
 exact Reach.step (fun b cs=>step_inLoop) hg
theorem Dv {c:bZ}:∀{l:List Ap} {i j:Nat} {o:Ap},uK c l i=some (j,o)→i≤j∧l[j-i]?=some o
 | [],_,_,_,h=>by simp [uK] at h
 | x :: r,i,j,o,h=>by
  unfold uK at h
  split at h
  ·simp only [Option.some.injEq,Prod.mk.injEq] at h
   obtain ⟨rfl,rfl⟩:=h
   exact ⟨Nat.le_refl _,by simp⟩
  ·obtain ⟨h1,h2⟩:=Dv h
   refine ⟨by omega,?_⟩
   rw [show j-i=(j-(i+1))+1 by omega]
   simpa using h2
theorem Pq {L:iy} {c cT:bZ} {todo:List SI} (h:IC T L c todo=some cT):cT.kn=c.kn∧cT.gl=c.gl∧cT.dw=c.dw:=by
 unfold IC at h
 split at h
 ·cases h
 split at h
 ·cases h
 simp only [Option.some.injEq] at h
 subst h
 exact ⟨rfl,rfl,rfl⟩
def uh (F:dJ) (B:vZ) (post:Env→Prop) (e:Ending) (w':World):Prop :=
 ∃ρ' aK,dn F.nv F.hp.length B.ρ ρ' B.ν aK∧e=.returned (F.ret.den ρ' aK)∧aI ρ' aK F.hp' w'∧bX B.w B.W w'∧jN B.w.heap.size B.W ρ' aK F.hp'∧post ρ'.num
theorem F9:∀{a b:Kn},uL a b=true→a=b
 | [],[],_=>rfl
 | [],_ :: _,h=>by simp [uL] at h
 | _ :: _,[],h=>by simp [uL] at h
 | (x,t) :: r,(y,u) :: s,h=>by
  simp only [uL,Bool.and_eq_true,beq_iff_eq] at h
  obtain ⟨⟨h1,h2⟩,h3⟩:=h
  rw [BE.aC h1,h2,F9 h3]
theorem Dw {x y:Fr} {t:Nat} {v:SV} (h:assoc t (ED x y)=some v):assoc t x=some v∧assoc t y=some v:=by
 have hm:=iU h
 unfold ED at hm
 simp only [List.mem_filter,Bool.and_eq_true] at hm
 obtain ⟨-,h1,h2⟩:=hm
 refine ⟨?_,?_⟩
 ·split at h1
  ·rename_i u hu
   rw [←SV.aC h1];exact hu
  ·cases h1
 ·split at h2
  ·rename_i u hu
   rw [←SV.aC h2];exact hu
  ·cases h2
theorem Lf {ρ:Env} {ν:Nat→Addr} {x y:bZ} {a:AS} {aS0:List AS} {w:World} (h:qR x y=true) (hr:Rel T B ρ ν x a aS0 w) :
  Rel T B ρ ν (mI x y) a aS0 w∧(Goal P T R (mI x y) a aS0 w→Goal P T R x a aS0 w):=by
 simp only [qR,Bool.and_eq_true,beq_iff_eq] at h
 obtain ⟨⟨⟨⟨⟨⟨⟨⟨h1,h2⟩,h3⟩,h4⟩,h5⟩,h6⟩,h7⟩,h8⟩,h9⟩:=h
 have hx:=pO h6
 refine ⟨⟨hr.nv,hr.n,hr.gJ,hr.kn,hr.gl,hr.hp,hr.wr,hr.own,⟨fun t v ht=>hr.top.fr t v (Dw ht).1,hr.top.tmps,hr.top.defers,hr.top.held⟩,hr.dw,hr.held⟩,fun hg=>?_⟩
 unfold Goal dR at hg ⊢
 simp only [mI,hx] at hg ⊢
 exact hg
theorem Lg {ρ:Env} {ν:Nat→Addr} {x y:bZ} {a:AS} {aS0:List AS} {w:World} (h:qR x y=true) (hr:Rel T B ρ ν y a aS0 w) :
  Rel T B ρ ν (mI x y) a aS0 w∧(Goal P T R (mI x y) a aS0 w→Goal P T R y a aS0 w)∧y.nv=(mI x y).nv∧y.hp=(mI x y).hp:=by
 simp only [qR,Bool.and_eq_true,beq_iff_eq] at h
 obtain ⟨⟨⟨⟨⟨⟨⟨⟨h1,h2⟩,h3⟩,h4⟩,h5⟩,h6⟩,h7⟩,h8⟩,h9⟩:=h
 have hx:=pO h6
 have hy:=pO h7
 replace h2:=F9 h2
 replace h3:=yP h3
 replace h4:=yO h4
 replace h8:=qC h8
 replace h9:=wo h9
 refine ⟨⟨by show B.nv≤x.nv;rw [h1];exact hr.nv,by show B.n≤x.hp.length;rw [h4];exact hr.n,hr.gJ,by show Kn.ok ρ x.kn;rw [h2];exact hr.kn,by show iB ν x.gl;rw [h3];exact hr.gl,by show aI ρ ν x.hp w;rw [h4];exact hr.hp,hr.wr,by show jN _ _ ρ ν x.hp;rw [h4];exact hr.own,⟨fun t v ht=>hr.top.fr t v (Dw ht).2,by show T.ntmps x.top.f≤_;rw [h5];exact hr.top.tmps,hr.top.defers,fun p k sc d hc=>(by
     have hc:x.top.cur=.dr p k sc d:=hc
     rw [hx] at hc;cases hc)⟩,by show yD T ρ ν x.dw aS0;rw [h9];exact hr.dw,fun p k sc hc=>(by
     have hc:x.top.cur=.dr p k sc false:=hc
     rw [hx] at hc;cases hc)⟩,fun hg=>?_,h1.symm,h4.symm⟩
 unfold Goal dR at hg ⊢
 simp only [mI,hx] at hg
 simp only [hy]
 rw [←h5,←h8,←h9]
 exact hg
theorem RL {ρ:Env} {kn:Kn} {os:List BE} (hk:Kn.ok ρ kn) (h:TY kn os=true):∀b∈os,b.den ρ=true:=by
 intro b hb
 have:=List.all_eq_true.1 h b hb
 split at this
 ·rename_i hd
  exact BE.df hk hd
 ·cases this
theorem RN {ρ:Env} {ν:Nat→Addr} {c:bZ} {a:AS} {aS0:List AS} {w:World} {fl m:Nat} (hB:B.n≤fl) (hf:fl≤c.hp.length) (hr:Rel T B ρ ν c a aS0 w) :
  Rel T B ρ ν (uM fl m c) a aS0 w∧(Goal P T R (uM fl m c) a aS0 w→Goal P T R c a aS0 w)∧(uM fl m c).nv=c.nv∧fl≤(uM fl m c).hp.length:=by
 unfold uM
 split
 ·rename_i hc
  simp only [Bool.and_eq_true,Nat.blt_eq,Nat.ble_eq] at hc
  obtain ⟨⟨⟨h1,h2⟩,h3⟩,-⟩:=hc
  have hat:∀(k:Nat) (sb:SB),(c.hp.take m)[k]?=some sb→c.hp[k]?=some sb:=fun k sb hk=>by
   rw [List.getElem?_take] at hk
   split at hk
   ·exact hk
   ·cases hk
  have hlen:(c.hp.take m).length=m:=by rw [List.length_take];omega
  refine ⟨⟨hr.nv,by show B.n≤(c.hp.take m).length;omega,hr.gJ,hr.kn,hr.gl,⟨fun i j x y hi hj=>hr.hp.inj i j x y (hat i x hi) (hat j y hj),fun k sb hk=>hr.hp.aD k sb (hat k sb hk),fun k sb hk=>hr.hp.rd k sb (hat k sb hk)⟩,hr.wr,fun k sb hk=>hr.own k sb (hat k sb hk),hr.top,hr.dw,fun p k sc bW=>?_⟩,fun hg=>hg,rfl,by show fl≤(c.hp.take m).length;omega⟩
  have bW:c.top.cur=.dr p k sc false:=bW
  unfold O3 at h3
  rw [bW] at h3
  exact h3
 ·exact ⟨hr,fun hg=>hg,rfl,hf⟩
theorem MX {ρ:Env} {ν:Nat→Addr} {c c':bZ} {a:AS} {aS0:List AS} {w:World} {fl:Nat} {ls:List Nat} (hB:B.n≤fl) (hf:fl≤c'.hp.length) (hr:Rel T B ρ ν c' a aS0 w) :
  Rel T B ρ ν (qU fl c ls c').1 a aS0 w∧(Goal P T R (qU fl c ls c').1 a aS0 w→Goal P T R c' a aS0 w)∧(qU fl c ls c').1.nv=c'.nv∧fl≤(qU fl c ls c').1.hp.length:=by
 unfold qU
 split
 ·exact ⟨hr,fun hg=>hg,rfl,hf⟩
 ·split
  ·split
   ·exact RN hB hf hr
   ·exact ⟨hr,fun hg=>hg,rfl,hf⟩
  ·exact ⟨hr,fun hg=>hg,rfl,hf⟩
theorem uN (hT:di P T) (hE:E.cons=cs.map (·.1)) (hC:∀k pre post,(k,pre,post)∈cs→jy k=true∧aY P k pre post) (hS:jK T E.sched inf=true) {R:Ending→World→Prop} {ρ:Env} {d fl:Nat} (hB:B.n≤fl) :
  ∀(n:Nat) {ls:List Nat} {c z:bZ} {ν:Nat→Addr} {a:AS} {aS0:List AS} {w:World},yA T E d fl n ls c=some z→fl≤c.hp.length→Rel T B ρ ν c a aS0 w →
   (∀aK a' as' w',dn c.nv fl ρ ρ ν aK→c.nv≤z.nv→fl≤z.hp.length→Rel T B ρ aK z a' as' w'→Goal P T R z a' as' w')→Goal P T R c a aS0 w
 | 0,_,_,_,_,_,_,_,h,_,_,_=>by simp [yA] at h
 | n+1,ls,c,z,ν,a,aS0,w,h,hf,hr,hc=>by
  unfold yA at h
  have hs:=Jf (P:=P) (R:=R) (E:=E) hT hE hC hS hr
  split at h
  ·rename_i os fs c' hst
   rw [hst] at hs
   split at h
   ·rename_i hb
    simp only [Bool.and_eq_true,List.isEmpty_iff] at hb
    refine hs (RL hr.kn hb.2) fun ρ' aK a' as' w' hA hfs hle ho TK hr'=>?_
    obtain rfl:=hfs hb.1
    split at h
    rename_i c2 YQ hcl
    obtain ⟨k1,k2,k3,k4⟩:=MX (P:=P) (R:=R) (c:=c) (ls:=ls) hB (Nat.le_trans hf hle.2) hr'
    rw [hcl] at k1 k2 k3 k4
    apply k2
    have hA':dn c.nv fl ρ' ρ' ν aK:=⟨fun i hi=>hA.iv i hi,fun i hi=>hA.bv i hi,fun i hi=>hA.vv i hi,fun i hi=>hA.ic i hi,fun i hi=>hA.bc i hi,fun i hi=>hA.vc i hi,fun i hi=>hA.bl i (Nat.lt_of_lt_of_le hi hf)⟩
    split at h
    ·cases h
     exact hc aK a' as' w' hA' (by rw [k3];exact hle.1) k4 k1
    ·refine uN hT hE hC hS hB n h k4 k1 fun Dx a2 Dy w2 hA2 l1 l2 hr2=>?_
     rw [k3] at hA2 l1
     exact hc Dx a2 Dy w2 (hA'.trans hA2 hle.1 (Nat.le_refl _)) (Nat.le_trans hle.1 l1) l2 hr2
   ·cases h
  ·rename_i x y hst
   rw [hst] at hs
   obtain ⟨e1,e2,e3,e4⟩:=nH hst
   split at h
   ·rename_i x' y' hx hy
    split at h
    ·rename_i hm
     cases h
     refine hs (fun hr'=>uN hT hE hC hS hB n hx (by rw [e2];exact hf) hr' fun Dx a2 Dy w2 hA l1 l2 hr2=>?_) (fun hr'=>uN hT hE hC hS hB n hy (by rw [e4];exact hf) hr' fun Dx a2 Dy w2 hA l1 l2 hr2=>?_)
     ·obtain ⟨m1,m2⟩:=Lf (P:=P) (R:=R) hm hr2
      rw [e1] at hA l1
      exact m2 (hc Dx a2 Dy w2 hA l1 l2 m1)
     ·obtain ⟨m1,m2,m3,m4⟩:=Lg (P:=P) (R:=R) hm hr2
      rw [e3] at hA
      rw [e3,m3] at l1
      rw [m4] at l2
      exact m2 (hc Dx a2 Dy w2 hA l1 l2 m1)
    ·cases h
   ·cases h
  ·cases h
theorem kL (hT:di P T) (hE:E.cons=cs.map (·.1)) (hC:∀k pre post,(k,pre,post)∈cs→jy k=true∧aY P k pre post) (hS:jK T E.sched inf=true) (hB:B.nv=E.fin.nv∧B.n=E.fin.hp.length) :
  ∀(n:Nat) {op:List Ap} {Γ:List (Env→Prop)} {ρ:Env} {ν:Nat→Addr} {c:bZ} {a:AS} {aS0:List AS} {w:World},op.length=Γ.length→G5 P T B (uh E.fin B post) op Γ ρ ν c.nv c.hp.length→Sat post cs Γ ρ (exec T E n op c)→Rel T B ρ ν c a aS0 w →
   Goal P T (uh E.fin B post) c a aS0 w
 | 0,op,Γ,ρ,ν,c,a,aS0,w,_,_,h,hr=>by cases h
 | n+1,op,Γ,ρ,ν,c,a,aS0,w,hlen,hO,h,hr=>by
  unfold exec at h
  rw [bZ.norm_eq] at h
  split at h
  ·
   rename_i L todo hat
   obtain ⟨hr1,hgo⟩:=Po (P:=P) (R:=uh E.fin B post) hat hr
   split at h
   ·cases h
   rename_i cT htm
   split at h
   ·cases h
   rename_i σ os hinst
   split at h
   case isFalse=>cases h
   rename_i hsc
   simp only [Bool.and_eq_true,Nat.ble_eq] at hsc
   obtain ⟨⟨⟨hsc1,hsc2⟩,hle1⟩,hle2⟩:=hsc
   obtain ⟨hos,F8,hkn',h'⟩:=lG h hr.kn
   obtain ⟨Inv,m,hI,hbody⟩:=h'
   obtain ⟨t1,t2,t3⟩:=Pq htm
   have yL:=hsc1
   simp only [bZ.sc,Bool.and_eq_true] at yL
   obtain ⟨⟨⟨⟨s1,s2⟩,s3⟩,s4⟩,s5⟩:=yL
   have Xm:AY c.nv cT.kn=true∧Bh c.hp.length cT.gl=true∧vW c.nv c.hp.length cT.dw=true:=by rw [t1,t2,t3];exact ⟨s1,s5,s4⟩
   have YV:Kn.ok ρ cT.kn:=by rw [t1];exact hr.kn
   obtain ⟨Xn,Xo,hback⟩:=Jg (P:=P) (R:=uh E.fin B post) hinst hos hr1 ⟨hr.nv,hle1⟩ ⟨hr.n,hle2⟩ Xm YV
   apply hgo
   apply hback
   have main:∀(M:Nat) (ρ':Env) (aK:Nat→Addr) (a:AS) (aS0:List AS) (w:World),dn c.nv c.hp.length ρ ρ' ν aK→Rel T B ρ' aK cT a aS0 w→Inv ρ'.num→m ρ'.num=M→Goal P T (uh E.fin B post) cT a aS0 w:=by
    intro M
    induction M using Nat.strongRecOn with
    | ind M ih =>
     intro ρ' aK a aS0 w hA hrel hinv hm
     have hj:=hA.join
     have yS:=hbody ρ' (by rw [hj];exact hinv)
     rw [hj] at yS
     refine kL hT hE hC hS hB n (op:=⟨c.nv,c.hp.length,cT⟩ :: op) (Γ:=(fun Ia=>Inv Ia∧m Ia<m ρ'.num) :: Γ) (by simp [hlen]) ?_ yS hrel
     intro i o hi G hG
     cases i with
     | zero =>
      simp at hi hG
      subst hi hG
      refine ⟨⟨hr.nv,hle1,hle1⟩,⟨hr.n,hle2,hle2⟩,Xm,ρ,ν,hA,YV,fun ρ2 Dx a2 Dy w2 hA2 hr2 hG2=>?_⟩
      exact ih _ (by rw [←hm];exact hG2.2) ρ2 Dx a2 Dy w2 hA2 hr2 hG2.1 rfl
     | succ i =>
      have:=(hO.ext hA hle1 hle2) i o (by simpa using hi) G (by simpa using hG)
      exact this
   exact main _ _ _ a aS0 w Xo Xn hI rfl
  split at h
  ·
   rename_i todo hat
   obtain ⟨hr1,hgo⟩:=Pp (P:=P) (R:=uh E.fin B post) hat hr
   split at h
   ·cases h
   rename_i i o hfind
   split at h
   ·cases h
   rename_i σ os hinst
   obtain ⟨hos,F8,hkn',h'⟩:=lG h hr.kn
   obtain ⟨G,hG,hGn⟩:=h'
   obtain ⟨-,YW⟩:=Dv hfind
   rw [Nat.sub_zero] at YW
   obtain ⟨lo,az,sc,Le,Pm,q1,q2,q3⟩:=hO i o YW G hG
   obtain ⟨Xn,Xo,hback⟩:=Jg (P:=P) (R:=uh E.fin B post) hinst hos hr1 ⟨lo.1,lo.2.2⟩ ⟨az.1,az.2.2⟩ sc (CB q1 sc.1 q2)
   apply hgo
   apply hback
   exact q3 _ _ a aS0 w (q1.trans Xo (Nat.le_refl _) (Nat.le_refl _)) Xn hGn
  have hs:=Jf (P:=P) (R:=uh E.fin B post) (E:=E) hT hE hC hS hr
  split at h
  ·rename_i os fs c' hst
   rw [hst] at hs
   obtain ⟨h1,Lh,h2,h3⟩:=lG h hr.kn
   refine hs h1 fun ρ' aK a' as' w' hA hfs hle ho hf hr'=>?_
   have hk1:Kn.ok ρ' Lh:=h2 ρ' (by
     have:=hr'.kn
     rwa [RJ hst] at this) ho
   have hk2:=EH hk1 hf
   have hO':=hO.ext hA hle.1 hle.2
   refine kL hT hE hC hS hB n (c:={c' with kn:=IK Lh fs}) hlen hO' ?_ (hr'.Du hk2)
   unfold K9 at h3
   split at h3
   ·rw [hfs rfl];exact h3
   ·have:=h3 ρ' (by rw [hA.join];exact hf)
    rw [hA.join] at this
    exact this
  ·rename_i x y hst
   rw [hst] at hs
   obtain ⟨e1,e2,e3,e4⟩:=nH hst
   split at h
   ·rename_i z hz
    unfold IL at hz
    split at hz
    case isFalse=>cases hz
    split at hz
    case h_2=>cases hz
    rename_i x' y' hx hy
    split at hz
    case isFalse=>cases hz
    rename_i hm
    cases hz
    refine hs (fun hr'=>uN hT hE hC hS hr.n n hx (by rw [e2];exact Nat.le_refl _) hr' fun Dx a2 Dy w2 hA l1 l2 hr2=>?_) (fun hr'=>uN hT hE hC hS hr.n n hy (by rw [e4];exact Nat.le_refl _) hr' fun Dx a2 Dy w2 hA l1 l2 hr2=>?_)
    ·obtain ⟨m1,m2⟩:=Lf (P:=P) (R:=uh E.fin B post) hm hr2
     rw [e1] at hA l1
     exact m2 (kL hT hE hC hS hB n hlen (hO.ext hA l1 l2) h m1)
    ·obtain ⟨m1,m2,m3,m4⟩:=Lg (P:=P) (R:=uh E.fin B post) hm hr2
     rw [e3] at hA
     rw [e3,m3] at l1
     rw [m4] at l2
     exact m2 (kL hT hE hC hS hB n hlen (hO.ext hA l1 l2) h m1)
   exact hs (fun hr'=>kL hT hE hC hS hB n hlen (hO.ext (dn.refl _ _ _ _) (by rw [(nH hst).1];exact Nat.le_refl _) (by rw [(nH hst).2.1];exact Nat.le_refl _)) h.1 hr')
    (fun hr'=>kL hT hE hC hS hB n hlen (hO.ext (dn.refl _ _ _ _) (by rw [(nH hst).2.2.1];exact Nat.le_refl _) (by rw [(nH hst).2.2.2];exact Nat.le_refl _)) h.2 hr')
  ·rename_i os g σ c' hst
   rw [hst] at hs
   obtain ⟨h1,Lh,h2,h3⟩:=lG h hr.kn
   obtain ⟨k,pre,post',hcs,hpre,hbody⟩:=h3
   refine hs h1 k pre post' hcs hpre fun ρ' aK a' as' w' hA hle ho hpo hr'=>?_
   have hk1:Kn.ok ρ' Lh:=h2 ρ' (by
     have:=hr'.kn
     rwa [Pj hst] at this) ho
   have yS:=hbody ρ' (by rw [hA.join];exact hpo)
   rw [hA.join] at yS
   exact kL hT hE hC hS hB n (c:={c' with kn:=Lh}) hlen (hO.ext hA hle.1 hle.2) yS (hr'.Du hk1)
  ·rename_i b hst
   obtain ⟨ht,hf⟩:=h
   cases hb:b.den ρ with
   | true=>exact kL hT hE hC hS hB n (c:={c with kn:=iF b true c.kn}) hlen hO (ht hb) (hr.Du (ng hb hr.kn))
   | false=>exact kL hT hE hC hS hB n (c:={c with kn:=iF b false c.kn}) hlen hO (hf hb) (hr.Du (ng hb hr.kn))
  ·rename_i os v hst
   rw [hst] at hs
   split at h
   ·rename_i σ os' hfin
    obtain ⟨h1,Lh,h2,h3⟩:=lG h hr.kn
    refine hs (fun b hb=>h1 b (List.mem_append_left _ hb)) fun _=>?_
    unfold O1 at hfin
    simp only at hfin
    split at hfin
    case isFalse=>cases hfin
    rename_i hc
    simp only [Bool.and_eq_true,beq_iff_eq] at hc
    obtain ⟨⟨c1,c2⟩,c3⟩:=hc
    simp only [Option.map_eq_some_iff,Prod.mk.injEq] at hfin
    obtain ⟨os2,hinst,rfl,rfl⟩:=hfin
    generalize Ez (WJ {lo:=E.fin.nv,az:=E.fin.hp.length} E.fin.ret v) c.hp E.fin.hp'=σ at *
    have ho2:∀o∈os2,o.den ρ=true:=fun o hm=>h1 o (List.mem_append_right _ hm)
    have hA:=σ.gJ ρ ν
    rw [c1,c2] at hA
    refine ⟨σ.env ρ ν,σ.eY ρ ν,?_,by rw [OT c3],Ey hinst ho2 hr.hp,hr.wr,?_,h3⟩
    ·have h5:=hr.gJ
     rw [hB.1,hB.2] at h5
     exact h5.trans hA (Nat.le_refl _) (Nat.le_refl _)
    ·intro k T' hk' hto htd
     obtain ⟨a',A,hIB⟩:=mZ hinst ho2 hk' htd
     rw [hIB.eY,block_add]
     exact hr.own _ A hIB.hp (hIB.own hto) hIB.live
   ·cases h
  ·cases h
  ·cases h
end
end Go.Rex
namespace Go.Rex
theorem IE.EI (ρ:Env):∀e:IE,e.den ρ.num=e.den ρ:=by
 intro e
 induction e <;> simp_all [IE.den,Env.num]
theorem BE.EI (ρ:Env):∀e:BE,e.den ρ.num=e.den ρ:=by
 intro e
 induction e <;> simp_all [BE.den,IE.EI]
 ·rfl
 ·rfl
theorem Kn.Xp {ρ:Env} {kn:Kn} (h:Kn.ok ρ.num kn):Kn.ok ρ kn:=fun p hp=>by rw [←BE.EI];exact h p hp
section
variable {post:Env→Prop} {cs:mf} {Γ:List (Env→Prop)} {ρ:Env}
theorem Sat.fin {σ:Sub} (h:post (σ.ag ρ)):Sat post cs Γ ρ (.fin σ):=h
theorem Sat.br {c:BE} {t e:Out} (h1:c.den ρ=true→Sat post cs Γ ρ t) (h2:c.den ρ=false→Sat post cs Γ ρ e):Sat post cs Γ ρ (.br c t e):=⟨h1,h2⟩
theorem Sat.ob {b:BE} {k:Out} (h1:b.den ρ=true) (h2:Sat post cs Γ ρ k):Sat post cs Γ ρ (.ob b k):=⟨h1,fun _=>h2⟩
theorem Sat.alt {a b:Out} (h1:Sat post cs Γ ρ a) (h2:Sat post cs Γ ρ b):Sat post cs Γ ρ (.alt a b):=⟨h1,h2⟩
theorem Sat.new {nv:Nat} {fs:List QF} {k:Out} (h:∀e:Env,(∀f∈fs,f.den (ρ.join nv e))→Sat post cs Γ (ρ.join nv e) k):Sat post cs Γ ρ (.new nv fs k):=h
theorem Sat.loop {nv:Nat} {σ:Sub} {k:Out} (Inv:Env→Prop) (m:Env→Nat) (h0:Inv (σ.ag ρ)) (h:∀e:Env,Inv (ρ.join nv e).num→Sat post cs ((fun ρ'=>Inv ρ'∧m ρ'<m (ρ.join nv e).num) :: Γ) (ρ.join nv e) k):Sat post cs Γ ρ (.loop nv σ k):=⟨Inv,m,h0,h⟩
theorem Sat.back {i:Nat} {σ:Sub} {G:Env→Prop} (hG:Γ[i]?=some G) (h:G (σ.ag ρ)):Sat post cs Γ ρ (.back i σ):=⟨G,hG,h⟩
theorem Sat.call {g:Nat} {σ:Sub} {nv:Nat} {k:Out} {c:dJ} {pre post':Env→Prop} (hc:cs[g]?=some (c,pre,post')) (h1:pre (σ.ag ρ)) (h2:∀e:Env,post' (bf σ c.nv nv ρ (ρ.join nv e))→Sat post cs Γ (ρ.join nv e) k):Sat post cs Γ ρ (.call g σ nv k):=⟨c,pre,post',hc,h1,h2⟩
end
theorem cZ {P:Program} {T:aX} (hT:di P T) {E:Ex} {cs:mf} {inf:List (List OI)} (hE:E.cons=cs.map (·.1)) (hC:∀k pre post,(k,pre,post)∈cs→jy k=true∧aY P k pre post) (hS:jK T E.sched inf=true)
  {n:Nat} {kn:Kn} {F:dJ} {out:Out} (hF:E.fin=F) (hex:exec T E n [] (eG F.f F.nv kn F.gl F.hp F.args)=out) (hf:(match T.f F.f with | some fn=>fn.body.isSome && !(fn.name == "runtime.NumGoroutine") && decide (F.args.length≤fn.ntmps) | none=>false)=true)
  {pre post:Env→Prop} (hk:∀ρ:Env,pre ρ.num→Kn.ok ρ.num kn) (hs:∀ρ:Env,pre ρ.num→Sat post cs [] ρ out):aY P F pre post:=by
 subst hF
 split at hf
 case h_2=>cases hf
 rename_i fn hfn
 simp only [Bool.and_eq_true,Bool.not_eq_true',decide_eq_true_eq] at hf
 obtain ⟨⟨hb,hname⟩,hn⟩:=hf
 have F6:=hT.fns _ fn (hT.Mg hfn)
 refine ⟨⟨fn,F6,hb,hname⟩,fun ρ ν w gB hgl hpre=>?_⟩
 obtain ⟨body,hbody⟩:=Option.isSome_iff_exists.1 hb
 have hnt:T.ntmps E.fin.f=fn.ntmps:=by unfold aX.ntmps;rw [hfn];rfl
 have hbd:T.body E.fin.f=body:=by unfold aX.body;rw [hfn];simp [hbody]
 refine Reach.calls F6 hbody ?_
 have yS:=hs ρ hpre
 rw [←hex] at yS
 have hg:=kL (P:=P) (B:=⟨w,iI ρ ν E.fin.hp,ρ,ν,E.fin.nv,E.fin.hp.length⟩) hT hE hC hS ⟨rfl,rfl⟩ n (op:=[]) (Γ:=[]) (ρ:=ρ) (ν:=ν) (c:=eG E.fin.f E.fin.nv kn E.fin.gl E.fin.hp E.fin.args)
  (a:=({tmps:=(E.fin.args.map (·.den ρ ν)).toArray ++ Array.replicate (fn.ntmps-(E.fin.args.map (·.den ρ ν)).toArray.size) undef,defers:=[]},fun _=>True)) (aS0:=[]) (w:=w) rfl (fun i o h=>by simp at h) yS
  ⟨Nat.le_refl _,Nat.le_refl _,dn.refl _ _ _ _,Kn.Xp (hk ρ hpre),hgl,gB,bX.refl _ _,fun k sb h1 h2 h3=>.inr ⟨k,sb,h1,h2,h3,rfl⟩,⟨?_,?_,rfl,fun p k sc d hc=>by cases hc⟩,trivial,fun p k sc hc=>by cases hc⟩
 ·unfold Goal dR eG at hg
  simp only [List.map_cons,List.map_nil,SI.iN,hbd,Code.at,Option.getD_some] at hg
  exact hg
 ·intro t v ht
  obtain ⟨k,x,rfl,hx,rfl⟩:=yK (ρ:=ρ) (ν:=ν) ht
  have hk:k<E.fin.args.length:=(List.getElem?_eq_some_iff.1 hx).1
  rw [Array.getD_eq_getD_getElem?,Array.getElem?_append]
  simp [hk,SV.den,(List.getElem?_eq_some_iff.1 hx).2]
 ·rw [show T.ntmps (eG E.fin.f E.fin.nv kn E.fin.gl E.fin.hp E.fin.args).top.f=fn.ntmps from hnt]
  simp
  omega
end Go.Rex
