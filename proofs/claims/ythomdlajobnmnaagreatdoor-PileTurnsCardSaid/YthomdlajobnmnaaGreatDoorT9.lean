/- part 9 of the proof -/
import Derived.Test.YthomdlajobnmnaaGreatDoorT8
set_option linter.unusedSimpArgs false
set_option linter.unusedVariables false
namespace Go.Rex
theorem PH {a b:SI} (h:I8 a b=true):a=b:=by cases a <;> cases b <;> simp_all [I8]
theorem qK:∀{a b:List SI},l9 a b=true→a=b
 | [],[],_=>rfl
 | [],_ :: _,h=>by simp [l9] at h
 | _ :: _,[],h=>by simp [l9] at h
 | a :: r,b :: s,h=>by
  simp only [l9,Bool.and_eq_true] at h
  rw [PH h.1,qK h.2]
theorem DR:∀{a b:List SW},rf a b=true→a=b
 | [],[],_=>rfl
 | [],_ :: _,h=>by simp [rf] at h
 | _ :: _,[],h=>by simp [rf] at h
 | a :: r,b :: s,h=>by
  simp only [rf,Bool.and_eq_true] at h
  rw [SW.aC h.1,DR h.2]
theorem SV.aC {a b:SV} (h:a.same b=true):a=b:=by
 cases a <;> cases b <;> simp only [SV.same] at h <;> try cases h
 ·rw [SW.aC h]
 ·rw [DR h]
 ·simp only [Bool.and_eq_true] at h
  rw [BE.aC h.1,SW.aC h.2]
theorem Gs:∀{a b:Fr},uL a b=true→a=b
 | [],[],_=>rfl
 | [],_ :: _,h=>by simp [uL] at h
 | _ :: _,[],h=>by simp [uL] at h
 | (t,a) :: r,(u,b) :: s,h=>by
  simp only [uL,Bool.and_eq_true,beq_iff_eq] at h
  rw [h.1.1,SV.aC h.1.2,Gs h.2]
theorem eT.aC:∀{a b:eT},a.same b=true→a=b:=by
 intro a
 induction a with
 | nil c=>intro b h;cases b <;> simp [eT.same] at h;rw [Dn h]
 | take i D k ih=>intro b h;cases b <;> simp [eT.same] at h;rw [h.1.1,h.1.2,ih h.2]
 | drop k ih=>intro b h;cases b <;> simp [eT.same] at h;rw [ih h]
 | solo i k ih=>intro b h;cases b <;> simp [eT.same] at h;rw [h.1,ih h.2]
 | go i k ih=>intro b h;cases b <;> simp [eT.same] at h;rw [h.1,ih h.2]
 | alt i k j l ihk ihl=>intro b h;cases b <;> simp [eT.same] at h;rw [h.1.1.1,ihk h.1.1.2,h.1.2,ihl h.2]
theorem SB.aC {a b:SB} (h:a.same b=true):a=b:=by
 obtain ⟨_,_,_,_,_,_,_,_,_,_⟩:=a
 obtain ⟨_,_,_,_,_,_,_,_,_,_⟩:=b
 simp only [SB.same,Bool.and_eq_true,beq_iff_eq] at h
 obtain ⟨⟨⟨⟨⟨⟨⟨⟨⟨h1,h2⟩,h3⟩,h4⟩,h5⟩,h6⟩,h7⟩,h8⟩,h9⟩,h10⟩:=h
 simp only [SB.mk.injEq]
 exact ⟨h7,vF h4,kT h5,qH h6,h1,h3,vV h9,h8,h2,BE.aC h10⟩
theorem yR:∀{a b:List SB},rT a b=true→a=b
 | [],[],_=>rfl
 | [],_ :: _,h=>by simp [rT] at h
 | _ :: _,[],h=>by simp [rT] at h
 | a :: r,b :: s,h=>by
  simp only [rT,Bool.and_eq_true] at h
  rw [SB.aC h.1,yR h.2]
theorem nD.aC {a b:nD} (h:a.same b=true):a=b:=by
 cases a <;> cases b <;> simp only [nD.same] at h <;> try cases h
 ·rfl
 ·simp only [Bool.and_eq_true,beq_iff_eq] at h
  rw [h.1,h.2]
 ·simp only [Bool.and_eq_true,beq_iff_eq] at h
  rw [h.1.1.1,eT.aC h.1.1.2,yR h.1.2,h.2]
theorem aY.aC {a b:aY} (h:a.same b=true):a=b:=by
 obtain ⟨_,_,_,_⟩:=a
 obtain ⟨_,_,_,_⟩:=b
 simp only [aY.same,Bool.and_eq_true,beq_iff_eq] at h
 obtain ⟨⟨⟨h1,h2⟩,h3⟩,h4⟩:=h
 rw [h1,Gs h2,nD.aC h3,qK h4]
theorem wD:∀{a b:List (aY × Nat)},oZ a b=true→a=b
 | [],[],_=>rfl
 | [],_ :: _,h=>by simp [oZ] at h
 | _ :: _,[],h=>by simp [oZ] at h
 | (F,i) :: r,(G,j) :: s,h=>by
  simp only [oZ,Bool.and_eq_true,beq_iff_eq] at h
  rw [aY.aC h.1.1,h.1.2,wD h.2]
theorem yS:∀{a b:List (Nat × Nat)},rU a b=true→a=b
 | [],[],_=>rfl
 | [],_ :: _,h=>by simp [rU] at h
 | _ :: _,[],h=>by simp [rU] at h
 | (x,i) :: r,(y,j) :: s,h=>by
  simp only [rU,Bool.and_eq_true,beq_iff_eq] at h
  rw [h.1.1,h.1.2,yS h.2]
theorem p8 {c:nD} (h:c.isNone=true):c=.none:=by cases c <;> simp_all [nD.isNone]
theorem Sc {k:dX} {c c':bY} {args:List SW} {σ:Sub} {os:List BE} {v:SV} (h:Hw k c args=some (σ,os,v,c')):c'.kn=c.kn:=by
 unfold Hw at h
 simp only at h
 split at h
 ·split at h
  ·cases h
  ·split at h
   ·cases h;rfl
   ·cases h
 ·cases h
theorem rz {T:aX} {E:Ex} {c c':bY} {ops:Array Oper} {i:Nat} {eu:aY→aY}:(∀os fs,wo T E c ops i eu=.next os fs c'→c'.kn=c.kn)∧(∀os g σ,wo T E c ops i eu=.call os g σ c'→c'.kn=c.kn)∧∀x y,wo T E c ops i eu≠.alt x y:=by
 refine ⟨fun os fs h=>?_,fun os g σ h=>?_,fun x y h=>?_⟩
 all_goals unfold wo at h
 all_goals repeat' split at h
 all_goals first | (cases h;done) | (cases h;rfl) | skip
 rename_i hby _
 cases h
 have:=Sc hby
 exact this
theorem yT {T:aX} {c c':bY} {ops:Array Oper} {i D:Nat} {p:List Nat} {k:eT} {sc:List SB}:(∀os fs,rV T c ops i D p k sc=.next os fs c'→c'.kn=c.kn)∧(∀os g σ,rV T c ops i D p k sc≠.call os g σ c')∧∀x y,rV T c ops i D p k sc≠.alt x y:=by
 refine ⟨fun os fs h=>?_,fun os g σ h=>?_,fun x y h=>?_⟩
 all_goals unfold rV at h
 all_goals repeat' split at h
 all_goals first | (cases h;done) | (cases h;rfl)
theorem BI {T:aX} {c c':bY}:(∀os fs,tu T c=.next os fs c'→c'.kn=c.kn)∧(∀os g σ,tu T c≠.call os g σ c')∧∀x y,tu T c≠.alt x y:=by
 refine ⟨fun os fs h=>?_,fun os g σ h=>?_,fun x y h=>?_⟩
 all_goals unfold tu at h
 all_goals repeat' split at h
 all_goals try simp only at h
 all_goals repeat' split at h
 all_goals first | (cases h;done) | (cases h;rfl)
theorem EU {T:aX} {E:Ex} {c c':bY} {p:List Nat} {k:eT} {sc:List SB} {d:Bool}:(∀os fs,Bz T E c p k sc d=.next os fs c'→c'.kn=c.kn)∧(∀os g σ,Bz T E c p k sc d=.call os g σ c'→c'.kn=c.kn) ∧
  ∀x y,Bz T E c p k sc d=.alt x y→(x.nv=c.nv∧x.hp=c.hp)∧y.nv=c.nv∧y.hp=c.hp:=by
 refine ⟨fun os fs h=>?_,fun os g σ h=>?_,fun x y h=>?_⟩
 all_goals unfold Bz at h
 all_goals simp only at h
 all_goals repeat' split at h
 all_goals first | (cases h;done) | (cases h;rfl) | exact rz.1 _ _ h | exact rz.2.1 _ _ _ h | exact absurd h (rz (c':=c').2.2 _ _) | exact yT.1 _ _ h | exact absurd h (yT.2.1 _ _ _) | exact absurd h (yT (c':=c').2.2 _ _) | (cases h;exact ⟨⟨rfl,rfl⟩,rfl,rfl⟩)
theorem yU {T:aX} {E:Ex} {c c':bY}:(∀os fs,nX T E c=.next os fs c'→c'.kn=c.kn)∧(∀os g σ,nX T E c=.call os g σ c'→c'.kn=c.kn) ∧
  ∀x y,nX T E c=.alt x y→(x.nv=c.nv∧x.hp=c.hp)∧y.nv=c.nv∧y.hp=c.hp:=by
 refine ⟨fun os fs h=>?_,fun os g σ h=>?_,fun x y h=>?_⟩
 all_goals unfold nX at h
 all_goals simp only at h
 all_goals repeat' split at h
 all_goals first | (cases h;done) | (cases h;rfl) | exact rz.1 _ _ h | exact rz.2.1 _ _ _ h | exact absurd h (rz (c':=c').2.2 _ _) | exact EU.1 _ _ h | exact EU.2.1 _ _ _ h | exact EU (c':=c').2.2 _ _ h | exact BI.1 _ _ h | exact absurd h (BI.2.1 _ _ _) | exact absurd h (BI (c':=c').2.2 _ _)
theorem Sd {T:aX} {E:Ex} {c c':bY} {os:List BE} {fs:List QF} (h:nX T E c=.next os fs c'):c'.kn=c.kn:=yU.1 _ _ h
theorem PI {T:aX} {E:Ex} {c c':bY} {os:List BE} {g:Nat} {σ:Sub} (h:nX T E c=.call os g σ c'):c'.kn=c.kn:=yU.2.1 _ _ _ h
theorem nE {T:aX} {E:Ex} {c x y:bY} (h:nX T E c=.alt x y):x.nv=c.nv∧x.hp=c.hp∧y.nv=c.nv∧y.hp=c.hp:=by
 obtain ⟨⟨a,b⟩,c,d⟩:=yU (c':=x).2.2 _ _ h
 exact ⟨a,b,c,d⟩
section
variable {P:Program} {T:aX} {B:wu} {R:Ending→World→Prop} {E:Ex} {cs:mr} {inf:List (List OI)} {post:Env→Prop}
theorem PK {σ:Sub} {ρ:Env} {ν:Nat→Addr} {fr:Fr} {a:Act} (hf:mY ρ ν fr a):∀{l:Fr},UH σ fr l=true→mY (σ.env ρ ν) (σ.fw ρ ν) l a
 | [],_=>fun t v h=>by simp [assoc] at h
 | (t,v) :: r,h=>by
  simp only [UH,Bool.and_eq_true] at h
  intro u x hx
  unfold assoc at hx
  split at hx
  ·rename_i he
   simp only [beq_iff_eq] at he
   subst he
   simp at hx
   subst hx
   obtain ⟨h1,-⟩:=h
   split at h1
   ·rename_i y hy
    rw [Pg h1]
    exact hf _ y hy
   ·cases h1
  ·exact PK hf h.2 u x hx
structure XX (P:Program) (T:aX) (B:wu) (R:Ending→World→Prop) (o:Ay) (G:Env→Prop) (ρ:Env) (ν:Nat→Addr) (nv n:Nat):Prop where
 lo:B.nv≤o.lo∧o.lo≤nv∧o.lo≤o.cT.nv
 az:B.n≤o.az∧o.az≤n∧o.az≤o.cT.hp.length
 sc:Bi o.lo o.cT.kn=true∧Bu o.az o.cT.gl=true∧wh o.lo o.az o.cT.dz=true
 goal:∃LM PL,di o.lo o.az LM ρ PL ν∧Kn.ok LM o.cT.kn∧∀ρ' aI a aS0 w,di o.lo o.az LM ρ' PL aI→Rel T B ρ' aI o.cT a aS0 w→G ρ'.num→Goal P T R o.cT a aS0 w
def HV (P:Program) (T:aX) (B:wu) (R:Ending→World→Prop) (op:List Ay) (Γ:List (Env→Prop)) (ρ:Env) (ν:Nat→Addr) (nv n:Nat):Prop :=
 ∀(i:Nat) (o:Ay),op[i]?=some o→∀G,Γ[i]?=some G→XX P T B R o G ρ ν nv n
theorem HV.ext {op:List Ay} {Γ:List (Env→Prop)} {ρ ρ':Env} {ν aI:Nat→Addr} {nv n jc n':Nat} (h:HV P T B R op Γ ρ ν nv n) (hA:di nv n ρ ρ' ν aI) (h1:nv≤jc) (h2:n≤n'):HV P T B R op Γ ρ' aI jc n':=by
 intro i o hi G hG
 obtain ⟨lo,az,sc,LM,PL,q1,q2,q3⟩:=h i o hi G hG
 exact ⟨⟨lo.1,Nat.le_trans lo.2.1 h1,lo.2.2⟩,⟨az.1,Nat.le_trans az.2.1 h2,az.2.2⟩,sc,LM,PL,q1.trans hA lo.2.1 az.2.1,q2,q3⟩
theorem Jz {ρ:Env} {ν:Nat→Addr} {lo az:Nat} {cT c:bY} {σ:Sub} {os:List BE} {a:AS} {aS0:List AS} {w:World} (h:Hu lo az cT c=some (σ,os)) (ho:∀o∈os,o.den ρ=true) (hr:Rel T B ρ ν c a aS0 w)
  (h1:B.nv≤lo∧lo≤cT.nv) (h2:B.n≤az∧az≤cT.hp.length) (hs:Bi lo cT.kn=true∧Bu az cT.gl=true∧wh lo az cT.dz=true) (hk:Kn.ok ρ cT.kn) :
  Rel T B (σ.env ρ ν) (σ.fw ρ ν) cT a aS0 w∧di lo az ρ (σ.env ρ ν) ν (σ.fw ρ ν)∧(Goal P T R cT a aS0 w→Goal P T R c a aS0 w):=by
 unfold Hu at h
 simp only at h
 split at h
 case isFalse=>cases h
 rename_i hc
 simp only [Bool.and_eq_true,beq_iff_eq] at hc
 obtain ⟨⟨⟨⟨⟨⟨⟨⟨c1,c2⟩,c3⟩,c4⟩,c5⟩,c6⟩,c7⟩,c8⟩,c9⟩:=hc
 simp only [Option.map_eq_some_iff,Prod.mk.injEq] at h
 obtain ⟨os',hinst,rfl,rfl⟩:=h
 generalize EM (XE {lo:=lo,az:=az} c.top.fr cT.top.fr) c.hp cT.hp=σ at *
 have hA:di lo az ρ (σ.env ρ ν) ν (σ.fw ρ ν):=by
  have:=σ.gM ρ ν
  rw [c1,c2] at this
  exact this
 have PM:=p8 c4
 have XY:=p8 c5
 have XZ:=wD c7
 have hgl:=yS c8
 have htodo:=qK c6
 refine ⟨⟨Nat.le_trans h1.1 h1.2,Nat.le_trans h2.1 h2.2,hr.gM.trans hA h1.1 h2.1,CZ hA hs.1 hk,?_,EL hinst ho hr.hp,hr.wr,?_,⟨PK hr.top.fr c9,by rw [c3];exact hr.top.tmps,hr.top.defers,fun p k sc d hc=>by rw [PM] at hc;cases hc⟩,?_,fun p k sc hc=>by rw [PM] at hc;cases hc⟩,hA,?_⟩
 ·refine jm.ext hA hs.2.1 ?_
  rw [hgl];exact hr.gl
 ·intro k T' hk' hto htd
  obtain ⟨a',A,hB⟩:=ng hinst ho hk' htd
  rw [hB.fw,block_add]
  exact hr.own _ A hB.hp (hB.own hto) hB.live
 ·refine yG.ext hA hs.2.2 ?_
  rw [XZ];exact hr.dz
 ·intro hg
  unfold Goal at hg ⊢
  rw [XZ] at hg
  exact xG c3.symm htodo.symm (XY.trans PM.symm) hg
theorem lJ {Γ:List (Env→Prop)} {ρ:Env}:∀{os:List BE} {kn:Kn} {k:Kn→Out},Sat post cs Γ ρ (nY kn os k)→Kn.ok ρ kn →
  (∀b∈os,b.den ρ=true)∧∃Gt,(∀ρ':Env,Kn.ok ρ' kn→(∀b∈os,b.den ρ'=true)→Kn.ok ρ' Gt)∧Sat post cs Γ ρ (k Gt)
 | [],kn,k,h,_=>⟨by simp,kn,fun _ h _=>h,h⟩
 | b :: r,kn,k,h,hk=>by
  unfold nY at h
  split at h
  ·rename_i hd
   obtain ⟨h1,Gt,h2,h3⟩:=lJ h hk
   refine ⟨fun x hx=>?_,Gt,fun ρ' a b=>h2 ρ' a (fun x hx=>b x (by simp [hx])),h3⟩
   rcases List.mem_cons.1 hx with rfl | hx
   ·exact BE.cZ hk hd
   ·exact h1 x hx
  ·cases h
  ·obtain ⟨h0,h⟩:=h
   obtain ⟨h1,Gt,h2,h3⟩:=lJ (h h0) (ni h0 hk)
   refine ⟨fun x hx=>?_,Gt,fun ρ' a c=>h2 ρ' (ni (c b (by simp)) a) (fun x hx=>c x (by simp [hx])),h3⟩
   rcases List.mem_cons.1 hx with rfl | hx
   ·exact h0
   ·exact h1 x hx
theorem EW {ρ:Env}:∀{fs:List QF} {kn:Kn},Kn.ok ρ kn→(∀f∈fs,f.den ρ)→Kn.ok ρ (Jc kn fs)
 | [],_,h,_=>h
 | .be b :: r,kn,h,hf=>EW (fs:=r) (ni (hf (.be b) (by simp)) h) fun f hm=>hf f (by simp [hm])
 | .cat .. :: r,kn,h,hf=>EW (fs:=r) h fun f hm=>hf f (by simp [hm])
theorem Rel.DT {ρ:Env} {ν:Nat→Addr} {c:bY} {a:AS} {aS0:List AS} {w:World} (h:Rel T B ρ ν c a aS0 w) {kn:Kn} (hk:Kn.ok ρ kn):Rel T B ρ ν {c with kn:=kn} a aS0 w :=
 ⟨h.nv,h.n,h.gM,hk,h.gl,h.hp,h.wr,h.own,h.top,h.dz,h.held⟩
theorem PN {ρ:Env} {ν:Nat→Addr} {c:bY} {a:AS} {aS0:List AS} {w:World} {L:iC} {todo:List SI} (h:I9 T E c=some (L,todo)) (hr:Rel T B ρ ν c a aS0 w) :
  Rel T B ρ ν {c with top:={c.top with todo:=todo}} a aS0 w∧(Goal P T R {c with top:={c.top with todo:=todo}} a aS0 w→Goal P T R c a aS0 w):=by
 unfold I9 at h
 split at h
 case h_2=>cases h
 rename_i p k bS htodo
 split at h
 case h_2=>cases h
 split at h
 case h_2=>cases h
 rename_i x hat
 simp only [Option.some.injEq,Prod.mk.injEq] at h
 obtain ⟨-,rfl⟩:=h
 refine ⟨⟨hr.nv,hr.n,hr.gM,hr.kn,hr.gl,hr.hp,hr.wr,hr.own,⟨hr.top.fr,hr.top.tmps,hr.top.defers,fun p k sc d hc=>by rw [show c.top.cur=.none from bS] at hc;cases hc⟩,hr.dz,fun p k sc hc=>by rw [show c.top.cur=.none from bS] at hc;cases hc⟩,fun hg=>?_⟩
 unfold Goal dV at hg ⊢
 simp only [bS] at hg ⊢
 rw [htodo]
 simp only [List.map_cons,SI.iT,o6 hat,Code.at,Option.getD_some,hat] at hg ⊢
 exact Reach.step (fun b cs=>step_loop) hg
theorem PO {ρ:Env} {ν:Nat→Addr} {c:bY} {a:AS} {aS0:List AS} {w:World} {todo:List SI} (h:Ja E c=some todo) (hr:Rel T B ρ ν c a aS0 w) :
  Rel T B ρ ν {c with top:={c.top with todo:=todo}} a aS0 w∧(Goal P T R {c with top:={c.top with todo:=todo}} a aS0 w→Goal P T R c a aS0 w):=by
 unfold Ja at h
 split at h
 case h_2=>cases h
 rename_i p k bS htodo
 split at h
 case h_2=>cases h
 simp only [Option.some.injEq] at h
 subst h
 refine ⟨⟨hr.nv,hr.n,hr.gM,hr.kn,hr.gl,hr.hp,hr.wr,hr.own,⟨hr.top.fr,hr.top.tmps,hr.top.defers,fun p k sc d hc=>by rw [show c.top.cur=.none from bS] at hc;cases hc⟩,hr.dz,fun p k sc hc=>by rw [show c.top.cur=.none from bS] at hc;cases hc⟩,fun hg=>?_⟩
 unfold Goal dV at hg ⊢
 simp only [bS] at hg ⊢
 rw [htodo]
 exact Reach.step (fun b cs=>step_inLoop) hg
theorem DU {c:bY}:∀{l:List Ay} {i j:Nat} {o:Ay},uN c l i=some (j,o)→i≤j∧l[j-i]?=some o
 | [],_,_,_,h=>by simp [uN] at h
 | x :: r,i,j,o,h=>by
  unfold uN at h
  split at h
  ·simp only [Option.some.injEq,Prod.mk.injEq] at h
   obtain ⟨rfl,rfl⟩:=h
   exact ⟨Nat.le_refl _,by simp⟩
  ·obtain ⟨h1,h2⟩:=DU h
   refine ⟨by omega,?_⟩
   rw [show j-i=(j-(i+1))+1 by omega]
   simpa using h2
theorem PT {L:iC} {c cT:bY} {todo:List SI} (h:I7 T L c todo=some cT):cT.kn=c.kn∧cT.gl=c.gl∧cT.dz=c.dz:=by
 unfold I7 at h
 split at h
 ·cases h
 split at h
 ·cases h
 simp only [Option.some.injEq] at h
 subst h
 exact ⟨rfl,rfl,rfl⟩
def um (F:dX) (B:wu) (post:Env→Prop) (e:Ending) (w':World):Prop :=
 ∃ρ' aI,di F.nv F.hp.length B.ρ ρ' B.ν aI∧e=.returned (F.ret.den ρ' aI)∧aK ρ' aI F.hp' w'∧bU B.w B.W w'∧jR B.w.heap.size B.W ρ' aI F.hp'∧post ρ'.num
theorem Gu:∀{a b:Kn},uO a b=true→a=b
 | [],[],_=>rfl
 | [],_ :: _,h=>by simp [uO] at h
 | _ :: _,[],h=>by simp [uO] at h
 | (x,t) :: r,(y,u) :: s,h=>by
  simp only [uO,Bool.and_eq_true,beq_iff_eq] at h
  obtain ⟨⟨h1,h2⟩,h3⟩:=h
  rw [BE.aC h1,h2,Gu h3]
theorem DV {x y:Fr} {t:Nat} {v:SV} (h:assoc t (ES x y)=some v):assoc t x=some v∧assoc t y=some v:=by
 have hm:=jC h
 unfold ES at hm
 simp only [List.mem_filter,Bool.and_eq_true] at hm
 obtain ⟨-,h1,h2⟩:=hm
 refine ⟨?_,?_⟩
 ·split at h1
  ·rename_i u hu
   rw [←SV.aC h1];exact hu
  ·cases h1
 ·split at h2
  ·rename_i u hu
   rw [←SV.aC h2];exact hu
  ·cases h2
theorem LP {ρ:Env} {ν:Nat→Addr} {x y:bY} {a:AS} {aS0:List AS} {w:World} (h:ru x y=true) (hr:Rel T B ρ ν x a aS0 w) :
  Rel T B ρ ν (mK x y) a aS0 w∧(Goal P T R (mK x y) a aS0 w→Goal P T R x a aS0 w):=by
 simp only [ru,Bool.and_eq_true,beq_iff_eq] at h
 obtain ⟨⟨⟨⟨⟨⟨⟨⟨h1,h2⟩,h3⟩,h4⟩,h5⟩,h6⟩,h7⟩,h8⟩,h9⟩:=h
 have hx:=p8 h6
 refine ⟨⟨hr.nv,hr.n,hr.gM,hr.kn,hr.gl,hr.hp,hr.wr,hr.own,⟨fun t v ht=>hr.top.fr t v (DV ht).1,hr.top.tmps,hr.top.defers,hr.top.held⟩,hr.dz,hr.held⟩,fun hg=>?_⟩
 unfold Goal dV at hg ⊢
 simp only [mK,hx] at hg ⊢
 exact hg
theorem LQ {ρ:Env} {ν:Nat→Addr} {x y:bY} {a:AS} {aS0:List AS} {w:World} (h:ru x y=true) (hr:Rel T B ρ ν y a aS0 w) :
  Rel T B ρ ν (mK x y) a aS0 w∧(Goal P T R (mK x y) a aS0 w→Goal P T R y a aS0 w)∧y.nv=(mK x y).nv∧y.hp=(mK x y).hp:=by
 simp only [ru,Bool.and_eq_true,beq_iff_eq] at h
 obtain ⟨⟨⟨⟨⟨⟨⟨⟨h1,h2⟩,h3⟩,h4⟩,h5⟩,h6⟩,h7⟩,h8⟩,h9⟩:=h
 have hx:=p8 h6
 have hy:=p8 h7
 replace h2:=Gu h2
 replace h3:=yS h3
 replace h4:=yR h4
 replace h8:=qK h8
 replace h9:=wD h9
 refine ⟨⟨by show B.nv≤x.nv;rw [h1];exact hr.nv,by show B.n≤x.hp.length;rw [h4];exact hr.n,hr.gM,by show Kn.ok ρ x.kn;rw [h2];exact hr.kn,by show jm ν x.gl;rw [h3];exact hr.gl,by show aK ρ ν x.hp w;rw [h4];exact hr.hp,hr.wr,by show jR _ _ ρ ν x.hp;rw [h4];exact hr.own,⟨fun t v ht=>hr.top.fr t v (DV ht).2,by show T.ntmps x.top.f≤_;rw [h5];exact hr.top.tmps,hr.top.defers,fun p k sc d hc=>(by
     have hc:x.top.cur=.dr p k sc d:=hc
     rw [hx] at hc;cases hc)⟩,by show yG T ρ ν x.dz aS0;rw [h9];exact hr.dz,fun p k sc hc=>(by
     have hc:x.top.cur=.dr p k sc false:=hc
     rw [hx] at hc;cases hc)⟩,fun hg=>?_,h1.symm,h4.symm⟩
 unfold Goal dV at hg ⊢
 simp only [mK,hx] at hg
 simp only [hy]
 rw [←h5,←h8,←h9]
 exact hg
theorem Sg {ρ:Env} {kn:Kn} {os:List BE} (hk:Kn.ok ρ kn) (h:UI kn os=true):∀b∈os,b.den ρ=true:=by
 intro b hb
 have:=List.all_eq_true.1 h b hb
 split at this
 ·rename_i hd
  exact BE.cZ hk hd
 ·cases this
theorem Si {ρ:Env} {ν:Nat→Addr} {c:bY} {a:AS} {aS0:List AS} {w:World} {fl m:Nat} (hB:B.n≤fl) (hf:fl≤c.hp.length) (hr:Rel T B ρ ν c a aS0 w) :
  Rel T B ρ ν (uP fl m c) a aS0 w∧(Goal P T R (uP fl m c) a aS0 w→Goal P T R c a aS0 w)∧(uP fl m c).nv=c.nv∧fl≤(uP fl m c).hp.length:=by
 unfold uP
 split
 ·rename_i hc
  simp only [Bool.and_eq_true,Nat.blt_eq,Nat.ble_eq] at hc
  obtain ⟨⟨⟨h1,h2⟩,h3⟩,-⟩:=hc
  have hat:∀(k:Nat) (sb:SB),(c.hp.take m)[k]?=some sb→c.hp[k]?=some sb:=fun k sb hk=>by
   rw [List.getElem?_take] at hk
   split at hk
   ·exact hk
   ·cases hk
  have hlen:(c.hp.take m).length=m:=by rw [List.length_take];omega
  refine ⟨⟨hr.nv,by show B.n≤(c.hp.take m).length;omega,hr.gM,hr.kn,hr.gl,⟨fun i j x y hi hj=>hr.hp.inj i j x y (hat i x hi) (hat j y hj),fun k sb hk=>hr.hp.aD k sb (hat k sb hk),fun k sb hk=>hr.hp.rd k sb (hat k sb hk)⟩,hr.wr,fun k sb hk=>hr.own k sb (hat k sb hk),hr.top,hr.dz,fun p k sc bS=>?_⟩,fun hg=>hg,rfl,by show fl≤(c.hp.take m).length;omega⟩
  have bS:c.top.cur=.dr p k sc false:=bS
  unfold Ps at h3
  rw [bS] at h3
  exact h3
 ·exact ⟨hr,fun hg=>hg,rfl,hf⟩
theorem Nn {ρ:Env} {ν:Nat→Addr} {c c':bY} {a:AS} {aS0:List AS} {w:World} {fl:Nat} {ls:List Nat} (hB:B.n≤fl) (hf:fl≤c'.hp.length) (hr:Rel T B ρ ν c' a aS0 w) :
  Rel T B ρ ν (ry fl c ls c').1 a aS0 w∧(Goal P T R (ry fl c ls c').1 a aS0 w→Goal P T R c' a aS0 w)∧(ry fl c ls c').1.nv=c'.nv∧fl≤(ry fl c ls c').1.hp.length:=by
 unfold ry
 split
 ·exact ⟨hr,fun hg=>hg,rfl,hf⟩
 ·split
  ·split
   ·exact Si hB hf hr
   ·exact ⟨hr,fun hg=>hg,rfl,hf⟩
  ·exact ⟨hr,fun hg=>hg,rfl,hf⟩
theorem uQ (hT:dh P T) (hE:E.cons=cs.map (·.1)) (hC:∀k pre post,(k,pre,post)∈cs→jG k=true∧bf P k pre post) (hS:jO T E.sched inf=true) {R:Ending→World→Prop} {ρ:Env} {d fl:Nat} (hB:B.n≤fl) :
  ∀(n:Nat) {ls:List Nat} {c z:bY} {ν:Nat→Addr} {a:AS} {aS0:List AS} {w:World},yE T E d fl n ls c=some z→fl≤c.hp.length→Rel T B ρ ν c a aS0 w →
   (∀aI a' as' w',di c.nv fl ρ ρ ν aI→c.nv≤z.nv→fl≤z.hp.length→Rel T B ρ aI z a' as' w'→Goal P T R z a' as' w')→Goal P T R c a aS0 w
 | 0,_,_,_,_,_,_,_,h,_,_,_=>by simp [yE] at h
 | n+1,ls,c,z,ν,a,aS0,w,h,hf,hr,hc=>by
  unfold yE at h
  have hs:=Jy (P:=P) (R:=R) (E:=E) hT hE hC hS hr
  split at h
  ·rename_i os fs c' hst
   rw [hst] at hs
   split at h
   ·rename_i hb
    simp only [Bool.and_eq_true,List.isEmpty_iff] at hb
    refine hs (Sg hr.kn hb.2) fun ρ' aI a' as' w' hA hfs hle ho Uw hr'=>?_
    obtain rfl:=hfs hb.1
    split at h
    rename_i c2 Zx hcl
    obtain ⟨k1,k2,k3,k4⟩:=Nn (P:=P) (R:=R) (c:=c) (ls:=ls) hB (Nat.le_trans hf hle.2) hr'
    rw [hcl] at k1 k2 k3 k4
    apply k2
    have hA':di c.nv fl ρ' ρ' ν aI:=⟨fun i hi=>hA.iv i hi,fun i hi=>hA.bv i hi,fun i hi=>hA.vv i hi,fun i hi=>hA.ic i hi,fun i hi=>hA.bc i hi,fun i hi=>hA.vc i hi,fun i hi=>hA.bl i (Nat.lt_of_lt_of_le hi hf)⟩
    split at h
    ·cases h
     exact hc aI a' as' w' hA' (by rw [k3];exact hle.1) k4 k1
    ·refine uQ hT hE hC hS hB n h k4 k1 fun DW a2 DX w2 hA2 l1 l2 hr2=>?_
     rw [k3] at hA2 l1
     exact hc DW a2 DX w2 (hA'.trans hA2 hle.1 (Nat.le_refl _)) (Nat.le_trans hle.1 l1) l2 hr2
   ·cases h
  ·rename_i x y hst
   rw [hst] at hs
   obtain ⟨e1,e2,e3,e4⟩:=nE hst
   split at h
   ·rename_i x' y' hx hy
    split at h
    ·rename_i hm
     cases h
     refine hs (fun hr'=>uQ hT hE hC hS hB n hx (by rw [e2];exact hf) hr' fun DW a2 DX w2 hA l1 l2 hr2=>?_) (fun hr'=>uQ hT hE hC hS hB n hy (by rw [e4];exact hf) hr' fun DW a2 DX w2 hA l1 l2 hr2=>?_)
     ·obtain ⟨m1,m2⟩:=LP (P:=P) (R:=R) hm hr2
      rw [e1] at hA l1
      exact m2 (hc DW a2 DX w2 hA l1 l2 m1)
     ·obtain ⟨m1,m2,m3,m4⟩:=LQ (P:=P) (R:=R) hm hr2
      rw [e3] at hA
      rw [e3,m3] at l1
      rw [m4] at l2
      exact m2 (hc DW a2 DX w2 hA l1 l2 m1)
    ·cases h
   ·cases h
  ·cases h
theorem kX (hT:dh P T) (hE:E.cons=cs.map (·.1)) (hC:∀k pre post,(k,pre,post)∈cs→jG k=true∧bf P k pre post) (hS:jO T E.sched inf=true) (hB:B.nv=E.fin.nv∧B.n=E.fin.hp.length) :
  ∀(n:Nat) {op:List Ay} {Γ:List (Env→Prop)} {ρ:Env} {ν:Nat→Addr} {c:bY} {a:AS} {aS0:List AS} {w:World},op.length=Γ.length→HV P T B (um E.fin B post) op Γ ρ ν c.nv c.hp.length→Sat post cs Γ ρ (exec T E n op c)→Rel T B ρ ν c a aS0 w →
   Goal P T (um E.fin B post) c a aS0 w
 | 0,op,Γ,ρ,ν,c,a,aS0,w,_,_,h,hr=>by cases h
 | n+1,op,Γ,ρ,ν,c,a,aS0,w,hlen,hO,h,hr=>by
  unfold exec at h
  rw [bY.norm_eq] at h
  split at h
  ·
   rename_i L todo hat
   obtain ⟨hr1,hgo⟩:=PN (P:=P) (R:=um E.fin B post) hat hr
   split at h
   ·cases h
   rename_i cT htm
   split at h
   ·cases h
   rename_i σ os hinst
   split at h
   case isFalse=>cases h
   rename_i hsc
   simp only [Bool.and_eq_true,Nat.ble_eq] at hsc
   obtain ⟨⟨⟨hsc1,hsc2⟩,hle1⟩,hle2⟩:=hsc
   obtain ⟨hos,Gt,hkn',h'⟩:=lJ h hr.kn
   obtain ⟨Inv,m,hI,hbody⟩:=h'
   obtain ⟨t1,t2,t3⟩:=PT htm
   have yP:=hsc1
   simp only [bY.sc,Bool.and_eq_true] at yP
   obtain ⟨⟨⟨⟨s1,s2⟩,s3⟩,s4⟩,s5⟩:=yP
   have X0:Bi c.nv cT.kn=true∧Bu c.hp.length cT.gl=true∧wh c.nv c.hp.length cT.dz=true:=by rw [t1,t2,t3];exact ⟨s1,s5,s4⟩
   have ZC:Kn.ok ρ cT.kn:=by rw [t1];exact hr.kn
   obtain ⟨X3,X4,hback⟩:=Jz (P:=P) (R:=um E.fin B post) hinst hos hr1 ⟨hr.nv,hle1⟩ ⟨hr.n,hle2⟩ X0 ZC
   apply hgo
   apply hback
   have main:∀(M:Nat) (ρ':Env) (aI:Nat→Addr) (a:AS) (aS0:List AS) (w:World),di c.nv c.hp.length ρ ρ' ν aI→Rel T B ρ' aI cT a aS0 w→Inv ρ'.num→m ρ'.num=M→Goal P T (um E.fin B post) cT a aS0 w:=by
    intro M
    induction M using Nat.strongRecOn with
    | ind M ih =>
     intro ρ' aI a aS0 w hA hrel hinv hm
     have hj:=hA.join
     have yV:=hbody ρ' (by rw [hj];exact hinv)
     rw [hj] at yV
     refine kX hT hE hC hS hB n (op:=⟨c.nv,c.hp.length,cT⟩ :: op) (Γ:=(fun IA=>Inv IA∧m IA<m ρ'.num) :: Γ) (by simp [hlen]) ?_ yV hrel
     intro i o hi G hG
     cases i with
     | zero =>
      simp at hi hG
      subst hi hG
      refine ⟨⟨hr.nv,hle1,hle1⟩,⟨hr.n,hle2,hle2⟩,X0,ρ,ν,hA,ZC,fun ρ2 DW a2 DX w2 hA2 hr2 hG2=>?_⟩
      exact ih _ (by rw [←hm];exact hG2.2) ρ2 DW a2 DX w2 hA2 hr2 hG2.1 rfl
     | succ i =>
      have:=(hO.ext hA hle1 hle2) i o (by simpa using hi) G (by simpa using hG)
      exact this
   exact main _ _ _ a aS0 w X4 X3 hI rfl
  split at h
  ·
   rename_i todo hat
   obtain ⟨hr1,hgo⟩:=PO (P:=P) (R:=um E.fin B post) hat hr
   split at h
   ·cases h
   rename_i i o hfind
   split at h
   ·cases h
   rename_i σ os hinst
   obtain ⟨hos,Gt,hkn',h'⟩:=lJ h hr.kn
   obtain ⟨G,hG,hGn⟩:=h'
   obtain ⟨-,ZE⟩:=DU hfind
   rw [Nat.sub_zero] at ZE
   obtain ⟨lo,az,sc,LM,PL,q1,q2,q3⟩:=hO i o ZE G hG
   obtain ⟨X3,X4,hback⟩:=Jz (P:=P) (R:=um E.fin B post) hinst hos hr1 ⟨lo.1,lo.2.2⟩ ⟨az.1,az.2.2⟩ sc (CZ q1 sc.1 q2)
   apply hgo
   apply hback
   exact q3 _ _ a aS0 w (q1.trans X4 (Nat.le_refl _) (Nat.le_refl _)) X3 hGn
  have hs:=Jy (P:=P) (R:=um E.fin B post) (E:=E) hT hE hC hS hr
  split at h
  ·rename_i os fs c' hst
   rw [hst] at hs
   obtain ⟨h1,LU,h2,h3⟩:=lJ h hr.kn
   refine hs h1 fun ρ' aI a' as' w' hA hfs hle ho hf hr'=>?_
   have hk1:Kn.ok ρ' LU:=h2 ρ' (by
     have:=hr'.kn
     rwa [Sd hst] at this) ho
   have hk2:=EW hk1 hf
   have hO':=hO.ext hA hle.1 hle.2
   refine kX hT hE hC hS hB n (c:={c' with kn:=Jc LU fs}) hlen hO' ?_ (hr'.DT hk2)
   unfold LD at h3
   split at h3
   ·rw [hfs rfl];exact h3
   ·have:=h3 ρ' (by rw [hA.join];exact hf)
    rw [hA.join] at this
    exact this
  ·rename_i x y hst
   rw [hst] at hs
   obtain ⟨e1,e2,e3,e4⟩:=nE hst
   split at h
   ·rename_i z hz
    unfold Jd at hz
    split at hz
    case isFalse=>cases hz
    split at hz
    case h_2=>cases hz
    rename_i x' y' hx hy
    split at hz
    case isFalse=>cases hz
    rename_i hm
    cases hz
    refine hs (fun hr'=>uQ hT hE hC hS hr.n n hx (by rw [e2];exact Nat.le_refl _) hr' fun DW a2 DX w2 hA l1 l2 hr2=>?_) (fun hr'=>uQ hT hE hC hS hr.n n hy (by rw [e4];exact Nat.le_refl _) hr' fun DW a2 DX w2 hA l1 l2 hr2=>?_)
    ·obtain ⟨m1,m2⟩:=LP (P:=P) (R:=um E.fin B post) hm hr2
     rw [e1] at hA l1
     exact m2 (kX hT hE hC hS hB n hlen (hO.ext hA l1 l2) h m1)
    ·obtain ⟨m1,m2,m3,m4⟩:=LQ (P:=P) (R:=um E.fin B post) hm hr2
     rw [e3] at hA
     rw [e3,m3] at l1
     rw [m4] at l2
     exact m2 (kX hT hE hC hS hB n hlen (hO.ext hA l1 l2) h m1)
   exact hs (fun hr'=>kX hT hE hC hS hB n hlen (hO.ext (di.refl _ _ _ _) (by rw [(nE hst).1];exact Nat.le_refl _) (by rw [(nE hst).2.1];exact Nat.le_refl _)) h.1 hr')
    (fun hr'=>kX hT hE hC hS hB n hlen (hO.ext (di.refl _ _ _ _) (by rw [(nE hst).2.2.1];exact Nat.le_refl _) (by rw [(nE hst).2.2.2];exact Nat.le_refl _)) h.2 hr')
  ·rename_i os g σ c' hst
   rw [hst] at hs
   obtain ⟨h1,LU,h2,h3⟩:=lJ h hr.kn
   obtain ⟨k,pre,post',hcs,hpre,hbody⟩:=h3
   refine hs h1 k pre post' hcs hpre fun ρ' aI a' as' w' hA hle ho hpo hr'=>?_
   have hk1:Kn.ok ρ' LU:=h2 ρ' (by
     have:=hr'.kn
     rwa [PI hst] at this) ho
   have yV:=hbody ρ' (by rw [hA.join];exact hpo)
   rw [hA.join] at yV
   exact kX hT hE hC hS hB n (c:={c' with kn:=LU}) hlen (hO.ext hA hle.1 hle.2) yV (hr'.DT hk1)
  ·rename_i b hst
   obtain ⟨ht,hf⟩:=h
   cases hb:b.den ρ with
   | true=>exact kX hT hE hC hS hB n (c:={c with kn:=iJ b true c.kn}) hlen hO (ht hb) (hr.DT (ni hb hr.kn))
   | false=>exact kX hT hE hC hS hB n (c:={c with kn:=iJ b false c.kn}) hlen hO (hf hb) (hr.DT (ni hb hr.kn))
  ·rename_i os v hst
   rw [hst] at hs
   split at h
   ·rename_i σ os' hfin
    obtain ⟨h1,LU,h2,h3⟩:=lJ h hr.kn
    refine hs (fun b hb=>h1 b (List.mem_append_left _ hb)) fun _=>?_
    unfold Pq at hfin
    simp only at hfin
    split at hfin
    case isFalse=>cases hfin
    rename_i hc
    simp only [Bool.and_eq_true,beq_iff_eq] at hc
    obtain ⟨⟨c1,c2⟩,c3⟩:=hc
    simp only [Option.map_eq_some_iff,Prod.mk.injEq] at hfin
    obtain ⟨os2,hinst,rfl,rfl⟩:=hfin
    generalize EM (Xw {lo:=E.fin.nv,az:=E.fin.hp.length} E.fin.ret v) c.hp E.fin.hp'=σ at *
    have ho2:∀o∈os2,o.den ρ=true:=fun o hm=>h1 o (List.mem_append_right _ hm)
    have hA:=σ.gM ρ ν
    rw [c1,c2] at hA
    refine ⟨σ.env ρ ν,σ.fw ρ ν,?_,by rw [Pg c3],EL hinst ho2 hr.hp,hr.wr,?_,h3⟩
    ·have h5:=hr.gM
     rw [hB.1,hB.2] at h5
     exact h5.trans hA (Nat.le_refl _) (Nat.le_refl _)
    ·intro k T' hk' hto htd
     obtain ⟨a',A,hIB⟩:=ng hinst ho2 hk' htd
     rw [hIB.fw,block_add]
     exact hr.own _ A hIB.hp (hIB.own hto) hIB.live
   ·cases h
  ·cases h
  ·cases h
end
theorem IE.EX (ρ:Env):∀e:IE,e.den ρ.num=e.den ρ:=by
 intro e
 induction e <;> simp_all [IE.den,Env.num]
theorem BE.EX (ρ:Env):∀e:BE,e.den ρ.num=e.den ρ:=by
 intro e
 induction e <;> simp_all [BE.den,IE.EX]
 ·rfl
 ·rfl
theorem Kn.X5 {ρ:Env} {kn:Kn} (h:Kn.ok ρ.num kn):Kn.ok ρ kn:=fun p hp=>by rw [←BE.EX];exact h p hp
section
variable {post:Env→Prop} {cs:mr} {Γ:List (Env→Prop)} {ρ:Env}
theorem Sat.fin {σ:Sub} (h:post (σ.ag ρ)):Sat post cs Γ ρ (.fin σ):=h
theorem Sat.br {c:BE} {t e:Out} (h1:c.den ρ=true→Sat post cs Γ ρ t) (h2:c.den ρ=false→Sat post cs Γ ρ e):Sat post cs Γ ρ (.br c t e):=⟨h1,h2⟩
theorem Sat.ob {b:BE} {k:Out} (h1:b.den ρ=true) (h2:Sat post cs Γ ρ k):Sat post cs Γ ρ (.ob b k):=⟨h1,fun _=>h2⟩
theorem Sat.alt {a b:Out} (h1:Sat post cs Γ ρ a) (h2:Sat post cs Γ ρ b):Sat post cs Γ ρ (.alt a b):=⟨h1,h2⟩
theorem Sat.new {nv:Nat} {fs:List QF} {k:Out} (h:∀e:Env,(∀f∈fs,f.den (ρ.join nv e))→Sat post cs Γ (ρ.join nv e) k):Sat post cs Γ ρ (.new nv fs k):=h
theorem Sat.loop {nv:Nat} {σ:Sub} {k:Out} (Inv:Env→Prop) (m:Env→Nat) (h0:Inv (σ.ag ρ)) (h:∀e:Env,Inv (ρ.join nv e).num→Sat post cs ((fun ρ'=>Inv ρ'∧m ρ'<m (ρ.join nv e).num) :: Γ) (ρ.join nv e) k):Sat post cs Γ ρ (.loop nv σ k):=⟨Inv,m,h0,h⟩
theorem Sat.back {i:Nat} {σ:Sub} {G:Env→Prop} (hG:Γ[i]?=some G) (h:G (σ.ag ρ)):Sat post cs Γ ρ (.back i σ):=⟨G,hG,h⟩
theorem Sat.call {g:Nat} {σ:Sub} {nv:Nat} {k:Out} {c:dX} {pre post':Env→Prop} (hc:cs[g]?=some (c,pre,post')) (h1:pre (σ.ag ρ)) (h2:∀e:Env,post' (aZ σ c.nv nv ρ (ρ.join nv e))→Sat post cs Γ (ρ.join nv e) k):Sat post cs Γ ρ (.call g σ nv k):=⟨c,pre,post',hc,h1,h2⟩
end
theorem dw {P:Program} {T:aX} (hT:dh P T) {E:Ex} {cs:mr} {inf:List (List OI)} (hE:E.cons=cs.map (·.1)) (hC:∀k pre post,(k,pre,post)∈cs→jG k=true∧bf P k pre post) (hS:jO T E.sched inf=true)
  {n:Nat} {kn:Kn} {F:dX} {out:Out} (hF:E.fin=F) (hex:exec T E n [] (fB F.f F.nv kn F.gl F.hp F.args)=out) (hf:(match T.f F.f with | some fn=>fn.body.isSome && !(fn.name == "runtime.NumGoroutine") && decide (F.args.length≤fn.ntmps) | none=>false)=true)
  {pre post:Env→Prop} (hk:∀ρ:Env,pre ρ.num→Kn.ok ρ.num kn) (hs:∀ρ:Env,pre ρ.num→Sat post cs [] ρ out):bf P F pre post:=by
 subst hF
 split at hf
 case h_2=>cases hf
 rename_i fn hfn
 simp only [Bool.and_eq_true,Bool.not_eq_true',decide_eq_true_eq] at hf
 obtain ⟨⟨hb,hname⟩,hn⟩:=hf
 have Gr:=hT.fns _ fn (hT.MH hfn)
 refine ⟨⟨fn,Gr,hb,hname⟩,fun ρ ν w gW hgl hpre=>?_⟩
 obtain ⟨body,hbody⟩:=Option.isSome_iff_exists.1 hb
 have hnt:T.ntmps E.fin.f=fn.ntmps:=by unfold aX.ntmps;rw [hfn];rfl
 have hbd:T.body E.fin.f=body:=by unfold aX.body;rw [hfn];simp [hbody]
 refine Reach.calls Gr hbody ?_
 have yV:=hs ρ hpre
 rw [←hex] at yV
 have hg:=kX (P:=P) (B:=⟨w,iN ρ ν E.fin.hp,ρ,ν,E.fin.nv,E.fin.hp.length⟩) hT hE hC hS ⟨rfl,rfl⟩ n (op:=[]) (Γ:=[]) (ρ:=ρ) (ν:=ν) (c:=fB E.fin.f E.fin.nv kn E.fin.gl E.fin.hp E.fin.args)
  (a:=({tmps:=(E.fin.args.map (·.den ρ ν)).toArray ++ Array.replicate (fn.ntmps-(E.fin.args.map (·.den ρ ν)).toArray.size) undef,defers:=[]},fun _=>True)) (aS0:=[]) (w:=w) rfl (fun i o h=>by simp at h) yV
  ⟨Nat.le_refl _,Nat.le_refl _,di.refl _ _ _ _,Kn.X5 (hk ρ hpre),hgl,gW,bU.refl _ _,fun k sb h1 h2 h3=>.inr ⟨k,sb,h1,h2,h3,rfl⟩,⟨?_,?_,rfl,fun p k sc d hc=>by cases hc⟩,trivial,fun p k sc hc=>by cases hc⟩
 ·unfold Goal dV fB at hg
  simp only [List.map_cons,List.map_nil,SI.iT,hbd,Code.at,Option.getD_some] at hg
  exact hg
 ·intro t v ht
  obtain ⟨k,x,rfl,hx,rfl⟩:=yO (ρ:=ρ) (ν:=ν) ht
  have hk:k<E.fin.args.length:=(List.getElem?_eq_some_iff.1 hx).1
  rw [Array.getD_eq_getD_getElem?,Array.getElem?_append]
  simp [hk,SV.den,(List.getElem?_eq_some_iff.1 hx).2]
 ·rw [show T.ntmps (fB E.fin.f E.fin.nv kn E.fin.gl E.fin.hp E.fin.args).top.f=fn.ntmps from hnt]
  simp
  omega
end Go.Rex
