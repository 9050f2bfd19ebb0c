/- part 8 of the proof -/
import Derived.Test.YthomdlajobnmnaaGreatDoorL7
set_option linter.unusedSimpArgs false
set_option linter.unusedVariables false
namespace Go.Rex
theorem Qg {a b:SI} (h:JC a b=true):a=b:=by cases a <;> cases b <;> simp_all [JC]
theorem qW:∀{a b:List SI},mO a b=true→a=b
 | [],[],_=>rfl
 | [],_ :: _,h=>by simp [mO] at h
 | _ :: _,[],h=>by simp [mO] at h
 | a :: r,b :: s,h=>by
  simp only [mO,Bool.and_eq_true] at h
  rw [Qg h.1,qW h.2]
theorem Em:∀{a b:List SW},rF a b=true→a=b
 | [],[],_=>rfl
 | [],_ :: _,h=>by simp [rF] at h
 | _ :: _,[],h=>by simp [rF] at h
 | a :: r,b :: s,h=>by
  simp only [rF,Bool.and_eq_true] at h
  rw [SW.aD h.1,Em h.2]
theorem SV.aD {a b:SV} (h:a.same b=true):a=b:=by
 cases a <;> cases b <;> simp only [SV.same] at h <;> try cases h
 ·rw [SW.aD h]
 ·rw [Em h]
 ·simp only [Bool.and_eq_true] at h
  rw [BE.aD h.1,SW.aD h.2]
theorem G5:∀{a b:Fr},vk a b=true→a=b
 | [],[],_=>rfl
 | [],_ :: _,h=>by simp [vk] at h
 | _ :: _,[],h=>by simp [vk] at h
 | (t,a) :: r,(u,b) :: s,h=>by
  simp only [vk,Bool.and_eq_true,beq_iff_eq] at h
  rw [h.1.1,SV.aD h.1.2,G5 h.2]
theorem eF.aD:∀{a b:eF},a.same b=true→a=b:=by
 intro a
 induction a with
 | nil c=>intro b h;cases b <;> simp [eF.same] at h;rw [DX h]
 | take i D k ih=>intro b h;cases b <;> simp [eF.same] at h;rw [h.1.1,h.1.2,ih h.2]
 | drop k ih=>intro b h;cases b <;> simp [eF.same] at h;rw [ih h]
 | solo i k ih=>intro b h;cases b <;> simp [eF.same] at h;rw [h.1,ih h.2]
 | go i k ih=>intro b h;cases b <;> simp [eF.same] at h;rw [h.1,ih h.2]
 | alt i k j l ihk ihl=>intro b h;cases b <;> simp [eF.same] at h;rw [h.1.1.1,ihk h.1.1.2,h.1.2,ihl h.2]
theorem SB.aD {a b:SB} (h:a.same b=true):a=b:=by
 obtain ⟨_,_,_,_,_,_,_,_,_,_⟩:=a
 obtain ⟨_,_,_,_,_,_,_,_,_,_⟩:=b
 simp only [SB.same,Bool.and_eq_true,beq_iff_eq] at h
 obtain ⟨⟨⟨⟨⟨⟨⟨⟨⟨h1,h2⟩,h3⟩,h4⟩,h5⟩,h6⟩,h7⟩,h8⟩,h9⟩,h10⟩:=h
 simp only [SB.mk.injEq]
 exact ⟨h7,vZ h4,lG h5,qR h6,h1,h3,wL h9,h8,h2,BE.aD h10⟩
theorem zw:∀{a b:List SB},su a b=true→a=b
 | [],[],_=>rfl
 | [],_ :: _,h=>by simp [su] at h
 | _ :: _,[],h=>by simp [su] at h
 | a :: r,b :: s,h=>by
  simp only [su,Bool.and_eq_true] at h
  rw [SB.aD h.1,zw h.2]
theorem nV.aD {a b:nV} (h:a.same b=true):a=b:=by
 cases a <;> cases b <;> simp only [nV.same] at h <;> try cases h
 ·rfl
 ·simp only [Bool.and_eq_true,beq_iff_eq] at h
  rw [h.1,h.2]
 ·simp only [Bool.and_eq_true,beq_iff_eq] at h
  rw [h.1.1.1,eF.aD h.1.1.2,zw h.1.2,h.2]
theorem aZ.aD {a b:aZ} (h:a.same b=true):a=b:=by
 obtain ⟨_,_,_,_⟩:=a
 obtain ⟨_,_,_,_⟩:=b
 simp only [aZ.same,Bool.and_eq_true,beq_iff_eq] at h
 obtain ⟨⟨⟨h1,h2⟩,h3⟩,h4⟩:=h
 rw [h1,G5 h2,nV.aD h3,qW h4]
theorem wX:∀{a b:List (aZ × Nat)},pK a b=true→a=b
 | [],[],_=>rfl
 | [],_ :: _,h=>by simp [pK] at h
 | _ :: _,[],h=>by simp [pK] at h
 | (F,i) :: r,(G,j) :: s,h=>by
  simp only [pK,Bool.and_eq_true,beq_iff_eq] at h
  rw [aZ.aD h.1.1,h.1.2,wX h.2]
theorem zx:∀{a b:List (Nat × Nat)},sD a b=true→a=b
 | [],[],_=>rfl
 | [],_ :: _,h=>by simp [sD] at h
 | _ :: _,[],h=>by simp [sD] at h
 | (x,i) :: r,(y,j) :: s,h=>by
  simp only [sD,Bool.and_eq_true,beq_iff_eq] at h
  rw [h.1.1,h.1.2,zx h.2]
theorem qw {c:nV} (h:c.isNone=true):c=.none:=by cases c <;> simp_all [nV.isNone]
theorem Tn {k:dJ} {c c':cz} {args:List SW} {σ:Sub} {os:List BE} {v:SV} (h:Iq k c args=some (σ,os,v,c')):c'.kn=c.kn:=by
 unfold Iq at h
 simp only at h
 split at h
 ·split at h
  ·cases h
  ·split at h
   ·cases h;rfl
   ·cases h
 ·cases h
theorem rM {T:aY} {E:Ex} {c c':cz} {ops:Array Oper} {i:Nat} {eG:aZ→aZ}:(∀os fs,wT T E c ops i eG=.next os fs c'→c'.kn=c.kn)∧(∀os g σ,wT T E c ops i eG=.call os g σ c'→c'.kn=c.kn)∧∀x y,wT T E c ops i eG≠.alt x y:=by
 refine ⟨fun os fs h=>?_,fun os g σ h=>?_,fun x y h=>?_⟩
 all_goals unfold wT at h
 all_goals repeat' split at h
 all_goals first | (cases h;done) | (cases h;rfl) | skip
 rename_i hby _
 cases h
 have:=Tn hby
 exact this
theorem zy {T:aY} {c c':cz} {ops:Array Oper} {i D:Nat} {p:List Nat} {k:eF} {sc:List SB}:(∀os fs,sF T c ops i D p k sc=.next os fs c'→c'.kn=c.kn)∧(∀os g σ,sF T c ops i D p k sc≠.call os g σ c')∧∀x y,sF T c ops i D p k sc≠.alt x y:=by
 refine ⟨fun os fs h=>?_,fun os g σ h=>?_,fun x y h=>?_⟩
 all_goals unfold sF at h
 all_goals repeat' split at h
 all_goals first | (cases h;done) | (cases h;rfl)
theorem Cs {T:aY} {c c':cz}:(∀os fs,tY T c=.next os fs c'→c'.kn=c.kn)∧(∀os g σ,tY T c≠.call os g σ c')∧∀x y,tY T c≠.alt x y:=by
 refine ⟨fun os fs h=>?_,fun os g σ h=>?_,fun x y h=>?_⟩
 all_goals unfold tY at h
 all_goals repeat' split at h
 all_goals try simp only at h
 all_goals repeat' split at h
 all_goals first | (cases h;done) | (cases h;rfl)
theorem FI {T:aY} {E:Ex} {c c':cz} {p:List Nat} {k:eF} {sc:List SB} {d:Bool}:(∀os fs,Ch T E c p k sc d=.next os fs c'→c'.kn=c.kn)∧(∀os g σ,Ch T E c p k sc d=.call os g σ c'→c'.kn=c.kn) ∧
  ∀x y,Ch T E c p k sc d=.alt x y→(x.nv=c.nv∧x.hp=c.hp)∧y.nv=c.nv∧y.hp=c.hp:=by
 refine ⟨fun os fs h=>?_,fun os g σ h=>?_,fun x y h=>?_⟩
 all_goals unfold Ch at h
 all_goals simp only at h
 all_goals repeat' split at h
 all_goals first | (cases h;done) | (cases h;rfl) | exact rM.1 _ _ h | exact rM.2.1 _ _ _ h | exact absurd h (rM (c':=c').2.2 _ _) | exact zy.1 _ _ h | exact absurd h (zy.2.1 _ _ _) | exact absurd h (zy (c':=c').2.2 _ _) | (cases h;exact ⟨⟨rfl,rfl⟩,rfl,rfl⟩)
theorem zz {T:aY} {E:Ex} {c c':cz}:(∀os fs,oK T E c=.next os fs c'→c'.kn=c.kn)∧(∀os g σ,oK T E c=.call os g σ c'→c'.kn=c.kn) ∧
  ∀x y,oK T E c=.alt x y→(x.nv=c.nv∧x.hp=c.hp)∧y.nv=c.nv∧y.hp=c.hp:=by
 refine ⟨fun os fs h=>?_,fun os g σ h=>?_,fun x y h=>?_⟩
 all_goals unfold oK at h
 all_goals simp only at h
 all_goals repeat' split at h
 all_goals first | (cases h;done) | (cases h;rfl) | exact rM.1 _ _ h | exact rM.2.1 _ _ _ h | exact absurd h (rM (c':=c').2.2 _ _) | exact FI.1 _ _ h | exact FI.2.1 _ _ _ h | exact FI (c':=c').2.2 _ _ h | exact Cs.1 _ _ h | exact absurd h (Cs.2.1 _ _ _) | exact absurd h (Cs (c':=c').2.2 _ _)
theorem Tp {T:aY} {E:Ex} {c c':cz} {os:List BE} {fs:List QF} (h:oK T E c=.next os fs c'):c'.kn=c.kn:=zz.1 _ _ h
theorem Qh {T:aY} {E:Ex} {c c':cz} {os:List BE} {g:Nat} {σ:Sub} (h:oK T E c=.call os g σ c'):c'.kn=c.kn:=zz.2.1 _ _ _ h
theorem nX {T:aY} {E:Ex} {c x y:cz} (h:oK T E c=.alt x y):x.nv=c.nv∧x.hp=c.hp∧y.nv=c.nv∧y.hp=c.hp:=by
 obtain ⟨⟨a,b⟩,c,d⟩:=zz (c':=x).2.2 _ _ h
 exact ⟨a,b,c,d⟩
section
variable {P:Program} {T:aY} {B:wU} {R:Ending→World→Prop} {E:Ex} {cs:mY} {inf:List (List OI)} {post:Env→Prop}
theorem Qi {σ:Sub} {ρ:Env} {ν:Nat→Addr} {fr:Fr} {a:Act} (hf:nJ ρ ν fr a):∀{l:Fr},Vl σ fr l=true→nJ (σ.env ρ ν) (σ.fA ρ ν) l a
 | [],_=>fun t v h=>by simp [assoc] at h
 | (t,v) :: r,h=>by
  simp only [Vl,Bool.and_eq_true] at h
  intro u x hx
  unfold assoc at hx
  split at hx
  ·rename_i he
   simp only [beq_iff_eq] at he
   subst he
   simp at hx
   subst hx
   obtain ⟨h1,-⟩:=h
   split at h1
   ·rename_i y hy
    rw [PO h1]
    exact hf _ y hy
   ·cases h1
  ·exact Qi hf h.2 u x hx
structure YB (P:Program) (T:aY) (B:wU) (R:Ending→World→Prop) (o:Bo) (G:Env→Prop) (ρ:Env) (ν:Nat→Addr) (nv n:Nat):Prop where
 lo:B.nv≤o.lo∧o.lo≤nv∧o.lo≤o.cT.nv
 az:B.n≤o.az∧o.az≤n∧o.az≤o.cT.hp.length
 sc:BO o.lo o.cT.kn=true∧Ce o.az o.cT.gl=true∧wR o.lo o.az o.cT.dE=true
 goal:∃Mv Qj,dC o.lo o.az Mv ρ Qj ν∧Kn.ok Mv o.cT.kn∧∀ρ' aI a aS0 w,dC o.lo o.az Mv ρ' Qj aI→Rel T B ρ' aI o.cT a aS0 w→G ρ'.num→Goal P T R o.cT a aS0 w
def Iw (P:Program) (T:aY) (B:wU) (R:Ending→World→Prop) (op:List Bo) (Γ:List (Env→Prop)) (ρ:Env) (ν:Nat→Addr) (nv n:Nat):Prop :=
 ∀(i:Nat) (o:Bo),op[i]?=some o→∀G,Γ[i]?=some G→YB P T B R o G ρ ν nv n
theorem Iw.ext {op:List Bo} {Γ:List (Env→Prop)} {ρ ρ':Env} {ν aI:Nat→Addr} {nv n iC n':Nat} (h:Iw P T B R op Γ ρ ν nv n) (hA:dC nv n ρ ρ' ν aI) (h1:nv≤iC) (h2:n≤n'):Iw P T B R op Γ ρ' aI iC n':=by
 intro i o hi G hG
 obtain ⟨lo,az,sc,Mv,Qj,q1,q2,q3⟩:=h i o hi G hG
 exact ⟨⟨lo.1,Nat.le_trans lo.2.1 h1,lo.2.2⟩,⟨az.1,Nat.le_trans az.2.1 h2,az.2.2⟩,sc,Mv,Qj,q1.trans hA lo.2.1 az.2.1,q2,q3⟩
theorem J4 {ρ:Env} {ν:Nat→Addr} {lo az:Nat} {cT c:cz} {σ:Sub} {os:List BE} {a:AS} {aS0:List AS} {w:World} (h:Ip lo az cT c=some (σ,os)) (ho:∀o∈os,o.den ρ=true) (hr:Rel T B ρ ν c a aS0 w)
  (h1:B.nv≤lo∧lo≤cT.nv) (h2:B.n≤az∧az≤cT.hp.length) (hs:BO lo cT.kn=true∧Ce az cT.gl=true∧wR lo az cT.dE=true) (hk:Kn.ok ρ cT.kn) :
  Rel T B (σ.env ρ ν) (σ.fA ρ ν) cT a aS0 w∧dC lo az ρ (σ.env ρ ν) ν (σ.fA ρ ν)∧(Goal P T R cT a aS0 w→Goal P T R c a aS0 w):=by
 unfold Ip at h
 simp only at h
 split at h
 case isFalse=>cases h
 rename_i hc
 simp only [Bool.and_eq_true,beq_iff_eq] at hc
 obtain ⟨⟨⟨⟨⟨⟨⟨⟨c1,c2⟩,c3⟩,c4⟩,c5⟩,c6⟩,c7⟩,c8⟩,c9⟩:=hc
 simp only [Option.map_eq_some_iff,Prod.mk.injEq] at h
 obtain ⟨os',hinst,rfl,rfl⟩:=h
 generalize Fz (Yi {lo:=lo,az:=az} c.top.fr cT.top.fr) c.hp cT.hp=σ at *
 have hA:dC lo az ρ (σ.env ρ ν) ν (σ.fA ρ ν):=by
  have:=σ.gZ ρ ν
  rw [c1,c2] at this
  exact this
 have Qk:=qw c4
 have YC:=qw c5
 have YD:=wX c7
 have hgl:=zx c8
 have htodo:=qW c6
 refine ⟨⟨Nat.le_trans h1.1 h1.2,Nat.le_trans h2.1 h2.2,hr.gZ.trans hA h1.1 h2.1,Dz hA hs.1 hk,?_,Fy hinst ho hr.hp,hr.wr,?_,⟨Qi hr.top.fr c9,by rw [c3];exact hr.top.tmps,hr.top.defers,fun p k sc d hc=>by rw [Qk] at hc;cases hc⟩,?_,fun p k sc hc=>by rw [Qk] at hc;cases hc⟩,hA,?_⟩
 ·refine iF.ext hA hs.2.1 ?_
  rw [hgl];exact hr.gl
 ·intro k T' hk' hto htd
  obtain ⟨a',A,hB⟩:=nL hinst ho hk' htd
  rw [hB.fA,block_add]
  exact hr.own _ A hB.hp (hB.own hto) hB.live
 ·refine zi.ext hA hs.2.2 ?_
  rw [YD];exact hr.dE
 ·intro hg
  unfold Goal at hg ⊢
  rw [YD] at hg
  exact yg c3.symm htodo.symm (YC.trans Qk.symm) hg
theorem l8 {Γ:List (Env→Prop)} {ρ:Env}:∀{os:List BE} {kn:Kn} {k:Kn→Out},Sat post cs Γ ρ (oL kn os k)→Kn.ok ρ kn →
  (∀b∈os,b.den ρ=true)∧∃G6,(∀ρ':Env,Kn.ok ρ' kn→(∀b∈os,b.den ρ'=true)→Kn.ok ρ' G6)∧Sat post cs Γ ρ (k G6)
 | [],kn,k,h,_=>⟨by simp,kn,fun _ h _=>h,h⟩
 | b :: r,kn,k,h,hk=>by
  unfold oL at h
  split at h
  ·rename_i hd
   obtain ⟨h1,G6,h2,h3⟩:=l8 h hk
   refine ⟨fun x hx=>?_,G6,fun ρ' a b=>h2 ρ' a (fun x hx=>b x (by simp [hx])),h3⟩
   rcases List.mem_cons.1 hx with rfl | hx
   ·exact BE.dz hk hd
   ·exact h1 x hx
  ·cases h
  ·obtain ⟨h0,h⟩:=h
   obtain ⟨h1,G6,h2,h3⟩:=l8 (h h0) (nM h0 hk)
   refine ⟨fun x hx=>?_,G6,fun ρ' a c=>h2 ρ' (nM (c b (by simp)) a) (fun x hx=>c x (by simp [hx])),h3⟩
   rcases List.mem_cons.1 hx with rfl | hx
   ·exact h0
   ·exact h1 x hx
theorem FJ {ρ:Env}:∀{fs:List QF} {kn:Kn},Kn.ok ρ kn→(∀f∈fs,f.den ρ)→Kn.ok ρ (JF kn fs)
 | [],_,h,_=>h
 | .be b :: r,kn,h,hf=>FJ (fs:=r) (nM (hf (.be b) (by simp)) h) fun f hm=>hf f (by simp [hm])
 | .cat .. :: r,kn,h,hf=>FJ (fs:=r) h fun f hm=>hf f (by simp [hm])
theorem Rel.En {ρ:Env} {ν:Nat→Addr} {c:cz} {a:AS} {aS0:List AS} {w:World} (h:Rel T B ρ ν c a aS0 w) {kn:Kn} (hk:Kn.ok ρ kn):Rel T B ρ ν {c with kn:=kn} a aS0 w :=
 ⟨h.nv,h.n,h.gZ,hk,h.gl,h.hp,h.wr,h.own,h.top,h.dE,h.held⟩
theorem Ql {ρ:Env} {ν:Nat→Addr} {c:cz} {a:AS} {aS0:List AS} {w:World} {L:iK} {todo:List SI} (h:JD T E c=some (L,todo)) (hr:Rel T B ρ ν c a aS0 w) :
  Rel T B ρ ν {c with top:={c.top with todo:=todo}} a aS0 w∧(Goal P T R {c with top:={c.top with todo:=todo}} a aS0 w→Goal P T R c a aS0 w):=by
 unfold JD at h
 split at h
 case h_2=>cases h
 rename_i p k bY htodo
 split at h
 case h_2=>cases h
 split at h
 case h_2=>cases h
 rename_i x hat
 simp only [Option.some.injEq,Prod.mk.injEq] at h
 obtain ⟨-,rfl⟩:=h
 refine ⟨⟨hr.nv,hr.n,hr.gZ,hr.kn,hr.gl,hr.hp,hr.wr,hr.own,⟨hr.top.fr,hr.top.tmps,hr.top.defers,fun p k sc d hc=>by rw [show c.top.cur=.none from bY] at hc;cases hc⟩,hr.dE,fun p k sc hc=>by rw [show c.top.cur=.none from bY] at hc;cases hc⟩,fun hg=>?_⟩
 unfold Goal dX at hg ⊢
 simp only [bY] at hg ⊢
 rw [htodo]
 simp only [List.map_cons,SI.jc,pO hat,Code.at,Option.getD_some,hat] at hg ⊢
 exact Reach.step (fun b cs=>step_loop) hg
theorem Qm {ρ:Env} {ν:Nat→Addr} {c:cz} {a:AS} {aS0:List AS} {w:World} {todo:List SI} (h:JE E c=some todo) (hr:Rel T B ρ ν c a aS0 w) :
  Rel T B ρ ν {c with top:={c.top with todo:=todo}} a aS0 w∧(Goal P T R {c with top:={c.top with todo:=todo}} a aS0 w→Goal P T R c a aS0 w):=by
 unfold JE at h
 split at h
 case h_2=>cases h
 rename_i p k bY htodo
 split at h
 case h_2=>cases h
 simp only [Option.some.injEq] at h
 subst h
 refine ⟨⟨hr.nv,hr.n,hr.gZ,hr.kn,hr.gl,hr.hp,hr.wr,hr.own,⟨hr.top.fr,hr.top.tmps,hr.top.defers,fun p k sc d hc=>by rw [show c.top.cur=.none from bY] at hc;cases hc⟩,hr.dE,fun p k sc hc=>by rw [show c.top.cur=.none from bY] at hc;cases hc⟩,fun hg=>?_⟩
 unfold Goal dX at hg ⊢
 simp only [bY] at hg ⊢
 rw [htodo]
 exact Reach.step (fun b cs=>step_inLoop) hg
theorem Eo {c:cz}:∀{l:List Bo} {i j:Nat} {o:Bo},vw c l i=some (j,o)→i≤j∧l[j-i]?=some o
 | [],_,_,_,h=>by simp [vw] at h
 | x :: r,i,j,o,h=>by
  unfold vw at h
  split at h
  ·simp only [Option.some.injEq,Prod.mk.injEq] at h
   obtain ⟨rfl,rfl⟩:=h
   exact ⟨Nat.le_refl _,by simp⟩
  ·obtain ⟨h1,h2⟩:=Eo h
   refine ⟨by omega,?_⟩
   rw [show j-i=(j-(i+1))+1 by omega]
   simpa using h2
theorem Qn {L:iK} {c cT:cz} {todo:List SI} (h:JB T L c todo=some cT):cT.kn=c.kn∧cT.gl=c.gl∧cT.dE=c.dE:=by
 unfold JB at h
 split at h
 ·cases h
 split at h
 ·cases h
 simp only [Option.some.injEq] at h
 subst h
 exact ⟨rfl,rfl,rfl⟩
def uH (F:dJ) (B:wU) (post:Env→Prop) (e:Ending) (w':World):Prop :=
 ∃ρ' aI,dC F.nv F.hp.length B.ρ ρ' B.ν aI∧e=.returned (F.ret.den ρ' aI)∧aH ρ' aI F.hp' w'∧bC B.w B.W w'∧kg B.w.heap.size B.W ρ' aI F.hp'∧post ρ'.num
theorem G7:∀{a b:Kn},vz a b=true→a=b
 | [],[],_=>rfl
 | [],_ :: _,h=>by simp [vz] at h
 | _ :: _,[],h=>by simp [vz] at h
 | (x,t) :: r,(y,u) :: s,h=>by
  simp only [vz,Bool.and_eq_true,beq_iff_eq] at h
  obtain ⟨⟨h1,h2⟩,h3⟩:=h
  rw [BE.aD h1,h2,G7 h3]
theorem Ep {x y:Fr} {t:Nat} {v:SV} (h:assoc t (FE x y)=some v):assoc t x=some v∧assoc t y=some v:=by
 have hm:=jI h
 unfold FE at hm
 simp only [List.mem_filter,Bool.and_eq_true] at hm
 obtain ⟨-,h1,h2⟩:=hm
 refine ⟨?_,?_⟩
 ·split at h1
  ·rename_i u hu
   rw [←SV.aD h1];exact hu
  ·cases h1
 ·split at h2
  ·rename_i u hu
   rw [←SV.aD h2];exact hu
  ·cases h2
theorem Mw {ρ:Env} {ν:Nat→Addr} {x y:cz} {a:AS} {aS0:List AS} {w:World} (h:rH x y=true) (hr:Rel T B ρ ν x a aS0 w) :
  Rel T B ρ ν (nA x y) a aS0 w∧(Goal P T R (nA x y) a aS0 w→Goal P T R x a aS0 w):=by
 simp only [rH,Bool.and_eq_true,beq_iff_eq] at h
 obtain ⟨⟨⟨⟨⟨⟨⟨⟨h1,h2⟩,h3⟩,h4⟩,h5⟩,h6⟩,h7⟩,h8⟩,h9⟩:=h
 have hx:=qw h6
 refine ⟨⟨hr.nv,hr.n,hr.gZ,hr.kn,hr.gl,hr.hp,hr.wr,hr.own,⟨fun t v ht=>hr.top.fr t v (Ep ht).1,hr.top.tmps,hr.top.defers,hr.top.held⟩,hr.dE,hr.held⟩,fun hg=>?_⟩
 unfold Goal dX at hg ⊢
 simp only [nA,hx] at hg ⊢
 exact hg
theorem Mx {ρ:Env} {ν:Nat→Addr} {x y:cz} {a:AS} {aS0:List AS} {w:World} (h:rH x y=true) (hr:Rel T B ρ ν y a aS0 w) :
  Rel T B ρ ν (nA x y) a aS0 w∧(Goal P T R (nA x y) a aS0 w→Goal P T R y a aS0 w)∧y.nv=(nA x y).nv∧y.hp=(nA x y).hp:=by
 simp only [rH,Bool.and_eq_true,beq_iff_eq] at h
 obtain ⟨⟨⟨⟨⟨⟨⟨⟨h1,h2⟩,h3⟩,h4⟩,h5⟩,h6⟩,h7⟩,h8⟩,h9⟩:=h
 have hx:=qw h6
 have hy:=qw h7
 replace h2:=G7 h2
 replace h3:=zx h3
 replace h4:=zw h4
 replace h8:=qW h8
 replace h9:=wX h9
 refine ⟨⟨by show B.nv≤x.nv;rw [h1];exact hr.nv,by show B.n≤x.hp.length;rw [h4];exact hr.n,hr.gZ,by show Kn.ok ρ x.kn;rw [h2];exact hr.kn,by show iF ν x.gl;rw [h3];exact hr.gl,by show aH ρ ν x.hp w;rw [h4];exact hr.hp,hr.wr,by show kg _ _ ρ ν x.hp;rw [h4];exact hr.own,⟨fun t v ht=>hr.top.fr t v (Ep ht).2,by show T.ntmps x.top.f≤_;rw [h5];exact hr.top.tmps,hr.top.defers,fun p k sc d hc=>(by
     have hc:x.top.cur=.dr p k sc d:=hc
     rw [hx] at hc;cases hc)⟩,by show zi T ρ ν x.dE aS0;rw [h9];exact hr.dE,fun p k sc hc=>(by
     have hc:x.top.cur=.dr p k sc false:=hc
     rw [hx] at hc;cases hc)⟩,fun hg=>?_,h1.symm,h4.symm⟩
 unfold Goal dX at hg ⊢
 simp only [nA,hx] at hg
 simp only [hy]
 rw [←h5,←h8,←h9]
 exact hg
theorem Tq {ρ:Env} {kn:Kn} {os:List BE} (hk:Kn.ok ρ kn) (h:Vm kn os=true):∀b∈os,b.den ρ=true:=by
 intro b hb
 have:=List.all_eq_true.1 h b hb
 split at this
 ·rename_i hd
  exact BE.dz hk hd
 ·cases this
theorem Tt {ρ:Env} {ν:Nat→Addr} {c:cz} {a:AS} {aS0:List AS} {w:World} {fl m:Nat} (hB:B.n≤fl) (hf:fl≤c.hp.length) (hr:Rel T B ρ ν c a aS0 w) :
  Rel T B ρ ν (vB fl m c) a aS0 w∧(Goal P T R (vB fl m c) a aS0 w→Goal P T R c a aS0 w)∧(vB fl m c).nv=c.nv∧fl≤(vB fl m c).hp.length:=by
 unfold vB
 split
 ·rename_i hc
  simp only [Bool.and_eq_true,Nat.blt_eq,Nat.ble_eq] at hc
  obtain ⟨⟨⟨h1,h2⟩,h3⟩,-⟩:=hc
  have hat:∀(k:Nat) (sb:SB),(c.hp.take m)[k]?=some sb→c.hp[k]?=some sb:=fun k sb hk=>by
   rw [List.getElem?_take] at hk
   split at hk
   ·exact hk
   ·cases hk
  have hlen:(c.hp.take m).length=m:=by rw [List.length_take];omega
  refine ⟨⟨hr.nv,by show B.n≤(c.hp.take m).length;omega,hr.gZ,hr.kn,hr.gl,⟨fun i j x y hi hj=>hr.hp.inj i j x y (hat i x hi) (hat j y hj),fun k sb hk=>hr.hp.aC k sb (hat k sb hk),fun k sb hk=>hr.hp.rd k sb (hat k sb hk)⟩,hr.wr,fun k sb hk=>hr.own k sb (hat k sb hk),hr.top,hr.dE,fun p k sc bY=>?_⟩,fun hg=>hg,rfl,by show fl≤(c.hp.take m).length;omega⟩
  have bY:c.top.cur=.dr p k sc false:=bY
  unfold P6 at h3
  rw [bY] at h3
  exact h3
 ·exact ⟨hr,fun hg=>hg,rfl,hf⟩
theorem N8 {ρ:Env} {ν:Nat→Addr} {c c':cz} {a:AS} {aS0:List AS} {w:World} {fl:Nat} {ls:List Nat} (hB:B.n≤fl) (hf:fl≤c'.hp.length) (hr:Rel T B ρ ν c' a aS0 w) :
  Rel T B ρ ν (rJ fl c ls c').1 a aS0 w∧(Goal P T R (rJ fl c ls c').1 a aS0 w→Goal P T R c' a aS0 w)∧(rJ fl c ls c').1.nv=c'.nv∧fl≤(rJ fl c ls c').1.hp.length:=by
 unfold rJ
 split
 ·exact ⟨hr,fun hg=>hg,rfl,hf⟩
 ·split
  ·split
   ·exact Tt hB hf hr
   ·exact ⟨hr,fun hg=>hg,rfl,hf⟩
  ·exact ⟨hr,fun hg=>hg,rfl,hf⟩
theorem vC (hT:dA P T) (hE:E.cons=cs.map (·.1)) (hC:∀k pre post,(k,pre,post)∈cs→jM k=true∧aV P k pre post) (hS:jZ T E.sched inf=true) {R:Ending→World→Prop} {ρ:Env} {d fl:Nat} (hB:B.n≤fl) :
  ∀(n:Nat) {ls:List Nat} {c z:cz} {ν:Nat→Addr} {a:AS} {aS0:List AS} {w:World},zg T E d fl n ls c=some z→fl≤c.hp.length→Rel T B ρ ν c a aS0 w →
   (∀aI a' as' w',dC c.nv fl ρ ρ ν aI→c.nv≤z.nv→fl≤z.hp.length→Rel T B ρ aI z a' as' w'→Goal P T R z a' as' w')→Goal P T R c a aS0 w
 | 0,_,_,_,_,_,_,_,h,_,_,_=>by simp [zg] at h
 | n+1,ls,c,z,ν,a,aS0,w,h,hf,hr,hc=>by
  unfold zg at h
  have hs:=J3 (P:=P) (R:=R) (E:=E) hT hE hC hS hr
  split at h
  ·rename_i os fs c' hst
   rw [hst] at hs
   split at h
   ·rename_i hb
    simp only [Bool.and_eq_true,List.isEmpty_iff] at hb
    refine hs (Tq hr.kn hb.2) fun ρ' aI a' as' w' hA hfs hle ho I9 hr'=>?_
    obtain rfl:=hfs hb.1
    split at h
    rename_i c2 ls2 hcl
    obtain ⟨k1,k2,k3,k4⟩:=N8 (P:=P) (R:=R) (c:=c) (ls:=ls) hB (Nat.le_trans hf hle.2) hr'
    rw [hcl] at k1 k2 k3 k4
    apply k2
    have hA':dC c.nv fl ρ' ρ' ν aI:=⟨fun i hi=>hA.iv i hi,fun i hi=>hA.bv i hi,fun i hi=>hA.vv i hi,fun i hi=>hA.ic i hi,fun i hi=>hA.bc i hi,fun i hi=>hA.vc i hi,fun i hi=>hA.bl i (Nat.lt_of_lt_of_le hi hf)⟩
    split at h
    ·cases h
     exact hc aI a' as' w' hA' (by rw [k3];exact hle.1) k4 k1
    ·refine vC hT hE hC hS hB n h k4 k1 fun Er a2 Es w2 hA2 l1 l2 hr2=>?_
     rw [k3] at hA2 l1
     exact hc Er a2 Es w2 (hA'.trans hA2 hle.1 (Nat.le_refl _)) (Nat.le_trans hle.1 l1) l2 hr2
   ·cases h
  ·rename_i x y hst
   rw [hst] at hs
   obtain ⟨e1,e2,e3,e4⟩:=nX hst
   split at h
   ·rename_i x' y' hx hy
    split at h
    ·rename_i hm
     cases h
     refine hs (fun hr'=>vC hT hE hC hS hB n hx (by rw [e2];exact hf) hr' fun Er a2 Es w2 hA l1 l2 hr2=>?_) (fun hr'=>vC hT hE hC hS hB n hy (by rw [e4];exact hf) hr' fun Er a2 Es w2 hA l1 l2 hr2=>?_)
     ·obtain ⟨m1,m2⟩:=Mw (P:=P) (R:=R) hm hr2
      rw [e1] at hA l1
      exact m2 (hc Er a2 Es w2 hA l1 l2 m1)
     ·obtain ⟨m1,m2,m3,m4⟩:=Mx (P:=P) (R:=R) hm hr2
      rw [e3] at hA
      rw [e3,m3] at l1
      rw [m4] at l2
      exact m2 (hc Er a2 Es w2 hA l1 l2 m1)
    ·cases h
   ·cases h
  ·cases h
theorem lJ (hT:dA P T) (hE:E.cons=cs.map (·.1)) (hC:∀k pre post,(k,pre,post)∈cs→jM k=true∧aV P k pre post) (hS:jZ T E.sched inf=true) (hB:B.nv=E.fin.nv∧B.n=E.fin.hp.length) :
  ∀(n:Nat) {op:List Bo} {Γ:List (Env→Prop)} {ρ:Env} {ν:Nat→Addr} {c:cz} {a:AS} {aS0:List AS} {w:World},op.length=Γ.length→Iw P T B (uH E.fin B post) op Γ ρ ν c.nv c.hp.length→Sat post cs Γ ρ (exec T E n op c)→Rel T B ρ ν c a aS0 w →
   Goal P T (uH E.fin B post) c a aS0 w
 | 0,op,Γ,ρ,ν,c,a,aS0,w,_,_,h,hr=>by cases h
 | n+1,op,Γ,ρ,ν,c,a,aS0,w,hlen,hO,h,hr=>by
  unfold exec at h
  rw [cz.norm_eq] at h
  split at h
  ·
   rename_i L todo hat
   obtain ⟨hr1,hgo⟩:=Ql (P:=P) (R:=uH E.fin B post) hat hr
   split at h
   ·cases h
   rename_i cT htm
   split at h
   ·cases h
   rename_i σ os hinst
   split at h
   case isFalse=>cases h
   rename_i hsc
   simp only [Bool.and_eq_true,Nat.ble_eq] at hsc
   obtain ⟨⟨⟨hsc1,hsc2⟩,hle1⟩,hle2⟩:=hsc
   obtain ⟨hos,G6,hkn',h'⟩:=l8 h hr.kn
   obtain ⟨Inv,m,hI,hbody⟩:=h'
   obtain ⟨t1,t2,t3⟩:=Qn htm
   have zt:=hsc1
   simp only [cz.sc,Bool.and_eq_true] at zt
   obtain ⟨⟨⟨⟨s1,s2⟩,s3⟩,s4⟩,s5⟩:=zt
   have YE:BO c.nv cT.kn=true∧Ce c.hp.length cT.gl=true∧wR c.nv c.hp.length cT.dE=true:=by rw [t1,t2,t3];exact ⟨s1,s5,s4⟩
   have hkT:Kn.ok ρ cT.kn:=by rw [t1];exact hr.kn
   obtain ⟨YF,YG,hback⟩:=J4 (P:=P) (R:=uH E.fin B post) hinst hos hr1 ⟨hr.nv,hle1⟩ ⟨hr.n,hle2⟩ YE hkT
   apply hgo
   apply hback
   have main:∀(M:Nat) (ρ':Env) (aI:Nat→Addr) (a:AS) (aS0:List AS) (w:World),dC c.nv c.hp.length ρ ρ' ν aI→Rel T B ρ' aI cT a aS0 w→Inv ρ'.num→m ρ'.num=M→Goal P T (uH E.fin B post) cT a aS0 w:=by
    intro M
    induction M using Nat.strongRecOn with
    | ind M ih =>
     intro ρ' aI a aS0 w hA hrel hinv hm
     have hj:=hA.join
     have zA:=hbody ρ' (by rw [hj];exact hinv)
     rw [hj] at zA
     refine lJ hT hE hC hS hB n (op:=⟨c.nv,c.hp.length,cT⟩ :: op) (Γ:=(fun Jf=>Inv Jf∧m Jf<m ρ'.num) :: Γ) (by simp [hlen]) ?_ zA hrel
     intro i o hi G hG
     cases i with
     | zero =>
      simp at hi hG
      subst hi hG
      refine ⟨⟨hr.nv,hle1,hle1⟩,⟨hr.n,hle2,hle2⟩,YE,ρ,ν,hA,hkT,fun ρ2 Er a2 Es w2 hA2 hr2 hG2=>?_⟩
      exact ih _ (by rw [←hm];exact hG2.2) ρ2 Er a2 Es w2 hA2 hr2 hG2.1 rfl
     | succ i =>
      have:=(hO.ext hA hle1 hle2) i o (by simpa using hi) G (by simpa using hG)
      exact this
   exact main _ _ _ a aS0 w YG YF hI rfl
  split at h
  ·
   rename_i todo hat
   obtain ⟨hr1,hgo⟩:=Qm (P:=P) (R:=uH E.fin B post) hat hr
   split at h
   ·cases h
   rename_i i o hfind
   split at h
   ·cases h
   rename_i σ os hinst
   obtain ⟨hos,G6,hkn',h'⟩:=l8 h hr.kn
   obtain ⟨G,hG,hGn⟩:=h'
   obtain ⟨-,hio⟩:=Eo hfind
   rw [Nat.sub_zero] at hio
   obtain ⟨lo,az,sc,Mv,Qj,q1,q2,q3⟩:=hO i o hio G hG
   obtain ⟨YF,YG,hback⟩:=J4 (P:=P) (R:=uH E.fin B post) hinst hos hr1 ⟨lo.1,lo.2.2⟩ ⟨az.1,az.2.2⟩ sc (Dz q1 sc.1 q2)
   apply hgo
   apply hback
   exact q3 _ _ a aS0 w (q1.trans YG (Nat.le_refl _) (Nat.le_refl _)) YF hGn
  have hs:=J3 (P:=P) (R:=uH E.fin B post) (E:=E) hT hE hC hS hr
  split at h
  ·rename_i os fs c' hst
   rw [hst] at hs
   obtain ⟨h1,MB,h2,h3⟩:=l8 h hr.kn
   refine hs h1 fun ρ' aI a' as' w' hA hfs hle ho hf hr'=>?_
   have hk1:Kn.ok ρ' MB:=h2 ρ' (by
     have:=hr'.kn
     rwa [Tp hst] at this) ho
   have hk2:=FJ hk1 hf
   have hO':=hO.ext hA hle.1 hle.2
   refine lJ hT hE hC hS hB n (c:={c' with kn:=JF MB fs}) hlen hO' ?_ (hr'.En hk2)
   unfold Mm at h3
   split at h3
   ·rw [hfs rfl];exact h3
   ·have:=h3 ρ' (by rw [hA.join];exact hf)
    rw [hA.join] at this
    exact this
  ·rename_i x y hst
   rw [hst] at hs
   obtain ⟨e1,e2,e3,e4⟩:=nX hst
   split at h
   ·rename_i z hz
    unfold JG at hz
    split at hz
    case isFalse=>cases hz
    split at hz
    case h_2=>cases hz
    rename_i x' y' hx hy
    split at hz
    case isFalse=>cases hz
    rename_i hm
    cases hz
    refine hs (fun hr'=>vC hT hE hC hS hr.n n hx (by rw [e2];exact Nat.le_refl _) hr' fun Er a2 Es w2 hA l1 l2 hr2=>?_) (fun hr'=>vC hT hE hC hS hr.n n hy (by rw [e4];exact Nat.le_refl _) hr' fun Er a2 Es w2 hA l1 l2 hr2=>?_)
    ·obtain ⟨m1,m2⟩:=Mw (P:=P) (R:=uH E.fin B post) hm hr2
     rw [e1] at hA l1
     exact m2 (lJ hT hE hC hS hB n hlen (hO.ext hA l1 l2) h m1)
    ·obtain ⟨m1,m2,m3,m4⟩:=Mx (P:=P) (R:=uH E.fin B post) hm hr2
     rw [e3] at hA
     rw [e3,m3] at l1
     rw [m4] at l2
     exact m2 (lJ hT hE hC hS hB n hlen (hO.ext hA l1 l2) h m1)
   exact hs (fun hr'=>lJ hT hE hC hS hB n hlen (hO.ext (dC.refl _ _ _ _) (by rw [(nX hst).1];exact Nat.le_refl _) (by rw [(nX hst).2.1];exact Nat.le_refl _)) h.1 hr')
    (fun hr'=>lJ hT hE hC hS hB n hlen (hO.ext (dC.refl _ _ _ _) (by rw [(nX hst).2.2.1];exact Nat.le_refl _) (by rw [(nX hst).2.2.2];exact Nat.le_refl _)) h.2 hr')
  ·rename_i os g σ c' hst
   rw [hst] at hs
   obtain ⟨h1,MB,h2,h3⟩:=l8 h hr.kn
   obtain ⟨k,pre,post',hcs,hpre,hbody⟩:=h3
   refine hs h1 k pre post' hcs hpre fun ρ' aI a' as' w' hA hle ho hpo hr'=>?_
   have hk1:Kn.ok ρ' MB:=h2 ρ' (by
     have:=hr'.kn
     rwa [Qh hst] at this) ho
   have zA:=hbody ρ' (by rw [hA.join];exact hpo)
   rw [hA.join] at zA
   exact lJ hT hE hC hS hB n (c:={c' with kn:=MB}) hlen (hO.ext hA hle.1 hle.2) zA (hr'.En hk1)
  ·rename_i b hst
   obtain ⟨ht,hf⟩:=h
   cases hb:b.den ρ with
   | true=>exact lJ hT hE hC hS hB n (c:={c with kn:=iQ b true c.kn}) hlen hO (ht hb) (hr.En (nM hb hr.kn))
   | false=>exact lJ hT hE hC hS hB n (c:={c with kn:=iQ b false c.kn}) hlen hO (hf hb) (hr.En (nM hb hr.kn))
  ·rename_i os v hst
   rw [hst] at hs
   split at h
   ·rename_i σ os' hfin
    obtain ⟨h1,MB,h2,h3⟩:=l8 h hr.kn
    refine hs (fun b hb=>h1 b (List.mem_append_left _ hb)) fun _=>?_
    unfold P5 at hfin
    simp only at hfin
    split at hfin
    case isFalse=>cases hfin
    rename_i hc
    simp only [Bool.and_eq_true,beq_iff_eq] at hc
    obtain ⟨⟨c1,c2⟩,c3⟩:=hc
    simp only [Option.map_eq_some_iff,Prod.mk.injEq] at hfin
    obtain ⟨os2,hinst,rfl,rfl⟩:=hfin
    generalize Fz (Ya {lo:=E.fin.nv,az:=E.fin.hp.length} E.fin.ret v) c.hp E.fin.hp'=σ at *
    have ho2:∀o∈os2,o.den ρ=true:=fun o hm=>h1 o (List.mem_append_right _ hm)
    have hA:=σ.gZ ρ ν
    rw [c1,c2] at hA
    refine ⟨σ.env ρ ν,σ.fA ρ ν,?_,by rw [PO c3],Fy hinst ho2 hr.hp,hr.wr,?_,h3⟩
    ·have h5:=hr.gZ
     rw [hB.1,hB.2] at h5
     exact h5.trans hA (Nat.le_refl _) (Nat.le_refl _)
    ·intro k T' hk' hto htd
     obtain ⟨a',A,hIB⟩:=nL hinst ho2 hk' htd
     rw [hIB.fA,block_add]
     exact hr.own _ A hIB.hp (hIB.own hto) hIB.live
   ·cases h
  ·cases h
  ·cases h
end
theorem IE.FL (ρ:Env):∀e:IE,e.den ρ.num=e.den ρ:=by
 intro e
 induction e <;> simp_all [IE.den,Env.num]
theorem BE.FL (ρ:Env):∀e:BE,e.den ρ.num=e.den ρ:=by
 intro e
 induction e <;> simp_all [BE.den,IE.FL]
 ·rfl
 ·rfl
theorem Kn.YH {ρ:Env} {kn:Kn} (h:Kn.ok ρ.num kn):Kn.ok ρ kn:=fun p hp=>by rw [←BE.FL];exact h p hp
section
variable {post:Env→Prop} {cs:mY} {Γ:List (Env→Prop)} {ρ:Env}
theorem Sat.fin {σ:Sub} (h:post (σ.ag ρ)):Sat post cs Γ ρ (.fin σ):=h
theorem Sat.br {c:BE} {t e:Out} (h1:c.den ρ=true→Sat post cs Γ ρ t) (h2:c.den ρ=false→Sat post cs Γ ρ e):Sat post cs Γ ρ (.br c t e):=⟨h1,h2⟩
theorem Sat.ob {b:BE} {k:Out} (h1:b.den ρ=true) (h2:Sat post cs Γ ρ k):Sat post cs Γ ρ (.ob b k):=⟨h1,fun _=>h2⟩
theorem Sat.alt {a b:Out} (h1:Sat post cs Γ ρ a) (h2:Sat post cs Γ ρ b):Sat post cs Γ ρ (.alt a b):=⟨h1,h2⟩
theorem Sat.new {nv:Nat} {fs:List QF} {k:Out} (h:∀e:Env,(∀f∈fs,f.den (ρ.join nv e))→Sat post cs Γ (ρ.join nv e) k):Sat post cs Γ ρ (.new nv fs k):=h
theorem Sat.loop {nv:Nat} {σ:Sub} {k:Out} (Inv:Env→Prop) (m:Env→Nat) (h0:Inv (σ.ag ρ)) (h:∀e:Env,Inv (ρ.join nv e).num→Sat post cs ((fun ρ'=>Inv ρ'∧m ρ'<m (ρ.join nv e).num) :: Γ) (ρ.join nv e) k):Sat post cs Γ ρ (.loop nv σ k):=⟨Inv,m,h0,h⟩
theorem Sat.back {i:Nat} {σ:Sub} {G:Env→Prop} (hG:Γ[i]?=some G) (h:G (σ.ag ρ)):Sat post cs Γ ρ (.back i σ):=⟨G,hG,h⟩
theorem Sat.call {g:Nat} {σ:Sub} {nv:Nat} {k:Out} {c:dJ} {pre post':Env→Prop} (hc:cs[g]?=some (c,pre,post')) (h1:pre (σ.ag ρ)) (h2:∀e:Env,post' (bf σ c.nv nv ρ (ρ.join nv e))→Sat post cs Γ (ρ.join nv e) k):Sat post cs Γ ρ (.call g σ nv k):=⟨c,pre,post',hc,h1,h2⟩
end
theorem cK {P:Program} {T:aY} (hT:dA P T) {E:Ex} {cs:mY} {inf:List (List OI)} (hE:E.cons=cs.map (·.1)) (hC:∀k pre post,(k,pre,post)∈cs→jM k=true∧aV P k pre post) (hS:jZ T E.sched inf=true)
  {n:Nat} {kn:Kn} {F:dJ} {out:Out} (hF:E.fin=F) (hex:exec T E n [] (dZ F.f F.nv kn F.gl F.hp F.args)=out) (hf:(match T.f F.f with | some fn=>fn.body.isSome && !(fn.name == "runtime.NumGoroutine") && decide (F.args.length≤fn.ntmps) | none=>false)=true)
  {pre post:Env→Prop} (hk:∀ρ:Env,pre ρ.num→Kn.ok ρ.num kn) (hs:∀ρ:Env,pre ρ.num→Sat post cs [] ρ out):aV P F pre post:=by
 subst hF
 split at hf
 case h_2=>cases hf
 rename_i fn hfn
 simp only [Bool.and_eq_true,Bool.not_eq_true',decide_eq_true_eq] at hf
 obtain ⟨⟨hb,hname⟩,hn⟩:=hf
 have GZ:=hT.fns _ fn (hT.Nk hfn)
 refine ⟨⟨fn,GZ,hb,hname⟩,fun ρ ν w gJ hgl hpre=>?_⟩
 obtain ⟨body,hbody⟩:=Option.isSome_iff_exists.1 hb
 have hnt:T.ntmps E.fin.f=fn.ntmps:=by unfold aY.ntmps;rw [hfn];rfl
 have hbd:T.body E.fin.f=body:=by unfold aY.body;rw [hfn];simp [hbody]
 refine Reach.calls GZ hbody ?_
 have zA:=hs ρ hpre
 rw [←hex] at zA
 have hg:=lJ (P:=P) (B:=⟨w,iU ρ ν E.fin.hp,ρ,ν,E.fin.nv,E.fin.hp.length⟩) hT hE hC hS ⟨rfl,rfl⟩ n (op:=[]) (Γ:=[]) (ρ:=ρ) (ν:=ν) (c:=dZ E.fin.f E.fin.nv kn E.fin.gl E.fin.hp E.fin.args)
  (a:=({tmps:=(E.fin.args.map (·.den ρ ν)).toArray ++ Array.replicate (fn.ntmps-(E.fin.args.map (·.den ρ ν)).toArray.size) undef,defers:=[]},fun _=>True)) (aS0:=[]) (w:=w) rfl (fun i o h=>by simp at h) zA
  ⟨Nat.le_refl _,Nat.le_refl _,dC.refl _ _ _ _,Kn.YH (hk ρ hpre),hgl,gJ,bC.refl _ _,fun k sb h1 h2 h3=>.inr ⟨k,sb,h1,h2,h3,rfl⟩,⟨?_,?_,rfl,fun p k sc d hc=>by cases hc⟩,trivial,fun p k sc hc=>by cases hc⟩
 ·unfold Goal dX dZ at hg
  simp only [List.map_cons,List.map_nil,SI.jc,hbd,Code.at,Option.getD_some] at hg
  exact hg
 ·intro t v ht
  obtain ⟨k,x,rfl,hx,rfl⟩:=zq (ρ:=ρ) (ν:=ν) ht
  have hk:k<E.fin.args.length:=(List.getElem?_eq_some_iff.1 hx).1
  rw [Array.getD_eq_getD_getElem?,Array.getElem?_append]
  simp [hk,SV.den,(List.getElem?_eq_some_iff.1 hx).2]
 ·rw [show T.ntmps (dZ E.fin.f E.fin.nv kn E.fin.gl E.fin.hp E.fin.args).top.f=fn.ntmps from hnt]
  simp
  omega
end Go.Rex
