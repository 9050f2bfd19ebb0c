/- part 7 of the proof -/
import Derived.Test.YthomdlajobnmnaaGreatDoorX6
set_option linter.unusedSimpArgs false
set_option linter.unusedVariables false
namespace Go.Rex
theorem UN {a b:SI} (h:Mi a b=true):a=b:=by cases a <;> cases b <;> simp_all [Mi]
theorem rZ:∀{a b:List SI},nH a b=true→a=b
 | [],[],_=>rfl
 | [],_ :: _,h=>by simp [nH] at h
 | _ :: _,[],h=>by simp [nH] at h
 | a :: r,b :: s,h=>by
  simp only [nH,Bool.and_eq_true] at h
  rw [UN h.1,rZ h.2]
theorem Gq:∀{a b:List SW},sO a b=true→a=b
 | [],[],_=>rfl
 | [],_ :: _,h=>by simp [sO] at h
 | _ :: _,[],h=>by simp [sO] at h
 | a :: r,b :: s,h=>by
  simp only [sO,Bool.and_eq_true] at h
  rw [SW.aD h.1,Gq h.2]
theorem SV.aD {a b:SV} (h:a.same b=true):a=b:=by
 cases a <;> cases b <;> simp only [SV.same] at h <;> try cases h
 ·rw [SW.aD h]
 ·rw [Gq h]
 ·simp only [Bool.and_eq_true] at h
  rw [BE.aD h.1,SW.aD h.2]
theorem JV:∀{a b:Fr},wW a b=true→a=b
 | [],[],_=>rfl
 | [],_ :: _,h=>by simp [wW] at h
 | _ :: _,[],h=>by simp [wW] at h
 | (t,a) :: r,(u,b) :: s,h=>by
  simp only [wW,Bool.and_eq_true,beq_iff_eq] at h
  rw [h.1.1,SV.aD h.1.2,JV h.2]
theorem eY.aD:∀{a b:eY},a.same b=true→a=b:=by
 intro a
 induction a with
 | nil c=>intro b h;cases b <;> simp [eY.same] at h;rw [F3 h]
 | take i D k ih=>intro b h;cases b <;> simp [eY.same] at h;rw [h.1.1,h.1.2,ih h.2]
 | drop k ih=>intro b h;cases b <;> simp [eY.same] at h;rw [ih h]
 | solo i k ih=>intro b h;cases b <;> simp [eY.same] at h;rw [h.1,ih h.2]
 | go i k ih=>intro b h;cases b <;> simp [eY.same] at h;rw [h.1,ih h.2]
 | alt i k j l ihk ihl=>intro b h;cases b <;> simp [eY.same] at h;rw [h.1.1.1,ihk h.1.1.2,h.1.2,ihl h.2]
theorem SB.aD {a b:SB} (h:a.same b=true):a=b:=by
 obtain ⟨_,_,_,_,_,_,_,_,_,_⟩:=a
 obtain ⟨_,_,_,_,_,_,_,_,_,_⟩:=b
 simp only [SB.same,Bool.and_eq_true,beq_iff_eq] at h
 obtain ⟨⟨⟨⟨⟨⟨⟨⟨⟨h1,h2⟩,h3⟩,h4⟩,h5⟩,h6⟩,h7⟩,h8⟩,h9⟩,h10⟩:=h
 simp only [SB.mk.injEq]
 exact ⟨h7,xU h4,ma h5,rW h6,h1,h3,yA h9,h8,h2,BE.aD h10⟩
theorem Br:∀{a b:List SB},tV a b=true→a=b
 | [],[],_=>rfl
 | [],_ :: _,h=>by simp [tV] at h
 | _ :: _,[],h=>by simp [tV] at h
 | a :: r,b :: s,h=>by
  simp only [tV,Bool.and_eq_true] at h
  rw [SB.aD h.1,Br h.2]
theorem oO.aD {a b:oO} (h:a.same b=true):a=b:=by
 cases a <;> cases b <;> simp only [oO.same] at h <;> try cases h
 ·rfl
 ·simp only [Bool.and_eq_true,beq_iff_eq] at h
  rw [h.1,h.2]
 ·simp only [Bool.and_eq_true,beq_iff_eq] at h
  rw [h.1.1.1,eY.aD h.1.1.2,Br h.1.2,h.2]
theorem aZ.aD {a b:aZ} (h:a.same b=true):a=b:=by
 obtain ⟨_,_,_,_⟩:=a
 obtain ⟨_,_,_,_⟩:=b
 simp only [aZ.same,Bool.and_eq_true,beq_iff_eq] at h
 obtain ⟨⟨⟨h1,h2⟩,h3⟩,h4⟩:=h
 rw [h1,JV h2,oO.aD h3,rZ h4]
theorem yO:∀{a b:List (aZ × Nat)},qA a b=true→a=b
 | [],[],_=>rfl
 | [],_ :: _,h=>by simp [qA] at h
 | _ :: _,[],h=>by simp [qA] at h
 | (F,i) :: r,(G,j) :: s,h=>by
  simp only [qA,Bool.and_eq_true,beq_iff_eq] at h
  rw [aZ.aD h.1.1,h.1.2,yO h.2]
theorem Bt:∀{a b:List (Nat × Nat)},tX a b=true→a=b
 | [],[],_=>rfl
 | [],_ :: _,h=>by simp [tX] at h
 | _ :: _,[],h=>by simp [tX] at h
 | (x,i) :: r,(y,j) :: s,h=>by
  simp only [tX,Bool.and_eq_true,beq_iff_eq] at h
  rw [h.1.1,h.1.2,Bt h.2]
theorem ru {c:oO} (h:c.isNone=true):c=.none:=by cases c <;> simp_all [oO.isNone]
theorem XU {k:dQ} {c c':cz} {args:List SW} {σ:Sub} {os:List BE} {v:SV} (h:KT k c args=some (σ,os,v,c')):c'.kn=c.kn:=by
 unfold KT at h
 simp only at h
 split at h
 ·split at h
  ·cases h
  ·split at h
   ·cases h;rfl
   ·cases h
 ·cases h
theorem sU {T:aY} {E:Ex} {c c':cz} {ops:Array Oper} {i:Nat} {eB:aZ→aZ}:(∀os fs,yJ T E c ops i eB=.next os fs c'→c'.kn=c.kn)∧(∀os g σ,yJ T E c ops i eB=.call os g σ c'→c'.kn=c.kn)∧∀x y,yJ T E c ops i eB≠.alt x y:=by
 refine ⟨fun os fs h=>?_,fun os g σ h=>?_,fun x y h=>?_⟩
 all_goals unfold yJ at h
 all_goals repeat' split at h
 all_goals first | (cases h;done) | (cases h;rfl) | skip
 rename_i hby _
 cases h
 have:=XU hby
 exact this
theorem Bu {T:aY} {c c':cz} {ops:Array Oper} {i D:Nat} {p:List Nat} {k:eY} {sc:List SB}:(∀os fs,tY T c ops i D p k sc=.next os fs c'→c'.kn=c.kn)∧(∀os g σ,tY T c ops i D p k sc≠.call os g σ c')∧∀x y,tY T c ops i D p k sc≠.alt x y:=by
 refine ⟨fun os fs h=>?_,fun os g σ h=>?_,fun x y h=>?_⟩
 all_goals unfold tY at h
 all_goals repeat' split at h
 all_goals first | (cases h;done) | (cases h;rfl)
theorem Eu {T:aY} {c c':cz}:(∀os fs,uX T c=.next os fs c'→c'.kn=c.kn)∧(∀os g σ,uX T c≠.call os g σ c')∧∀x y,uX T c≠.alt x y:=by
 refine ⟨fun os fs h=>?_,fun os g σ h=>?_,fun x y h=>?_⟩
 all_goals unfold uX at h
 all_goals repeat' split at h
 all_goals try simp only at h
 all_goals repeat' split at h
 all_goals first | (cases h;done) | (cases h;rfl)
theorem Iw {T:aY} {E:Ex} {c c':cz} {p:List Nat} {k:eY} {sc:List SB} {d:Bool}:(∀os fs,Em T E c p k sc d=.next os fs c'→c'.kn=c.kn)∧(∀os g σ,Em T E c p k sc d=.call os g σ c'→c'.kn=c.kn) ∧
  ∀x y,Em T E c p k sc d=.alt x y→(x.nv=c.nv∧x.hp=c.hp)∧y.nv=c.nv∧y.hp=c.hp:=by
 refine ⟨fun os fs h=>?_,fun os g σ h=>?_,fun x y h=>?_⟩
 all_goals unfold Em at h
 all_goals simp only at h
 all_goals repeat' split at h
 all_goals first | (cases h;done) | (cases h;rfl) | exact sU.1 _ _ h | exact sU.2.1 _ _ _ h | exact absurd h (sU (c':=c').2.2 _ _) | exact Bu.1 _ _ h | exact absurd h (Bu.2.1 _ _ _) | exact absurd h (Bu (c':=c').2.2 _ _) | (cases h;exact ⟨⟨rfl,rfl⟩,rfl,rfl⟩)
theorem Bv {T:aY} {E:Ex} {c c':cz}:(∀os fs,pM T E c=.next os fs c'→c'.kn=c.kn)∧(∀os g σ,pM T E c=.call os g σ c'→c'.kn=c.kn) ∧
  ∀x y,pM T E c=.alt x y→(x.nv=c.nv∧x.hp=c.hp)∧y.nv=c.nv∧y.hp=c.hp:=by
 refine ⟨fun os fs h=>?_,fun os g σ h=>?_,fun x y h=>?_⟩
 all_goals unfold pM at h
 all_goals simp only at h
 all_goals repeat' split at h
 all_goals first | (cases h;done) | (cases h;rfl) | exact sU.1 _ _ h | exact sU.2.1 _ _ _ h | exact absurd h (sU (c':=c').2.2 _ _) | exact Iw.1 _ _ h | exact Iw.2.1 _ _ _ h | exact Iw (c':=c').2.2 _ _ h | exact Eu.1 _ _ h | exact absurd h (Eu.2.1 _ _ _) | exact absurd h (Eu (c':=c').2.2 _ _)
theorem XV {T:aY} {E:Ex} {c c':cz} {os:List BE} {fs:List QF} (h:pM T E c=.next os fs c'):c'.kn=c.kn:=Bv.1 _ _ h
theorem UO {T:aY} {E:Ex} {c c':cz} {os:List BE} {g:Nat} {σ:Sub} (h:pM T E c=.call os g σ c'):c'.kn=c.kn:=Bv.2.1 _ _ _ h
theorem oP {T:aY} {E:Ex} {c x y:cz} (h:pM T E c=.alt x y):x.nv=c.nv∧x.hp=c.hp∧y.nv=c.nv∧y.hp=c.hp:=by
 obtain ⟨⟨a,b⟩,c,d⟩:=Bv (c':=x).2.2 _ _ h
 exact ⟨a,b,c,d⟩
section
variable {P:Program} {T:aY} {B:yK} {R:Ending→World→Prop} {E:Ex} {cs:mO} {inf:List (List OI)} {post:Env→Prop}
theorem UQ {σ:Sub} {ρ:Env} {ν:Nat→Addr} {fr:Fr} {a:Act} (hf:ou ρ ν fr a):∀{l:Fr},ZV σ fr l=true→ou (σ.env ρ ν) (σ.fK ρ ν) l a
 | [],_=>fun t v h=>by simp [assoc] at h
 | (t,v) :: r,h=>by
  simp only [ZV,Bool.and_eq_true] at h
  intro u x hx
  unfold assoc at hx
  split at hx
  ·rename_i he
   simp only [beq_iff_eq] at he
   subst he
   simp at hx
   subst hx
   obtain ⟨h1,-⟩:=h
   split at h1
   ·rename_i y hy
    rw [Uu h1]
    exact hf _ y hy
   ·cases h1
  ·exact UQ hf h.2 u x hx
structure adg (P:Program) (T:aY) (B:yK) (R:Ending→World→Prop) (o:DC) (G:Env→Prop) (ρ:Env) (ν:Nat→Addr) (nv n:Nat):Prop where
 lo:B.nv≤o.lo∧o.lo≤nv∧o.lo≤o.cT.nv
 ah:B.n≤o.ah∧o.ah≤n∧o.ah≤o.cT.hp.length
 sc:D9 o.lo o.cT.kn=true∧Ei o.ah o.cT.gl=true∧yG o.lo o.ah o.cT.dG=true
 goal:∃P6 UR,dF o.lo o.ah P6 ρ UR ν∧Kn.ok P6 o.cT.kn∧∀ρ' aK a aS0 w,dF o.lo o.ah P6 ρ' UR aK→Rel T B ρ' aK o.cT a aS0 w→G ρ'.num→Goal P T R o.cT a aS0 w
def KW (P:Program) (T:aY) (B:yK) (R:Ending→World→Prop) (op:List DC) (Γ:List (Env→Prop)) (ρ:Env) (ν:Nat→Addr) (nv n:Nat):Prop :=
 ∀(i:Nat) (o:DC),op[i]?=some o→∀G,Γ[i]?=some G→adg P T B R o G ρ ν nv n
theorem KW.ext {op:List DC} {Γ:List (Env→Prop)} {ρ ρ':Env} {ν aK:Nat→Addr} {nv n jf n':Nat} (h:KW P T B R op Γ ρ ν nv n) (hA:dF nv n ρ ρ' ν aK) (h1:nv≤jf) (h2:n≤n'):KW P T B R op Γ ρ' aK jf n':=by
 intro i o hi G hG
 obtain ⟨lo,ah,sc,P6,UR,q1,q2,q3⟩:=h i o hi G hG
 exact ⟨⟨lo.1,Nat.le_trans lo.2.1 h1,lo.2.2⟩,⟨ah.1,Nat.le_trans ah.2.1 h2,ah.2.2⟩,sc,P6,UR,q1.trans hA lo.2.1 ah.2.1,q2,q3⟩
theorem MP {ρ:Env} {ν:Nat→Addr} {lo ah:Nat} {cT c:cz} {σ:Sub} {os:List BE} {a:AS} {aS0:List AS} {w:World} (h:KS lo ah cT c=some (σ,os)) (ho:∀o∈os,o.den ρ=true) (hr:Rel T B ρ ν c a aS0 w)
  (h1:B.nv≤lo∧lo≤cT.nv) (h2:B.n≤ah∧ah≤cT.hp.length) (hs:D9 lo cT.kn=true∧Ei ah cT.gl=true∧yG lo ah cT.dG=true) (hk:Kn.ok ρ cT.kn) :
  Rel T B (σ.env ρ ν) (σ.fK ρ ν) cT a aS0 w∧dF lo ah ρ (σ.env ρ ν) ν (σ.fK ρ ν)∧(Goal P T R cT a aS0 w→Goal P T R c a aS0 w):=by
 unfold KS at h
 simp only at h
 split at h
 case isFalse=>cases h
 rename_i hc
 simp only [Bool.and_eq_true,beq_iff_eq] at hc
 obtain ⟨⟨⟨⟨⟨⟨⟨⟨c1,c2⟩,c3⟩,c4⟩,c5⟩,c6⟩,c7⟩,c8⟩,c9⟩:=hc
 simp only [Option.map_eq_some_iff,Prod.mk.injEq] at h
 obtain ⟨os',hinst,rfl,rfl⟩:=h
 generalize Im (uFr {lo:=lo,ah:=ah} c.top.fr cT.top.fr) c.hp cT.hp=σ at *
 have hA:dF lo ah ρ (σ.env ρ ν) ν (σ.fK ρ ν):=by
  have:=σ.iE ρ ν
  rw [c1,c2] at this
  exact this
 have UT:=ru c4
 have hn5:=ru c5
 have adi:=yO c7
 have hgl:=Bt c8
 have htodo:=rZ c6
 refine ⟨⟨Nat.le_trans h1.1 h1.2,Nat.le_trans h2.1 h2.2,hr.iE.trans hA h1.1 h2.1,FJ hA hs.1 hk,?_,Il hinst ho hr.hp,hr.wr,?_,⟨UQ hr.top.fr c9,by rw [c3];exact hr.top.tmps,hr.top.defers,fun p k sc d hc=>by rw [UT] at hc;cases hc⟩,?_,fun p k sc hc=>by rw [UT] at hc;cases hc⟩,hA,?_⟩
 ·refine iQ.ext hA hs.2.1 ?_
  rw [hgl];exact hr.gl
 ·intro k T' hk' hto htd
  obtain ⟨a',A,hB⟩:=oz hinst ho hk' htd
  rw [hB.fK,block_add]
  exact hr.own _ A hB.hp (hB.own hto) hB.live
 ·refine Bg.ext hA hs.2.2 ?_
  rw [adi];exact hr.dG
 ·intro hg
  unfold Goal at hg ⊢
  rw [adi] at hg
  exact zT c3.symm htodo.symm (hn5.trans UT.symm) hg
theorem mP {Γ:List (Env→Prop)} {ρ:Env}:∀{os:List BE} {kn:Kn} {k:Kn→Out},Sat post cs Γ ρ (pO kn os k)→Kn.ok ρ kn →
  (∀b∈os,b.den ρ=true)∧∃JW,(∀ρ':Env,Kn.ok ρ' kn→(∀b∈os,b.den ρ'=true)→Kn.ok ρ' JW)∧Sat post cs Γ ρ (k JW)
 | [],kn,k,h,_=>⟨by simp,kn,fun _ h _=>h,h⟩
 | b :: r,kn,k,h,hk=>by
  unfold pO at h
  split at h
  ·rename_i hd
   obtain ⟨h1,JW,h2,h3⟩:=mP h hk
   refine ⟨fun x hx=>?_,JW,fun ρ' a b=>h2 ρ' a (fun x hx=>b x (by simp [hx])),h3⟩
   rcases List.mem_cons.1 hx with rfl | hx
   ·exact BE.dw hk hd
   ·exact h1 x hx
  ·cases h
  ·obtain ⟨h0,h⟩:=h
   obtain ⟨h1,JW,h2,h3⟩:=mP (h h0) (oC h0 hk)
   refine ⟨fun x hx=>?_,JW,fun ρ' a c=>h2 ρ' (oC (c b (by simp)) a) (fun x hx=>c x (by simp [hx])),h3⟩
   rcases List.mem_cons.1 hx with rfl | hx
   ·exact h0
   ·exact h1 x hx
theorem Iy {ρ:Env}:∀{fs:List QF} {kn:Kn},Kn.ok ρ kn→(∀f∈fs,f.den ρ)→Kn.ok ρ (Ml kn fs)
 | [],_,h,_=>h
 | .be b :: r,kn,h,hf=>Iy (fs:=r) (oC (hf (.be b) (by simp)) h) fun f hm=>hf f (by simp [hm])
 | .cat .. :: r,kn,h,hf=>Iy (fs:=r) h fun f hm=>hf f (by simp [hm])
theorem Rel.Gr {ρ:Env} {ν:Nat→Addr} {c:cz} {a:AS} {aS0:List AS} {w:World} (h:Rel T B ρ ν c a aS0 w) {kn:Kn} (hk:Kn.ok ρ kn):Rel T B ρ ν {c with kn:=kn} a aS0 w :=
 ⟨h.nv,h.n,h.iE,hk,h.gl,h.hp,h.wr,h.own,h.top,h.dG,h.held⟩
theorem UU {ρ:Env} {ν:Nat→Addr} {c:cz} {a:AS} {aS0:List AS} {w:World} {L:iZ} {todo:List SI} (h:Mj T E c=some (L,todo)) (hr:Rel T B ρ ν c a aS0 w) :
  Rel T B ρ ν {c with top:={c.top with todo:=todo}} a aS0 w∧(Goal P T R {c with top:={c.top with todo:=todo}} a aS0 w→Goal P T R c a aS0 w):=by
 unfold Mj at h
 split at h
 case h_2=>cases h
 rename_i p k bV htodo
 split at h
 case h_2=>cases h
 split at h
 case h_2=>cases h
 rename_i x hat
 simp only [Option.some.injEq,Prod.mk.injEq] at h
 obtain ⟨-,rfl⟩:=h
 refine ⟨⟨hr.nv,hr.n,hr.iE,hr.kn,hr.gl,hr.hp,hr.wr,hr.own,⟨hr.top.fr,hr.top.tmps,hr.top.defers,fun p k sc d hc=>by rw [show c.top.cur=.none from bV] at hc;cases hc⟩,hr.dG,fun p k sc hc=>by rw [show c.top.cur=.none from bV] at hc;cases hc⟩,fun hg=>?_⟩
 unfold Goal dZ at hg ⊢
 simp only [bV] at hg ⊢
 rw [htodo]
 simp only [List.map_cons,SI.jB,qD hat,Code.at,Option.getD_some,hat] at hg ⊢
 exact Reach.step (fun b cs=>step_loop) hg
theorem UW {ρ:Env} {ν:Nat→Addr} {c:cz} {a:AS} {aS0:List AS} {w:World} {todo:List SI} (h:Mk E c=some todo) (hr:Rel T B ρ ν c a aS0 w) :
  Rel T B ρ ν {c with top:={c.top with todo:=todo}} a aS0 w∧(Goal P T R {c with top:={c.top with todo:=todo}} a aS0 w→Goal P T R c a aS0 w):=by
 unfold Mk at h
 split at h
 case h_2=>cases h
 rename_i p k bV htodo
 split at h
 case h_2=>cases h
 simp only [Option.some.injEq] at h
 subst h
 refine ⟨⟨hr.nv,hr.n,hr.iE,hr.kn,hr.gl,hr.hp,hr.wr,hr.own,⟨hr.top.fr,hr.top.tmps,hr.top.defers,fun p k sc d hc=>by rw [show c.top.cur=.none from bV] at hc;cases hc⟩,hr.dG,fun p k sc hc=>by rw [show c.top.cur=.none from bV] at hc;cases hc⟩,fun hg=>?_⟩
 unfold Goal dZ at hg ⊢
 simp only [bV] at hg ⊢
 rw [htodo]
 exact Reach.step (fun b cs=>step_inLoop) hg
theorem Gs {c:cz}:∀{l:List DC} {i j:Nat} {o:DC},wY c l i=some (j,o)→i≤j∧l[j-i]?=some o
 | [],_,_,_,h=>by simp [wY] at h
 | x :: r,i,j,o,h=>by
  unfold wY at h
  split at h
  ·simp only [Option.some.injEq,Prod.mk.injEq] at h
   obtain ⟨rfl,rfl⟩:=h
   exact ⟨Nat.le_refl _,by simp⟩
  ·obtain ⟨h1,h2⟩:=Gs h
   refine ⟨by omega,?_⟩
   rw [show j-i=(j-(i+1))+1 by omega]
   simpa using h2
theorem UX {L:iZ} {c cT:cz} {todo:List SI} (h:Mh T L c todo=some cT):cT.kn=c.kn∧cT.gl=c.gl∧cT.dG=c.dG:=by
 unfold Mh at h
 split at h
 ·cases h
 split at h
 ·cases h
 simp only [Option.some.injEq] at h
 subst h
 exact ⟨rfl,rfl,rfl⟩
def vY (F:dQ) (B:yK) (post:Env→Prop) (e:Ending) (w':World):Prop :=
 ∃ρ' aK,dF F.nv F.hp.length B.ρ ρ' B.ν aK∧e=.returned (F.ret.den ρ' aK)∧aH ρ' aK F.hp' w'∧bA B.w B.W w'∧kY B.w.heap.size B.W ρ' aK F.hp'∧post ρ'.num
theorem JX:∀{a b:Kn},wZ a b=true→a=b
 | [],[],_=>rfl
 | [],_ :: _,h=>by simp [wZ] at h
 | _ :: _,[],h=>by simp [wZ] at h
 | (x,t) :: r,(y,u) :: s,h=>by
  simp only [wZ,Bool.and_eq_true,beq_iff_eq] at h
  obtain ⟨⟨h1,h2⟩,h3⟩:=h
  rw [BE.aD h1,h2,JX h3]
theorem Gt {x y:Fr} {t:Nat} {v:SV} (h:assoc t (Ir x y)=some v):assoc t x=some v∧assoc t y=some v:=by
 have hm:=j5 h
 unfold Ir at hm
 simp only [List.mem_filter,Bool.and_eq_true] at hm
 obtain ⟨-,h1,h2⟩:=hm
 refine ⟨?_,?_⟩
 ·split at h1
  ·rename_i u hu
   rw [←SV.aD h1];exact hu
  ·cases h1
 ·split at h2
  ·rename_i u hu
   rw [←SV.aD h2];exact hu
  ·cases h2
theorem P7 {ρ:Env} {ν:Nat→Addr} {x y:cz} {a:AS} {aS0:List AS} {w:World} (h:sQ x y=true) (hr:Rel T B ρ ν x a aS0 w) :
  Rel T B ρ ν (nU x y) a aS0 w∧(Goal P T R (nU x y) a aS0 w→Goal P T R x a aS0 w):=by
 simp only [sQ,Bool.and_eq_true,beq_iff_eq] at h
 obtain ⟨⟨⟨⟨⟨⟨⟨⟨h1,h2⟩,h3⟩,h4⟩,h5⟩,h6⟩,h7⟩,h8⟩,h9⟩:=h
 have hx:=ru h6
 refine ⟨⟨hr.nv,hr.n,hr.iE,hr.kn,hr.gl,hr.hp,hr.wr,hr.own,⟨fun t v ht=>hr.top.fr t v (Gt ht).1,hr.top.tmps,hr.top.defers,hr.top.held⟩,hr.dG,hr.held⟩,fun hg=>?_⟩
 unfold Goal dZ at hg ⊢
 simp only [nU,hx] at hg ⊢
 exact hg
theorem P8 {ρ:Env} {ν:Nat→Addr} {x y:cz} {a:AS} {aS0:List AS} {w:World} (h:sQ x y=true) (hr:Rel T B ρ ν y a aS0 w) :
  Rel T B ρ ν (nU x y) a aS0 w∧(Goal P T R (nU x y) a aS0 w→Goal P T R y a aS0 w)∧y.nv=(nU x y).nv∧y.hp=(nU x y).hp:=by
 simp only [sQ,Bool.and_eq_true,beq_iff_eq] at h
 obtain ⟨⟨⟨⟨⟨⟨⟨⟨h1,h2⟩,h3⟩,h4⟩,h5⟩,h6⟩,h7⟩,h8⟩,h9⟩:=h
 have hx:=ru h6
 have hy:=ru h7
 replace h2:=JX h2
 replace h3:=Bt h3
 replace h4:=Br h4
 replace h8:=rZ h8
 replace h9:=yO h9
 refine ⟨⟨by show B.nv≤x.nv;rw [h1];exact hr.nv,by show B.n≤x.hp.length;rw [h4];exact hr.n,hr.iE,by show Kn.ok ρ x.kn;rw [h2];exact hr.kn,by show iQ ν x.gl;rw [h3];exact hr.gl,by show aH ρ ν x.hp w;rw [h4];exact hr.hp,hr.wr,by show kY _ _ ρ ν x.hp;rw [h4];exact hr.own,⟨fun t v ht=>hr.top.fr t v (Gt ht).2,by show T.ntmps x.top.f≤_;rw [h5];exact hr.top.tmps,hr.top.defers,fun p k sc d hc=>(by
     have hc:x.top.cur=.dr p k sc d:=hc
     rw [hx] at hc;cases hc)⟩,by show Bg T ρ ν x.dG aS0;rw [h9];exact hr.dG,fun p k sc hc=>(by
     have hc:x.top.cur=.dr p k sc false:=hc
     rw [hx] at hc;cases hc)⟩,fun hg=>?_,h1.symm,h4.symm⟩
 unfold Goal dZ at hg ⊢
 simp only [nU,hx] at hg
 simp only [hy]
 rw [←h5,←h8,←h9]
 exact hg
theorem XW {ρ:Env} {kn:Kn} {os:List BE} (hk:Kn.ok ρ kn) (h:ZW kn os=true):∀b∈os,b.den ρ=true:=by
 intro b hb
 have:=List.all_eq_true.1 h b hb
 split at this
 ·rename_i hd
  exact BE.dw hk hd
 ·cases this
theorem XX {ρ:Env} {ν:Nat→Addr} {c:cz} {a:AS} {aS0:List AS} {w:World} {fl m:Nat} (hB:B.n≤fl) (hf:fl≤c.hp.length) (hr:Rel T B ρ ν c a aS0 w) :
  Rel T B ρ ν (xe fl m c) a aS0 w∧(Goal P T R (xe fl m c) a aS0 w→Goal P T R c a aS0 w)∧(xe fl m c).nv=c.nv∧fl≤(xe fl m c).hp.length:=by
 unfold xe
 split
 ·rename_i hc
  simp only [Bool.and_eq_true,Nat.blt_eq,Nat.ble_eq] at hc
  obtain ⟨⟨⟨h1,h2⟩,h3⟩,-⟩:=hc
  have hat:∀(k:Nat) (sb:SB),(c.hp.take m)[k]?=some sb→c.hp[k]?=some sb:=fun k sb hk=>by
   rw [List.getElem?_take] at hk
   split at hk
   ·exact hk
   ·cases hk
  have hlen:(c.hp.take m).length=m:=by rw [List.length_take];omega
  refine ⟨⟨hr.nv,by show B.n≤(c.hp.take m).length;omega,hr.iE,hr.kn,hr.gl,⟨fun i j x y hi hj=>hr.hp.inj i j x y (hat i x hi) (hat j y hj),fun k sb hk=>hr.hp.aC k sb (hat k sb hk),fun k sb hk=>hr.hp.rd k sb (hat k sb hk)⟩,hr.wr,fun k sb hk=>hr.own k sb (hat k sb hk),hr.top,hr.dG,fun p k sc bV=>?_⟩,fun hg=>hg,rfl,by show fl≤(c.hp.take m).length;omega⟩
  have bV:c.top.cur=.dr p k sc false:=bV
  unfold UD at h3
  rw [bV] at h3
  exact h3
 ·exact ⟨hr,fun hg=>hg,rfl,hf⟩
theorem RI {ρ:Env} {ν:Nat→Addr} {c c':cz} {a:AS} {aS0:List AS} {w:World} {fl:Nat} {ls:List Nat} (hB:B.n≤fl) (hf:fl≤c'.hp.length) (hr:Rel T B ρ ν c' a aS0 w) :
  Rel T B ρ ν (sS fl c ls c').1 a aS0 w∧(Goal P T R (sS fl c ls c').1 a aS0 w→Goal P T R c' a aS0 w)∧(sS fl c ls c').1.nv=c'.nv∧fl≤(sS fl c ls c').1.hp.length:=by
 unfold sS
 split
 ·exact ⟨hr,fun hg=>hg,rfl,hf⟩
 ·split
  ·split
   ·exact XX hB hf hr
   ·exact ⟨hr,fun hg=>hg,rfl,hf⟩
  ·exact ⟨hr,fun hg=>hg,rfl,hf⟩
theorem xg (hT:dD P T) (hE:E.cons=cs.map (·.1)) (hC:∀k pre post,(k,pre,post)∈cs→ku k=true∧bg P k pre post) (hS:kQ T E.sched inf=true) {R:Ending→World→Prop} {ρ:Env} {d fl:Nat} (hB:B.n≤fl) :
  ∀(n:Nat) {ls:List Nat} {c z:cz} {ν:Nat→Addr} {a:AS} {aS0:List AS} {w:World},Be T E d fl n ls c=some z→fl≤c.hp.length→Rel T B ρ ν c a aS0 w →
   (∀aK a' as' w',dF c.nv fl ρ ρ ν aK→c.nv≤z.nv→fl≤z.hp.length→Rel T B ρ aK z a' as' w'→Goal P T R z a' as' w')→Goal P T R c a aS0 w
 | 0,_,_,_,_,_,_,_,h,_,_,_=>by simp [Be] at h
 | n+1,ls,c,z,ν,a,aS0,w,h,hf,hr,hc=>by
  unfold Be at h
  have hs:=MO (P:=P) (R:=R) (E:=E) hT hE hC hS hr
  split at h
  ·rename_i os fs c' hst
   rw [hst] at hs
   split at h
   ·rename_i hb
    simp only [Bool.and_eq_true,List.isEmpty_iff] at hb
    refine hs (XW hr.kn hb.2) fun ρ' aK a' as' w' hA hfs hle ho FD hr'=>?_
    obtain rfl:=hfs hb.1
    split at h
    rename_i c2 ls2 hcl
    obtain ⟨k1,k2,k3,k4⟩:=RI (P:=P) (R:=R) (c:=c) (ls:=ls) hB (Nat.le_trans hf hle.2) hr'
    rw [hcl] at k1 k2 k3 k4
    apply k2
    have hA':dF c.nv fl ρ' ρ' ν aK:=⟨fun i hi=>hA.iv i hi,fun i hi=>hA.bv i hi,fun i hi=>hA.vv i hi,fun i hi=>hA.ic i hi,fun i hi=>hA.bc i hi,fun i hi=>hA.vc i hi,fun i hi=>hA.bl i (Nat.lt_of_lt_of_le hi hf)⟩
    split at h
    ·cases h
     exact hc aK a' as' w' hA' (by rw [k3];exact hle.1) k4 k1
    ·refine xg hT hE hC hS hB n h k4 k1 fun Gu a2 Gv w2 hA2 l1 l2 hr2=>?_
     rw [k3] at hA2 l1
     exact hc Gu a2 Gv w2 (hA'.trans hA2 hle.1 (Nat.le_refl _)) (Nat.le_trans hle.1 l1) l2 hr2
   ·cases h
  ·rename_i x y hst
   rw [hst] at hs
   obtain ⟨e1,e2,e3,e4⟩:=oP hst
   split at h
   ·rename_i x' y' hx hy
    split at h
    ·rename_i hm
     cases h
     refine hs (fun hr'=>xg hT hE hC hS hB n hx (by rw [e2];exact hf) hr' fun Gu a2 Gv w2 hA l1 l2 hr2=>?_) (fun hr'=>xg hT hE hC hS hB n hy (by rw [e4];exact hf) hr' fun Gu a2 Gv w2 hA l1 l2 hr2=>?_)
     ·obtain ⟨m1,m2⟩:=P7 (P:=P) (R:=R) hm hr2
      rw [e1] at hA l1
      exact m2 (hc Gu a2 Gv w2 hA l1 l2 m1)
     ·obtain ⟨m1,m2,m3,m4⟩:=P8 (P:=P) (R:=R) hm hr2
      rw [e3] at hA
      rw [e3,m3] at l1
      rw [m4] at l2
      exact m2 (hc Gu a2 Gv w2 hA l1 l2 m1)
    ·cases h
   ·cases h
  ·cases h
theorem mh (hT:dD P T) (hE:E.cons=cs.map (·.1)) (hC:∀k pre post,(k,pre,post)∈cs→ku k=true∧bg P k pre post) (hS:kQ T E.sched inf=true) (hB:B.nv=E.fin.nv∧B.n=E.fin.hp.length) :
  ∀(n:Nat) {op:List DC} {Γ:List (Env→Prop)} {ρ:Env} {ν:Nat→Addr} {c:cz} {a:AS} {aS0:List AS} {w:World},op.length=Γ.length→KW P T B (vY E.fin B post) op Γ ρ ν c.nv c.hp.length→Sat post cs Γ ρ (exec T E n op c)→Rel T B ρ ν c a aS0 w →
   Goal P T (vY E.fin B post) c a aS0 w
 | 0,op,Γ,ρ,ν,c,a,aS0,w,_,_,h,hr=>by cases h
 | n+1,op,Γ,ρ,ν,c,a,aS0,w,hlen,hO,h,hr=>by
  unfold exec at h
  rw [cz.norm_eq] at h
  split at h
  ·
   rename_i L todo hat
   obtain ⟨hr1,hgo⟩:=UU (P:=P) (R:=vY E.fin B post) hat hr
   split at h
   ·cases h
   rename_i cT htm
   split at h
   ·cases h
   rename_i σ os hinst
   split at h
   case isFalse=>cases h
   rename_i hsc
   simp only [Bool.and_eq_true,Nat.ble_eq] at hsc
   obtain ⟨⟨⟨hsc1,hsc2⟩,hle1⟩,hle2⟩:=hsc
   obtain ⟨hos,JW,hkn',h'⟩:=mP h hr.kn
   obtain ⟨Inv,m,hI,hbody⟩:=h'
   obtain ⟨t1,t2,t3⟩:=UX htm
   have Bp:=hsc1
   simp only [cz.sc,Bool.and_eq_true] at Bp
   obtain ⟨⟨⟨⟨s1,s2⟩,s3⟩,s4⟩,s5⟩:=Bp
   have adj:D9 c.nv cT.kn=true∧Ei c.hp.length cT.gl=true∧yG c.nv c.hp.length cT.dG=true:=by rw [t1,t2,t3];exact ⟨s1,s5,s4⟩
   have hkT:Kn.ok ρ cT.kn:=by rw [t1];exact hr.kn
   obtain ⟨hrT,hAT,hback⟩:=MP (P:=P) (R:=vY E.fin B post) hinst hos hr1 ⟨hr.nv,hle1⟩ ⟨hr.n,hle2⟩ adj hkT
   apply hgo
   apply hback
   have main:∀(M:Nat) (ρ':Env) (aK:Nat→Addr) (a:AS) (aS0:List AS) (w:World),dF c.nv c.hp.length ρ ρ' ν aK→Rel T B ρ' aK cT a aS0 w→Inv ρ'.num→m ρ'.num=M→Goal P T (vY E.fin B post) cT a aS0 w:=by
    intro M
    induction M using Nat.strongRecOn with
    | ind M ih =>
     intro ρ' aK a aS0 w hA hrel hinv hm
     have hj:=hA.join
     have Bw:=hbody ρ' (by rw [hj];exact hinv)
     rw [hj] at Bw
     refine mh hT hE hC hS hB n (op:=⟨c.nv,c.hp.length,cT⟩ :: op) (Γ:=(fun LH=>Inv LH∧m LH<m ρ'.num) :: Γ) (by simp [hlen]) ?_ Bw hrel
     intro i o hi G hG
     cases i with
     | zero =>
      simp at hi hG
      subst hi hG
      refine ⟨⟨hr.nv,hle1,hle1⟩,⟨hr.n,hle2,hle2⟩,adj,ρ,ν,hA,hkT,fun ρ2 Gu a2 Gv w2 hA2 hr2 hG2=>?_⟩
      exact ih _ (by rw [←hm];exact hG2.2) ρ2 Gu a2 Gv w2 hA2 hr2 hG2.1 rfl
     | succ i =>
      have:=(hO.ext hA hle1 hle2) i o (by simpa using hi) G (by simpa using hG)
      exact this
   exact main _ _ _ a aS0 w hAT hrT hI rfl
  split at h
  ·
   rename_i todo hat
   obtain ⟨hr1,hgo⟩:=UW (P:=P) (R:=vY E.fin B post) hat hr
   split at h
   ·cases h
   rename_i i o hfind
   split at h
   ·cases h
   rename_i σ os hinst
   obtain ⟨hos,JW,hkn',h'⟩:=mP h hr.kn
   obtain ⟨G,hG,hGn⟩:=h'
   obtain ⟨-,hio⟩:=Gs hfind
   rw [Nat.sub_zero] at hio
   obtain ⟨lo,ah,sc,P6,UR,q1,q2,q3⟩:=hO i o hio G hG
   obtain ⟨hrT,hAT,hback⟩:=MP (P:=P) (R:=vY E.fin B post) hinst hos hr1 ⟨lo.1,lo.2.2⟩ ⟨ah.1,ah.2.2⟩ sc (FJ q1 sc.1 q2)
   apply hgo
   apply hback
   exact q3 _ _ a aS0 w (q1.trans hAT (Nat.le_refl _) (Nat.le_refl _)) hrT hGn
  have hs:=MO (P:=P) (R:=vY E.fin B post) (E:=E) hT hE hC hS hr
  split at h
  ·rename_i os fs c' hst
   rw [hst] at hs
   obtain ⟨h1,P9,h2,h3⟩:=mP h hr.kn
   refine hs h1 fun ρ' aK a' as' w' hA hfs hle ho hf hr'=>?_
   have hk1:Kn.ok ρ' P9:=h2 ρ' (by
     have:=hr'.kn
     rwa [XV hst] at this) ho
   have hk2:=Iy hk1 hf
   have hO':=hO.ext hA hle.1 hle.2
   refine mh hT hE hC hS hB n (c:={c' with kn:=Ml P9 fs}) hlen hO' ?_ (hr'.Gr hk2)
   unfold PV at h3
   split at h3
   ·rw [hfs rfl];exact h3
   ·have:=h3 ρ' (by rw [hA.join];exact hf)
    rw [hA.join] at this
    exact this
  ·rename_i x y hst
   rw [hst] at hs
   obtain ⟨e1,e2,e3,e4⟩:=oP hst
   split at h
   ·rename_i z hz
    unfold Mm at hz
    split at hz
    case isFalse=>cases hz
    split at hz
    case h_2=>cases hz
    rename_i x' y' hx hy
    split at hz
    case isFalse=>cases hz
    rename_i hm
    cases hz
    refine hs (fun hr'=>xg hT hE hC hS hr.n n hx (by rw [e2];exact Nat.le_refl _) hr' fun Gu a2 Gv w2 hA l1 l2 hr2=>?_) (fun hr'=>xg hT hE hC hS hr.n n hy (by rw [e4];exact Nat.le_refl _) hr' fun Gu a2 Gv w2 hA l1 l2 hr2=>?_)
    ·obtain ⟨m1,m2⟩:=P7 (P:=P) (R:=vY E.fin B post) hm hr2
     rw [e1] at hA l1
     exact m2 (mh hT hE hC hS hB n hlen (hO.ext hA l1 l2) h m1)
    ·obtain ⟨m1,m2,m3,m4⟩:=P8 (P:=P) (R:=vY E.fin B post) hm hr2
     rw [e3] at hA
     rw [e3,m3] at l1
     rw [m4] at l2
     exact m2 (mh hT hE hC hS hB n hlen (hO.ext hA l1 l2) h m1)
   exact hs (fun hr'=>mh hT hE hC hS hB n hlen (hO.ext (dF.refl _ _ _ _) (by rw [(oP hst).1];exact Nat.le_refl _) (by rw [(oP hst).2.1];exact Nat.le_refl _)) h.1 hr')
    (fun hr'=>mh hT hE hC hS hB n hlen (hO.ext (dF.refl _ _ _ _) (by rw [(oP hst).2.2.1];exact Nat.le_refl _) (by rw [(oP hst).2.2.2];exact Nat.le_refl _)) h.2 hr')
  ·rename_i os g σ c' hst
   rw [hst] at hs
   obtain ⟨h1,P9,h2,h3⟩:=mP h hr.kn
   obtain ⟨k,pre,post',hcs,hpre,hbody⟩:=h3
   refine hs h1 k pre post' hcs hpre fun ρ' aK a' as' w' hA hle ho hpo hr'=>?_
   have hk1:Kn.ok ρ' P9:=h2 ρ' (by
     have:=hr'.kn
     rwa [UO hst] at this) ho
   have Bw:=hbody ρ' (by rw [hA.join];exact hpo)
   rw [hA.join] at Bw
   exact mh hT hE hC hS hB n (c:={c' with kn:=P9}) hlen (hO.ext hA hle.1 hle.2) Bw (hr'.Gr hk1)
  ·rename_i b hst
   obtain ⟨ht,hf⟩:=h
   cases hb:b.den ρ with
   | true=>exact mh hT hE hC hS hB n (c:={c with kn:=jh b true c.kn}) hlen hO (ht hb) (hr.Gr (oC hb hr.kn))
   | false=>exact mh hT hE hC hS hB n (c:={c with kn:=jh b false c.kn}) hlen hO (hf hb) (hr.Gr (oC hb hr.kn))
  ·rename_i os v hst
   rw [hst] at hs
   split at h
   ·rename_i σ os' hfin
    obtain ⟨h1,P9,h2,h3⟩:=mP h hr.kn
    refine hs (fun b hb=>h1 b (List.mem_append_left _ hb)) fun _=>?_
    unfold UC at hfin
    simp only at hfin
    split at hfin
    case isFalse=>cases hfin
    rename_i hc
    simp only [Bool.and_eq_true,beq_iff_eq] at hc
    obtain ⟨⟨c1,c2⟩,c3⟩:=hc
    simp only [Option.map_eq_some_iff,Prod.mk.injEq] at hfin
    obtain ⟨os2,hinst,rfl,rfl⟩:=hfin
    generalize Im (uSV {lo:=E.fin.nv,ah:=E.fin.hp.length} E.fin.ret v) c.hp E.fin.hp'=σ at *
    have ho2:∀o∈os2,o.den ρ=true:=fun o hm=>h1 o (List.mem_append_right _ hm)
    have hA:=σ.iE ρ ν
    rw [c1,c2] at hA
    refine ⟨σ.env ρ ν,σ.fK ρ ν,?_,by rw [Uu c3],Il hinst ho2 hr.hp,hr.wr,?_,h3⟩
    ·have h5:=hr.iE
     rw [hB.1,hB.2] at h5
     exact h5.trans hA (Nat.le_refl _) (Nat.le_refl _)
    ·intro k T' hk' hto htd
     obtain ⟨a',A,hIB⟩:=oz hinst ho2 hk' htd
     rw [hIB.fK,block_add]
     exact hr.own _ A hIB.hp (hIB.own hto) hIB.live
   ·cases h
  ·cases h
  ·cases h
end
theorem IE.Iz (ρ:Env):∀e:IE,e.den ρ.num=e.den ρ:=by
 intro e
 induction e <;> simp_all [IE.den,Env.num]
theorem BE.Iz (ρ:Env):∀e:BE,e.den ρ.num=e.den ρ:=by
 intro e
 induction e <;> simp_all [BE.den,IE.Iz]
 ·rfl
 ·rfl
theorem Kn.adm {ρ:Env} {kn:Kn} (h:Kn.ok ρ.num kn):Kn.ok ρ kn:=fun p hp=>by rw [←BE.Iz];exact h p hp
section
variable {post:Env→Prop} {cs:mO} {Γ:List (Env→Prop)} {ρ:Env}
theorem Sat.fin {σ:Sub} (h:post (σ.ag ρ)):Sat post cs Γ ρ (.fin σ):=h
theorem Sat.br {c:BE} {t e:Out} (h1:c.den ρ=true→Sat post cs Γ ρ t) (h2:c.den ρ=false→Sat post cs Γ ρ e):Sat post cs Γ ρ (.br c t e):=⟨h1,h2⟩
theorem Sat.ob {b:BE} {k:Out} (h1:b.den ρ=true) (h2:Sat post cs Γ ρ k):Sat post cs Γ ρ (.ob b k):=⟨h1,fun _=>h2⟩
theorem Sat.alt {a b:Out} (h1:Sat post cs Γ ρ a) (h2:Sat post cs Γ ρ b):Sat post cs Γ ρ (.alt a b):=⟨h1,h2⟩
theorem Sat.new {nv:Nat} {fs:List QF} {k:Out} (h:∀e:Env,(∀f∈fs,f.den (ρ.join nv e))→Sat post cs Γ (ρ.join nv e) k):Sat post cs Γ ρ (.new nv fs k):=h
theorem Sat.loop {nv:Nat} {σ:Sub} {k:Out} (Inv:Env→Prop) (m:Env→Nat) (h0:Inv (σ.ag ρ)) (h:∀e:Env,Inv (ρ.join nv e).num→Sat post cs ((fun ρ'=>Inv ρ'∧m ρ'<m (ρ.join nv e).num) :: Γ) (ρ.join nv e) k):Sat post cs Γ ρ (.loop nv σ k):=⟨Inv,m,h0,h⟩
theorem Sat.back {i:Nat} {σ:Sub} {G:Env→Prop} (hG:Γ[i]?=some G) (h:G (σ.ag ρ)):Sat post cs Γ ρ (.back i σ):=⟨G,hG,h⟩
theorem Sat.call {g:Nat} {σ:Sub} {nv:Nat} {k:Out} {c:dQ} {pre post':Env→Prop} (hc:cs[g]?=some (c,pre,post')) (h1:pre (σ.ag ρ)) (h2:∀e:Env,post' (bf σ c.nv nv ρ (ρ.join nv e))→Sat post cs Γ (ρ.join nv e) k):Sat post cs Γ ρ (.call g σ nv k):=⟨c,pre,post',hc,h1,h2⟩
end
theorem dA {P:Program} {T:aY} (hT:dD P T) {E:Ex} {cs:mO} {inf:List (List OI)} (hE:E.cons=cs.map (·.1)) (hC:∀k pre post,(k,pre,post)∈cs→ku k=true∧bg P k pre post) (hS:kQ T E.sched inf=true)
  {n:Nat} {kn:Kn} {F:dQ} {out:Out} (hF:E.fin=F) (hex:exec T E n [] (fE F.f F.nv kn F.gl F.hp F.args)=out) (hf:(match T.f F.f with | some fn=>fn.body.isSome && !(fn.name == "runtime.NumGoroutine") && decide (F.args.length≤fn.ntmps) | none=>false)=true)
  {pre post:Env→Prop} (hk:∀ρ:Env,pre ρ.num→Kn.ok ρ.num kn) (hs:∀ρ:Env,pre ρ.num→Sat post cs [] ρ out):bg P F pre post:=by
 subst hF
 split at hf
 case h_2=>cases hf
 rename_i fn hfn
 simp only [Bool.and_eq_true,Bool.not_eq_true',decide_eq_true_eq] at hf
 obtain ⟨⟨hb,hname⟩,hn⟩:=hf
 have JU:=hT.fns _ fn (hT.Q3 hfn)
 refine ⟨⟨fn,JU,hb,hname⟩,fun ρ ν w iw hgl hpre=>?_⟩
 obtain ⟨body,hbody⟩:=Option.isSome_iff_exists.1 hb
 have hnt:T.ntmps E.fin.f=fn.ntmps:=by unfold aY.ntmps;rw [hfn];rfl
 have hbd:T.body E.fin.f=body:=by unfold aY.body;rw [hfn];simp [hbody]
 refine Reach.calls JU hbody ?_
 have Bw:=hs ρ hpre
 rw [←hex] at Bw
 have hg:=mh (P:=P) (B:=⟨w,jm ρ ν E.fin.hp,ρ,ν,E.fin.nv,E.fin.hp.length⟩) hT hE hC hS ⟨rfl,rfl⟩ n (op:=[]) (Γ:=[]) (ρ:=ρ) (ν:=ν) (c:=fE E.fin.f E.fin.nv kn E.fin.gl E.fin.hp E.fin.args)
  (a:=({tmps:=(E.fin.args.map (·.den ρ ν)).toArray ++ Array.replicate (fn.ntmps-(E.fin.args.map (·.den ρ ν)).toArray.size) undef,defers:=[]},fun _=>True)) (aS0:=[]) (w:=w) rfl (fun i o h=>by simp at h) Bw
  ⟨Nat.le_refl _,Nat.le_refl _,dF.refl _ _ _ _,Kn.adm (hk ρ hpre),hgl,iw,bA.refl _ _,fun k sb h1 h2 h3=>.inr ⟨k,sb,h1,h2,h3,rfl⟩,⟨?_,?_,rfl,fun p k sc d hc=>by cases hc⟩,trivial,fun p k sc hc=>by cases hc⟩
 ·unfold Goal dZ fE at hg
  simp only [List.map_cons,List.map_nil,SI.jB,hbd,Code.at,Option.getD_some] at hg
  exact hg
 ·intro t v ht
  obtain ⟨k,x,rfl,hx,rfl⟩:=Bo (ρ:=ρ) (ν:=ν) ht
  have hk:k<E.fin.args.length:=(List.getElem?_eq_some_iff.1 hx).1
  rw [Array.getD_eq_getD_getElem?,Array.getElem?_append]
  simp [hk,SV.den,(List.getElem?_eq_some_iff.1 hx).2]
 ·rw [show T.ntmps (fE E.fin.f E.fin.nv kn E.fin.gl E.fin.hp E.fin.args).top.f=fn.ntmps from hnt]
  simp
  omega
end Go.Rex
