/- part 8 of the proof -/
import Derived.Test.YthomdlajobnmnaaDoorV7
set_option linter.unusedSimpArgs false
set_option linter.unusedVariables false
namespace Go.Rex
theorem O1 {a b:SI} (h:Jd a b=true):a=b:=by cases a <;> cases b <;> simp_all [Jd]
theorem rW:∀{a b:List SI},mY a b=true→a=b
 | [],[],_=>rfl
 | [],_ :: _,h=>by simp [mY] at h
 | _ :: _,[],h=>by simp [mY] at h
 | a :: r,b :: s,h=>by
  simp only [mY,Bool.and_eq_true] at h
  rw [O1 h.1,rW h.2]
theorem D9:∀{a b:List SW},sK a b=true→a=b
 | [],[],_=>rfl
 | [],_ :: _,h=>by simp [sK] at h
 | _ :: _,[],h=>by simp [sK] at h
 | a :: r,b :: s,h=>by
  simp only [sK,Bool.and_eq_true] at h
  rw [SW.aH h.1,D9 h.2]
theorem SV.aH {a b:SV} (h:a.same b=true):a=b:=by
 cases a <;> cases b <;> simp only [SV.same] at h <;> try cases h
 ·rw [SW.aH h]
 ·rw [D9 h]
 ·simp only [Bool.and_eq_true] at h
  rw [BE.aH h.1,SW.aH h.2]
theorem Gs:∀{a b:Fr},vV a b=true→a=b
 | [],[],_=>rfl
 | [],_ :: _,h=>by simp [vV] at h
 | _ :: _,[],h=>by simp [vV] at h
 | (t,a) :: r,(u,b) :: s,h=>by
  simp only [vV,Bool.and_eq_true,beq_iff_eq] at h
  rw [h.1.1,SV.aH h.1.2,Gs h.2]
theorem fC.aH:∀{a b:fC},a.same b=true→a=b:=by
 intro a
 induction a with
 | nil c=>intro b h;cases b <;> simp [fC.same] at h;rw [DC h]
 | take i D k ih=>intro b h;cases b <;> simp [fC.same] at h;rw [h.1.1,h.1.2,ih h.2]
 | drop k ih=>intro b h;cases b <;> simp [fC.same] at h;rw [ih h]
 | solo i k ih=>intro b h;cases b <;> simp [fC.same] at h;rw [h.1,ih h.2]
 | go i k ih=>intro b h;cases b <;> simp [fC.same] at h;rw [h.1,ih h.2]
 | alt i k j l ihk ihl=>intro b h;cases b <;> simp [fC.same] at h;rw [h.1.1.1,ihk h.1.1.2,h.1.2,ihl h.2]
theorem SB.aH {a b:SB} (h:a.same b=true):a=b:=by
 obtain ⟨_,_,_,_,_,_,_,_,_,_⟩:=a
 obtain ⟨_,_,_,_,_,_,_,_,_,_⟩:=b
 simp only [SB.same,Bool.and_eq_true,beq_iff_eq] at h
 obtain ⟨⟨⟨⟨⟨⟨⟨⟨⟨h1,h2⟩,h3⟩,h4⟩,h5⟩,h6⟩,h7⟩,h8⟩,h9⟩,h10⟩:=h
 simp only [SB.mk.injEq]
 exact ⟨h7,wN h4,lW h5,rT h6,h1,h3,xh h9,h8,h2,BE.aH h10⟩
theorem zx:∀{a b:List SB},tL a b=true→a=b
 | [],[],_=>rfl
 | [],_ :: _,h=>by simp [tL] at h
 | _ :: _,[],h=>by simp [tL] at h
 | a :: r,b :: s,h=>by
  simp only [tL,Bool.and_eq_true] at h
  rw [SB.aH h.1,zx h.2]
theorem oG.aH {a b:oG} (h:a.same b=true):a=b:=by
 cases a <;> cases b <;> simp only [oG.same] at h <;> try cases h
 ·rfl
 ·simp only [Bool.and_eq_true,beq_iff_eq] at h
  rw [h.1,h.2]
 ·simp only [Bool.and_eq_true,beq_iff_eq] at h
  rw [h.1.1.1,fC.aH h.1.1.2,zx h.1.2,h.2]
theorem bz.aH {a b:bz} (h:a.same b=true):a=b:=by
 obtain ⟨_,_,_,_⟩:=a
 obtain ⟨_,_,_,_⟩:=b
 simp only [bz.same,Bool.and_eq_true,beq_iff_eq] at h
 obtain ⟨⟨⟨h1,h2⟩,h3⟩,h4⟩:=h
 rw [h1,Gs h2,oG.aH h3,rW h4]
theorem xC:∀{a b:List (bz × Nat)},qm a b=true→a=b
 | [],[],_=>rfl
 | [],_ :: _,h=>by simp [qm] at h
 | _ :: _,[],h=>by simp [qm] at h
 | (F,i) :: r,(G,j) :: s,h=>by
  simp only [qm,Bool.and_eq_true,beq_iff_eq] at h
  rw [bz.aH h.1.1,h.1.2,xC h.2]
theorem zy:∀{a b:List (Nat × Nat)},tN a b=true→a=b
 | [],[],_=>rfl
 | [],_ :: _,h=>by simp [tN] at h
 | _ :: _,[],h=>by simp [tN] at h
 | (x,i) :: r,(y,j) :: s,h=>by
  simp only [tN,Bool.and_eq_true,beq_iff_eq] at h
  rw [h.1.1,h.1.2,zy h.2]
theorem qY {c:oG} (h:c.isNone=true):c=.none:=by cases c <;> simp_all [oG.isNone]
theorem Rw {k:dZ} {c c':cB} {args:List SW} {σ:Sub} {os:List BE} {v:SV} (h:Hy k c args=some (σ,os,v,c')):c'.kn=c.kn:=by
 unfold Hy at h
 simp only at h
 split at h
 ·split at h
  ·cases h
  ·split at h
   ·cases h;rfl
   ·cases h
 ·cases h
theorem sP {T:bq} {E:Ex} {c c':cB} {ops:Array Oper} {i:Nat} {eO:bz→bz}:(∀os fs,xy T E c ops i eO=.next os fs c'→c'.kn=c.kn)∧(∀os g σ,xy T E c ops i eO=.call os g σ c'→c'.kn=c.kn)∧∀x y,xy T E c ops i eO≠.alt x y:=by
 refine ⟨fun os fs h=>?_,fun os g σ h=>?_,fun x y h=>?_⟩
 all_goals unfold xy at h
 all_goals repeat' split at h
 all_goals first | (cases h;done) | (cases h;rfl) | skip
 rename_i hby _
 cases h
 have:=Rw hby
 exact this
theorem zz {T:bq} {c c':cB} {ops:Array Oper} {i D:Nat} {p:List Nat} {k:fC} {sc:List SB}:(∀os fs,tO T c ops i D p k sc=.next os fs c'→c'.kn=c.kn)∧(∀os g σ,tO T c ops i D p k sc≠.call os g σ c')∧∀x y,tO T c ops i D p k sc≠.alt x y:=by
 refine ⟨fun os fs h=>?_,fun os g σ h=>?_,fun x y h=>?_⟩
 all_goals unfold tO at h
 all_goals repeat' split at h
 all_goals first | (cases h;done) | (cases h;rfl)
theorem Cc {T:bq} {c c':cB}:(∀os fs,uJ T c=.next os fs c'→c'.kn=c.kn)∧(∀os g σ,uJ T c≠.call os g σ c')∧∀x y,uJ T c≠.alt x y:=by
 refine ⟨fun os fs h=>?_,fun os g σ h=>?_,fun x y h=>?_⟩
 all_goals unfold uJ at h
 all_goals repeat' split at h
 all_goals try simp only at h
 all_goals repeat' split at h
 all_goals first | (cases h;done) | (cases h;rfl)
theorem E5 {T:bq} {E:Ex} {c c':cB} {p:List Nat} {k:fC} {sc:List SB} {d:Bool}:(∀os fs,BR T E c p k sc d=.next os fs c'→c'.kn=c.kn)∧(∀os g σ,BR T E c p k sc d=.call os g σ c'→c'.kn=c.kn) ∧
  ∀x y,BR T E c p k sc d=.alt x y→(x.nv=c.nv∧x.hp=c.hp)∧y.nv=c.nv∧y.hp=c.hp:=by
 refine ⟨fun os fs h=>?_,fun os g σ h=>?_,fun x y h=>?_⟩
 all_goals unfold BR at h
 all_goals simp only at h
 all_goals repeat' split at h
 all_goals first | (cases h;done) | (cases h;rfl) | exact sP.1 _ _ h | exact sP.2.1 _ _ _ h | exact absurd h (sP (c':=c').2.2 _ _) | exact zz.1 _ _ h | exact absurd h (zz.2.1 _ _ _) | exact absurd h (zz (c':=c').2.2 _ _) | (cases h;exact ⟨⟨rfl,rfl⟩,rfl,rfl⟩)
theorem zA {T:bq} {E:Ex} {c c':cB}:(∀os fs,pg T E c=.next os fs c'→c'.kn=c.kn)∧(∀os g σ,pg T E c=.call os g σ c'→c'.kn=c.kn) ∧
  ∀x y,pg T E c=.alt x y→(x.nv=c.nv∧x.hp=c.hp)∧y.nv=c.nv∧y.hp=c.hp:=by
 refine ⟨fun os fs h=>?_,fun os g σ h=>?_,fun x y h=>?_⟩
 all_goals unfold pg at h
 all_goals simp only at h
 all_goals repeat' split at h
 all_goals first | (cases h;done) | (cases h;rfl) | exact sP.1 _ _ h | exact sP.2.1 _ _ _ h | exact absurd h (sP (c':=c').2.2 _ _) | exact E5.1 _ _ h | exact E5.2.1 _ _ _ h | exact E5 (c':=c').2.2 _ _ h | exact Cc.1 _ _ h | exact absurd h (Cc.2.1 _ _ _) | exact absurd h (Cc (c':=c').2.2 _ _)
theorem Rx {T:bq} {E:Ex} {c c':cB} {os:List BE} {fs:List QF} (h:pg T E c=.next os fs c'):c'.kn=c.kn:=zA.1 _ _ h
theorem O3 {T:bq} {E:Ex} {c c':cB} {os:List BE} {g:Nat} {σ:Sub} (h:pg T E c=.call os g σ c'):c'.kn=c.kn:=zA.2.1 _ _ _ h
theorem oI {T:bq} {E:Ex} {c x y:cB} (h:pg T E c=.alt x y):x.nv=c.nv∧x.hp=c.hp∧y.nv=c.nv∧y.hp=c.hp:=by
 obtain ⟨⟨a,b⟩,c,d⟩:=zA (c':=x).2.2 _ _ h
 exact ⟨a,b,c,d⟩
section
variable {P:Program} {T:bq} {B:xz} {R:Ending→World→Prop} {E:Ex} {cs:kM} {inf:List (List OI)} {post:Env→Prop}
theorem O4 {σ:Sub} {ρ:Env} {ν:Nat→Addr} {fr:Fr} {a:Act} (hf:nX ρ ν fr a):∀{l:Fr},Ua σ fr l=true→nX (σ.env ρ ν) (σ.fQ ρ ν) l a
 | [],_=>fun t v h=>by simp [assoc] at h
 | (t,v) :: r,h=>by
  simp only [Ua,Bool.and_eq_true] at h
  intro u x hx
  unfold assoc at hx
  split at hx
  ·rename_i he
   simp only [beq_iff_eq] at he
   subst he
   simp at hx
   subst hx
   obtain ⟨h1,-⟩:=h
   split at h1
   ·rename_i y hy
    rw [OB h1]
    exact hf _ y hy
   ·cases h1
  ·exact O4 hf h.2 u x hx
structure W9 (P:Program) (T:bq) (B:xz) (R:Ending→World→Prop) (o:Bg) (G:Env→Prop) (ρ:Env) (ν:Nat→Addr) (nv n:Nat):Prop where
 lo:B.nv≤o.lo∧o.lo≤nv∧o.lo≤o.cT.nv
 az:B.n≤o.az∧o.az≤n∧o.az≤o.cT.hp.length
 sc:BC o.lo o.cT.kn=true∧BN o.az o.cT.gl=true∧xw o.lo o.az o.cT.dM=true
 goal:∃Lg O5,dL o.lo o.az Lg ρ O5 ν∧Kn.ok Lg o.cT.kn∧∀ρ' aO a aS0 w,dL o.lo o.az Lg ρ' O5 aO→Rel T B ρ' aO o.cT a aS0 w→G ρ'.num→Goal P T R o.cT a aS0 w
def HY (P:Program) (T:bq) (B:xz) (R:Ending→World→Prop) (op:List Bg) (Γ:List (Env→Prop)) (ρ:Env) (ν:Nat→Addr) (nv n:Nat):Prop :=
 ∀(i:Nat) (o:Bg),op[i]?=some o→∀G,Γ[i]?=some G→W9 P T B R o G ρ ν nv n
theorem HY.ext {op:List Bg} {Γ:List (Env→Prop)} {ρ ρ':Env} {ν aO:Nat→Addr} {nv n jy n':Nat} (h:HY P T B R op Γ ρ ν nv n) (hA:dL nv n ρ ρ' ν aO) (h1:nv≤jy) (h2:n≤n'):HY P T B R op Γ ρ' aO jy n':=by
 intro i o hi G hG
 obtain ⟨lo,az,sc,Lg,O5,q1,q2,q3⟩:=h i o hi G hG
 exact ⟨⟨lo.1,Nat.le_trans lo.2.1 h1,lo.2.2⟩,⟨az.1,Nat.le_trans az.2.1 h2,az.2.2⟩,sc,Lg,O5,q1.trans hA lo.2.1 az.2.1,q2,q3⟩
theorem JC {ρ:Env} {ν:Nat→Addr} {lo az:Nat} {cT c:cB} {σ:Sub} {os:List BE} {a:AS} {aS0:List AS} {w:World} (h:Hw lo az cT c=some (σ,os)) (ho:∀o∈os,o.den ρ=true) (hr:Rel T B ρ ν c a aS0 w)
  (h1:B.nv≤lo∧lo≤cT.nv) (h2:B.n≤az∧az≤cT.hp.length) (hs:BC lo cT.kn=true∧BN az cT.gl=true∧xw lo az cT.dM=true) (hk:Kn.ok ρ cT.kn) :
  Rel T B (σ.env ρ ν) (σ.fQ ρ ν) cT a aS0 w∧dL lo az ρ (σ.env ρ ν) ν (σ.fQ ρ ν)∧(Goal P T R cT a aS0 w→Goal P T R c a aS0 w):=by
 unfold Hw at h
 simp only at h
 split at h
 case isFalse=>cases h
 rename_i hc
 simp only [Bool.and_eq_true,beq_iff_eq] at hc
 obtain ⟨⟨⟨⟨⟨⟨⟨⟨c1,c2⟩,c3⟩,c4⟩,c5⟩,c6⟩,c7⟩,c8⟩,c9⟩:=hc
 simp only [Option.map_eq_some_iff,Prod.mk.injEq] at h
 obtain ⟨os',hinst,rfl,rfl⟩:=h
 generalize ES (WH {lo:=lo,az:=az} c.top.fr cT.top.fr) c.hp cT.hp=σ at *
 have hA:dL lo az ρ (σ.env ρ ν) ν (σ.fQ ρ ν):=by
  have:=σ.iH ρ ν
  rw [c1,c2] at this
  exact this
 have Xa:=qY c4
 have hn5:=qY c5
 have Xb:=xC c7
 have hgl:=zy c8
 have htodo:=rW c6
 refine ⟨⟨Nat.le_trans h1.1 h1.2,Nat.le_trans h2.1 h2.2,hr.iH.trans hA h1.1 h2.1,Dk hA hs.1 hk,?_,EP hinst ho hr.hp,hr.wr,?_,⟨O4 hr.top.fr c9,by rw [c3];exact hr.top.tmps,hr.top.defers,fun p k sc d hc=>by rw [Xa] at hc;cases hc⟩,?_,fun p k sc hc=>by rw [Xa] at hc;cases hc⟩,hA,?_⟩
 ·refine jo.ext hA hs.2.1 ?_
  rw [hgl];exact hr.gl
 ·intro k T' hk' hto htd
  obtain ⟨a',A,hB⟩:=nZ hinst ho hk' htd
  rw [hB.fQ,block_add]
  exact hr.own _ A hB.hp (hB.own hto) hB.live
 ·refine zm.ext hA hs.2.2 ?_
  rw [Xb];exact hr.dM
 ·intro hg
  unfold Goal at hg ⊢
  rw [Xb] at hg
  exact yz c3.symm htodo.symm (hn5.trans Xa.symm) hg
theorem mE {Γ:List (Env→Prop)} {ρ:Env}:∀{os:List BE} {kn:Kn} {k:Kn→Out},Sat post cs Γ ρ (pq kn os k)→Kn.ok ρ kn →
  (∀b∈os,b.den ρ=true)∧∃Gt,(∀ρ':Env,Kn.ok ρ' kn→(∀b∈os,b.den ρ'=true)→Kn.ok ρ' Gt)∧Sat post cs Γ ρ (k Gt)
 | [],kn,k,h,_=>⟨by simp,kn,fun _ h _=>h,h⟩
 | b :: r,kn,k,h,hk=>by
  unfold pq at h
  split at h
  ·rename_i hd
   obtain ⟨h1,Gt,h2,h3⟩:=mE h hk
   refine ⟨fun x hx=>?_,Gt,fun ρ' a b=>h2 ρ' a (fun x hx=>b x (by simp [hx])),h3⟩
   rcases List.mem_cons.1 hx with rfl | hx
   ·exact BE.dA hk hd
   ·exact h1 x hx
  ·cases h
  ·obtain ⟨h0,h⟩:=h
   obtain ⟨h1,Gt,h2,h3⟩:=mE (h h0) (og h0 hk)
   refine ⟨fun x hx=>?_,Gt,fun ρ' a c=>h2 ρ' (og (c b (by simp)) a) (fun x hx=>c x (by simp [hx])),h3⟩
   rcases List.mem_cons.1 hx with rfl | hx
   ·exact h0
   ·exact h1 x hx
theorem E8 {ρ:Env}:∀{fs:List QF} {kn:Kn},Kn.ok ρ kn→(∀f∈fs,f.den ρ)→Kn.ok ρ (Jg kn fs)
 | [],_,h,_=>h
 | .be b :: r,kn,h,hf=>E8 (fs:=r) (og (hf (.be b) (by simp)) h) fun f hm=>hf f (by simp [hm])
 | .cat .. :: r,kn,h,hf=>E8 (fs:=r) h fun f hm=>hf f (by simp [hm])
theorem Rel.Ea {ρ:Env} {ν:Nat→Addr} {c:cB} {a:AS} {aS0:List AS} {w:World} (h:Rel T B ρ ν c a aS0 w) {kn:Kn} (hk:Kn.ok ρ kn):Rel T B ρ ν {c with kn:=kn} a aS0 w :=
 ⟨h.nv,h.n,h.iH,hk,h.gl,h.hp,h.wr,h.own,h.top,h.dM,h.held⟩
theorem O6 {ρ:Env} {ν:Nat→Addr} {c:cB} {a:AS} {aS0:List AS} {w:World} {L:iV} {todo:List SI} (h:Je T E c=some (L,todo)) (hr:Rel T B ρ ν c a aS0 w) :
  Rel T B ρ ν {c with top:={c.top with todo:=todo}} a aS0 w∧(Goal P T R {c with top:={c.top with todo:=todo}} a aS0 w→Goal P T R c a aS0 w):=by
 unfold Je at h
 split at h
 case h_2=>cases h
 rename_i p k bY htodo
 split at h
 case h_2=>cases h
 split at h
 case h_2=>cases h
 rename_i x hat
 simp only [Option.some.injEq,Prod.mk.injEq] at h
 obtain ⟨-,rfl⟩:=h
 refine ⟨⟨hr.nv,hr.n,hr.iH,hr.kn,hr.gl,hr.hp,hr.wr,hr.own,⟨hr.top.fr,hr.top.tmps,hr.top.defers,fun p k sc d hc=>by rw [show c.top.cur=.none from bY] at hc;cases hc⟩,hr.dM,fun p k sc hc=>by rw [show c.top.cur=.none from bY] at hc;cases hc⟩,fun hg=>?_⟩
 unfold Goal eH at hg ⊢
 simp only [bY] at hg ⊢
 rw [htodo]
 simp only [List.map_cons,SI.jE,qp hat,Code.at,Option.getD_some,hat] at hg ⊢
 exact Reach.step (fun b cs=>step_loop) hg
theorem O7 {ρ:Env} {ν:Nat→Addr} {c:cB} {a:AS} {aS0:List AS} {w:World} {todo:List SI} (h:Jf E c=some todo) (hr:Rel T B ρ ν c a aS0 w) :
  Rel T B ρ ν {c with top:={c.top with todo:=todo}} a aS0 w∧(Goal P T R {c with top:={c.top with todo:=todo}} a aS0 w→Goal P T R c a aS0 w):=by
 unfold Jf at h
 split at h
 case h_2=>cases h
 rename_i p k bY htodo
 split at h
 case h_2=>cases h
 simp only [Option.some.injEq] at h
 subst h
 refine ⟨⟨hr.nv,hr.n,hr.iH,hr.kn,hr.gl,hr.hp,hr.wr,hr.own,⟨hr.top.fr,hr.top.tmps,hr.top.defers,fun p k sc d hc=>by rw [show c.top.cur=.none from bY] at hc;cases hc⟩,hr.dM,fun p k sc hc=>by rw [show c.top.cur=.none from bY] at hc;cases hc⟩,fun hg=>?_⟩
 unfold Goal eH at hg ⊢
 simp only [bY] at hg ⊢
 rw [htodo]
 exact Reach.step (fun b cs=>step_inLoop) hg
theorem Eb {c:cB}:∀{l:List Bg} {i j:Nat} {o:Bg},vX c l i=some (j,o)→i≤j∧l[j-i]?=some o
 | [],_,_,_,h=>by simp [vX] at h
 | x :: r,i,j,o,h=>by
  unfold vX at h
  split at h
  ·simp only [Option.some.injEq,Prod.mk.injEq] at h
   obtain ⟨rfl,rfl⟩:=h
   exact ⟨Nat.le_refl _,by simp⟩
  ·obtain ⟨h1,h2⟩:=Eb h
   refine ⟨by omega,?_⟩
   rw [show j-i=(j-(i+1))+1 by omega]
   simpa using h2
theorem O8 {L:iV} {c cT:cB} {todo:List SI} (h:Jc T L c todo=some cT):cT.kn=c.kn∧cT.gl=c.gl∧cT.dM=c.dM:=by
 unfold Jc at h
 split at h
 ·cases h
 split at h
 ·cases h
 simp only [Option.some.injEq] at h
 subst h
 exact ⟨rfl,rfl,rfl⟩
def vz (F:dZ) (B:xz) (post:Env→Prop) (e:Ending) (w':World):Prop :=
 ∃ρ' aO,dL F.nv F.hp.length B.ρ ρ' B.ν aO∧e=.returned (F.ret.den ρ' aO)∧aN ρ' aO F.hp' w'∧jL B.w B.W w'∧kX B.w.heap.size B.W ρ' aO F.hp'∧post ρ'.num
theorem Gu:∀{a b:Kn},vY a b=true→a=b
 | [],[],_=>rfl
 | [],_ :: _,h=>by simp [vY] at h
 | _ :: _,[],h=>by simp [vY] at h
 | (x,t) :: r,(y,u) :: s,h=>by
  simp only [vY,Bool.and_eq_true,beq_iff_eq] at h
  obtain ⟨⟨h1,h2⟩,h3⟩:=h
  rw [BE.aH h1,h2,Gu h3]
theorem Ec {x y:Fr} {t:Nat} {v:SV} (h:assoc t (EX x y)=some v):assoc t x=some v∧assoc t y=some v:=by
 have hm:=ku h
 unfold EX at hm
 simp only [List.mem_filter,Bool.and_eq_true] at hm
 obtain ⟨-,h1,h2⟩:=hm
 refine ⟨?_,?_⟩
 ·split at h1
  ·rename_i u hu
   rw [←SV.aH h1];exact hu
  ·cases h1
 ·split at h2
  ·rename_i u hu
   rw [←SV.aH h2];exact hu
  ·cases h2
theorem Lh {ρ:Env} {ν:Nat→Addr} {x y:cB} {a:AS} {aS0:List AS} {w:World} (h:sN x y=true) (hr:Rel T B ρ ν x a aS0 w) :
  Rel T B ρ ν (nP x y) a aS0 w∧(Goal P T R (nP x y) a aS0 w→Goal P T R x a aS0 w):=by
 simp only [sN,Bool.and_eq_true,beq_iff_eq] at h
 obtain ⟨⟨⟨⟨⟨⟨⟨⟨h1,h2⟩,h3⟩,h4⟩,h5⟩,h6⟩,h7⟩,h8⟩,h9⟩:=h
 have hx:=qY h6
 refine ⟨⟨hr.nv,hr.n,hr.iH,hr.kn,hr.gl,hr.hp,hr.wr,hr.own,⟨fun t v ht=>hr.top.fr t v (Ec ht).1,hr.top.tmps,hr.top.defers,hr.top.held⟩,hr.dM,hr.held⟩,fun hg=>?_⟩
 unfold Goal eH at hg ⊢
 simp only [nP,hx] at hg ⊢
 exact hg
theorem Li {ρ:Env} {ν:Nat→Addr} {x y:cB} {a:AS} {aS0:List AS} {w:World} (h:sN x y=true) (hr:Rel T B ρ ν y a aS0 w) :
  Rel T B ρ ν (nP x y) a aS0 w∧(Goal P T R (nP x y) a aS0 w→Goal P T R y a aS0 w)∧y.nv=(nP x y).nv∧y.hp=(nP x y).hp:=by
 simp only [sN,Bool.and_eq_true,beq_iff_eq] at h
 obtain ⟨⟨⟨⟨⟨⟨⟨⟨h1,h2⟩,h3⟩,h4⟩,h5⟩,h6⟩,h7⟩,h8⟩,h9⟩:=h
 have hx:=qY h6
 have hy:=qY h7
 replace h2:=Gu h2
 replace h3:=zy h3
 replace h4:=zx h4
 replace h8:=rW h8
 replace h9:=xC h9
 refine ⟨⟨by show B.nv≤x.nv;rw [h1];exact hr.nv,by show B.n≤x.hp.length;rw [h4];exact hr.n,hr.iH,by show Kn.ok ρ x.kn;rw [h2];exact hr.kn,by show jo ν x.gl;rw [h3];exact hr.gl,by show aN ρ ν x.hp w;rw [h4];exact hr.hp,hr.wr,by show kX _ _ ρ ν x.hp;rw [h4];exact hr.own,⟨fun t v ht=>hr.top.fr t v (Ec ht).2,by show T.ntmps x.top.f≤_;rw [h5];exact hr.top.tmps,hr.top.defers,fun p k sc d hc=>(by
     have hc:x.top.cur=.dr p k sc d:=hc
     rw [hx] at hc;cases hc)⟩,by show zm T ρ ν x.dM aS0;rw [h9];exact hr.dM,fun p k sc hc=>(by
     have hc:x.top.cur=.dr p k sc false:=hc
     rw [hx] at hc;cases hc)⟩,fun hg=>?_,h1.symm,h4.symm⟩
 unfold Goal eH at hg ⊢
 simp only [nP,hx] at hg
 simp only [hy]
 rw [←h5,←h8,←h9]
 exact hg
theorem Ry {ρ:Env} {kn:Kn} {os:List BE} (hk:Kn.ok ρ kn) (h:Ub kn os=true):∀b∈os,b.den ρ=true:=by
 intro b hb
 have:=List.all_eq_true.1 h b hb
 split at this
 ·rename_i hd
  exact BE.dA hk hd
 ·cases this
theorem Rz {ρ:Env} {ν:Nat→Addr} {c:cB} {a:AS} {aS0:List AS} {w:World} {fl m:Nat} (hB:B.n≤fl) (hf:fl≤c.hp.length) (hr:Rel T B ρ ν c a aS0 w) :
  Rel T B ρ ν (vZ fl m c) a aS0 w∧(Goal P T R (vZ fl m c) a aS0 w→Goal P T R c a aS0 w)∧(vZ fl m c).nv=c.nv∧fl≤(vZ fl m c).hp.length:=by
 unfold vZ
 split
 ·rename_i hc
  simp only [Bool.and_eq_true,Nat.blt_eq,Nat.ble_eq] at hc
  obtain ⟨⟨⟨h1,h2⟩,h3⟩,-⟩:=hc
  have hat:∀(k:Nat) (sb:SB),(c.hp.take m)[k]?=some sb→c.hp[k]?=some sb:=fun k sb hk=>by
   rw [List.getElem?_take] at hk
   split at hk
   ·exact hk
   ·cases hk
  have hlen:(c.hp.take m).length=m:=by rw [List.length_take];omega
  refine ⟨⟨hr.nv,by show B.n≤(c.hp.take m).length;omega,hr.iH,hr.kn,hr.gl,⟨fun i j x y hi hj=>hr.hp.inj i j x y (hat i x hi) (hat j y hj),fun k sb hk=>hr.hp.aI k sb (hat k sb hk),fun k sb hk=>hr.hp.rd k sb (hat k sb hk)⟩,hr.wr,fun k sb hk=>hr.own k sb (hat k sb hk),hr.top,hr.dM,fun p k sc bY=>?_⟩,fun hg=>hg,rfl,by show fl≤(c.hp.take m).length;omega⟩
  have bY:c.top.cur=.dr p k sc false:=bY
  unfold OO at h3
  rw [bY] at h3
  exact h3
 ·exact ⟨hr,fun hg=>hg,rfl,hf⟩
theorem M5 {ρ:Env} {ν:Nat→Addr} {c c':cB} {a:AS} {aS0:List AS} {w:World} {fl:Nat} {ls:List Nat} (hB:B.n≤fl) (hf:fl≤c'.hp.length) (hr:Rel T B ρ ν c' a aS0 w) :
  Rel T B ρ ν (sO fl c ls c').1 a aS0 w∧(Goal P T R (sO fl c ls c').1 a aS0 w→Goal P T R c' a aS0 w)∧(sO fl c ls c').1.nv=c'.nv∧fl≤(sO fl c ls c').1.hp.length:=by
 unfold sO
 split
 ·exact ⟨hr,fun hg=>hg,rfl,hf⟩
 ·split
  ·split
   ·exact Rz hB hf hr
   ·exact ⟨hr,fun hg=>hg,rfl,hf⟩
  ·exact ⟨hr,fun hg=>hg,rfl,hf⟩
theorem wm (hT:dE P T) (hE:E.cons=cs.map (·.1)) (hC:∀k pre post,(k,pre,post)∈cs→jF k=true∧bF P k pre post) (hS:kL T E.sched inf=true) {R:Ending→World→Prop} {ρ:Env} {d fl:Nat} (hB:B.n≤fl) :
  ∀(n:Nat) {ls:List Nat} {c z:cB} {ν:Nat→Addr} {a:AS} {aS0:List AS} {w:World},zk T E d fl n ls c=some z→fl≤c.hp.length→Rel T B ρ ν c a aS0 w →
   (∀aO a' as' w',dL c.nv fl ρ ρ ν aO→c.nv≤z.nv→fl≤z.hp.length→Rel T B ρ aO z a' as' w'→Goal P T R z a' as' w')→Goal P T R c a aS0 w
 | 0,_,_,_,_,_,_,_,h,_,_,_=>by simp [zk] at h
 | n+1,ls,c,z,ν,a,aS0,w,h,hf,hr,hc=>by
  unfold zk at h
  have hs:=JB (P:=P) (R:=R) (E:=E) hT hE hC hS hr
  split at h
  ·rename_i os fs c' hst
   rw [hst] at hs
   split at h
   ·rename_i hb
    simp only [Bool.and_eq_true,List.isEmpty_iff] at hb
    refine hs (Ry hr.kn hb.2) fun ρ' aO a' as' w' hA hfs hle ho TP hr'=>?_
    obtain rfl:=hfs hb.1
    split at h
    rename_i c2 YM hcl
    obtain ⟨k1,k2,k3,k4⟩:=M5 (P:=P) (R:=R) (c:=c) (ls:=ls) hB (Nat.le_trans hf hle.2) hr'
    rw [hcl] at k1 k2 k3 k4
    apply k2
    have hA':dL c.nv fl ρ' ρ' ν aO:=⟨fun i hi=>hA.iv i hi,fun i hi=>hA.bv i hi,fun i hi=>hA.vv i hi,fun i hi=>hA.ic i hi,fun i hi=>hA.bc i hi,fun i hi=>hA.vc i hi,fun i hi=>hA.bl i (Nat.lt_of_lt_of_le hi hf)⟩
    split at h
    ·cases h
     exact hc aO a' as' w' hA' (by rw [k3];exact hle.1) k4 k1
    ·refine wm hT hE hC hS hB n h k4 k1 fun Ed a2 Ee w2 hA2 l1 l2 hr2=>?_
     rw [k3] at hA2 l1
     exact hc Ed a2 Ee w2 (hA'.trans hA2 hle.1 (Nat.le_refl _)) (Nat.le_trans hle.1 l1) l2 hr2
   ·cases h
  ·rename_i x y hst
   rw [hst] at hs
   obtain ⟨e1,e2,e3,e4⟩:=oI hst
   split at h
   ·rename_i x' y' hx hy
    split at h
    ·rename_i hm
     cases h
     refine hs (fun hr'=>wm hT hE hC hS hB n hx (by rw [e2];exact hf) hr' fun Ed a2 Ee w2 hA l1 l2 hr2=>?_) (fun hr'=>wm hT hE hC hS hB n hy (by rw [e4];exact hf) hr' fun Ed a2 Ee w2 hA l1 l2 hr2=>?_)
     ·obtain ⟨m1,m2⟩:=Lh (P:=P) (R:=R) hm hr2
      rw [e1] at hA l1
      exact m2 (hc Ed a2 Ee w2 hA l1 l2 m1)
     ·obtain ⟨m1,m2,m3,m4⟩:=Li (P:=P) (R:=R) hm hr2
      rw [e3] at hA
      rw [e3,m3] at l1
      rw [m4] at l2
      exact m2 (hc Ed a2 Ee w2 hA l1 l2 m1)
    ·cases h
   ·cases h
  ·cases h
theorem lZ (hT:dE P T) (hE:E.cons=cs.map (·.1)) (hC:∀k pre post,(k,pre,post)∈cs→jF k=true∧bF P k pre post) (hS:kL T E.sched inf=true) (hB:B.nv=E.fin.nv∧B.n=E.fin.hp.length) :
  ∀(n:Nat) {op:List Bg} {Γ:List (Env→Prop)} {ρ:Env} {ν:Nat→Addr} {c:cB} {a:AS} {aS0:List AS} {w:World},op.length=Γ.length→HY P T B (vz E.fin B post) op Γ ρ ν c.nv c.hp.length→Sat post cs Γ ρ (exec T E n op c)→Rel T B ρ ν c a aS0 w →
   Goal P T (vz E.fin B post) c a aS0 w
 | 0,op,Γ,ρ,ν,c,a,aS0,w,_,_,h,hr=>by cases h
 | n+1,op,Γ,ρ,ν,c,a,aS0,w,hlen,hO,h,hr=>by
  unfold exec at h
  rw [cB.norm_eq] at h
  split at h
  ·
   rename_i L todo hat
   obtain ⟨hr1,hgo⟩:=O6 (P:=P) (R:=vz E.fin B post) hat hr
   split at h
   ·cases h
   rename_i cT htm
   split at h
   ·cases h
   rename_i σ os hinst
   split at h
   case isFalse=>cases h
   rename_i hsc
   simp only [Bool.and_eq_true,Nat.ble_eq] at hsc
   obtain ⟨⟨⟨hsc1,hsc2⟩,hle1⟩,hle2⟩:=hsc
   obtain ⟨hos,Gt,hkn',h'⟩:=mE h hr.kn
   obtain ⟨Inv,m,hI,hbody⟩:=h'
   obtain ⟨t1,t2,t3⟩:=O8 htm
   have rO:=hsc1
   simp only [cB.sc,Bool.and_eq_true] at rO
   obtain ⟨⟨⟨⟨s1,s2⟩,s3⟩,s4⟩,s5⟩:=rO
   have Xc:BC c.nv cT.kn=true∧BN c.hp.length cT.gl=true∧xw c.nv c.hp.length cT.dM=true:=by rw [t1,t2,t3];exact ⟨s1,s5,s4⟩
   have YS:Kn.ok ρ cT.kn:=by rw [t1];exact hr.kn
   obtain ⟨Xd,Xe,hback⟩:=JC (P:=P) (R:=vz E.fin B post) hinst hos hr1 ⟨hr.nv,hle1⟩ ⟨hr.n,hle2⟩ Xc YS
   apply hgo
   apply hback
   have main:∀(M:Nat) (ρ':Env) (aO:Nat→Addr) (a:AS) (aS0:List AS) (w:World),dL c.nv c.hp.length ρ ρ' ν aO→Rel T B ρ' aO cT a aS0 w→Inv ρ'.num→m ρ'.num=M→Goal P T (vz E.fin B post) cT a aS0 w:=by
    intro M
    induction M using Nat.strongRecOn with
    | ind M ih =>
     intro ρ' aO a aS0 w hA hrel hinv hm
     have hj:=hA.join
     have zB:=hbody ρ' (by rw [hj];exact hinv)
     rw [hj] at zB
     refine lZ hT hE hC hS hB n (op:=⟨c.nv,c.hp.length,cT⟩ :: op) (Γ:=(fun IJ=>Inv IJ∧m IJ<m ρ'.num) :: Γ) (by simp [hlen]) ?_ zB hrel
     intro i o hi G hG
     cases i with
     | zero =>
      simp at hi hG
      subst hi hG
      refine ⟨⟨hr.nv,hle1,hle1⟩,⟨hr.n,hle2,hle2⟩,Xc,ρ,ν,hA,YS,fun ρ2 Ed a2 Ee w2 hA2 hr2 hG2=>?_⟩
      exact ih _ (by rw [←hm];exact hG2.2) ρ2 Ed a2 Ee w2 hA2 hr2 hG2.1 rfl
     | succ i =>
      have:=(hO.ext hA hle1 hle2) i o (by simpa using hi) G (by simpa using hG)
      exact this
   exact main _ _ _ a aS0 w Xe Xd hI rfl
  split at h
  ·
   rename_i todo hat
   obtain ⟨hr1,hgo⟩:=O7 (P:=P) (R:=vz E.fin B post) hat hr
   split at h
   ·cases h
   rename_i i o hfind
   split at h
   ·cases h
   rename_i σ os hinst
   obtain ⟨hos,Gt,hkn',h'⟩:=mE h hr.kn
   obtain ⟨G,hG,hGn⟩:=h'
   obtain ⟨-,YT⟩:=Eb hfind
   rw [Nat.sub_zero] at YT
   obtain ⟨lo,az,sc,Lg,O5,q1,q2,q3⟩:=hO i o YT G hG
   obtain ⟨Xd,Xe,hback⟩:=JC (P:=P) (R:=vz E.fin B post) hinst hos hr1 ⟨lo.1,lo.2.2⟩ ⟨az.1,az.2.2⟩ sc (Dk q1 sc.1 q2)
   apply hgo
   apply hback
   exact q3 _ _ a aS0 w (q1.trans Xe (Nat.le_refl _) (Nat.le_refl _)) Xd hGn
  have hs:=JB (P:=P) (R:=vz E.fin B post) (E:=E) hT hE hC hS hr
  split at h
  ·rename_i os fs c' hst
   rw [hst] at hs
   obtain ⟨h1,Lj,h2,h3⟩:=mE h hr.kn
   refine hs h1 fun ρ' aO a' as' w' hA hfs hle ho hf hr'=>?_
   have hk1:Kn.ok ρ' Lj:=h2 ρ' (by
     have:=hr'.kn
     rwa [Rx hst] at this) ho
   have hk2:=E8 hk1 hf
   have hO':=hO.ext hA hle.1 hle.2
   refine lZ hT hE hC hS hB n (c:={c' with kn:=Jg Lj fs}) hlen hO' ?_ (hr'.Ea hk2)
   unfold La at h3
   split at h3
   ·rw [hfs rfl];exact h3
   ·have:=h3 ρ' (by rw [hA.join];exact hf)
    rw [hA.join] at this
    exact this
  ·rename_i x y hst
   rw [hst] at hs
   obtain ⟨e1,e2,e3,e4⟩:=oI hst
   split at h
   ·rename_i z hz
    unfold Jh at hz
    split at hz
    case isFalse=>cases hz
    split at hz
    case h_2=>cases hz
    rename_i x' y' hx hy
    split at hz
    case isFalse=>cases hz
    rename_i hm
    cases hz
    refine hs (fun hr'=>wm hT hE hC hS hr.n n hx (by rw [e2];exact Nat.le_refl _) hr' fun Ed a2 Ee w2 hA l1 l2 hr2=>?_) (fun hr'=>wm hT hE hC hS hr.n n hy (by rw [e4];exact Nat.le_refl _) hr' fun Ed a2 Ee w2 hA l1 l2 hr2=>?_)
    ·obtain ⟨m1,m2⟩:=Lh (P:=P) (R:=vz E.fin B post) hm hr2
     rw [e1] at hA l1
     exact m2 (lZ hT hE hC hS hB n hlen (hO.ext hA l1 l2) h m1)
    ·obtain ⟨m1,m2,m3,m4⟩:=Li (P:=P) (R:=vz E.fin B post) hm hr2
     rw [e3] at hA
     rw [e3,m3] at l1
     rw [m4] at l2
     exact m2 (lZ hT hE hC hS hB n hlen (hO.ext hA l1 l2) h m1)
   exact hs (fun hr'=>lZ hT hE hC hS hB n hlen (hO.ext (dL.refl _ _ _ _) (by rw [(oI hst).1];exact Nat.le_refl _) (by rw [(oI hst).2.1];exact Nat.le_refl _)) h.1 hr')
    (fun hr'=>lZ hT hE hC hS hB n hlen (hO.ext (dL.refl _ _ _ _) (by rw [(oI hst).2.2.1];exact Nat.le_refl _) (by rw [(oI hst).2.2.2];exact Nat.le_refl _)) h.2 hr')
  ·rename_i os g σ c' hst
   rw [hst] at hs
   obtain ⟨h1,Lj,h2,h3⟩:=mE h hr.kn
   obtain ⟨k,pre,post',hcs,hpre,hbody⟩:=h3
   refine hs h1 k pre post' hcs hpre fun ρ' aO a' as' w' hA hle ho hpo hr'=>?_
   have hk1:Kn.ok ρ' Lj:=h2 ρ' (by
     have:=hr'.kn
     rwa [O3 hst] at this) ho
   have zB:=hbody ρ' (by rw [hA.join];exact hpo)
   rw [hA.join] at zB
   exact lZ hT hE hC hS hB n (c:={c' with kn:=Lj}) hlen (hO.ext hA hle.1 hle.2) zB (hr'.Ea hk1)
  ·rename_i b hst
   obtain ⟨ht,hf⟩:=h
   cases hb:b.den ρ with
   | true=>exact lZ hT hE hC hS hB n (c:={c with kn:=jk b true c.kn}) hlen hO (ht hb) (hr.Ea (og hb hr.kn))
   | false=>exact lZ hT hE hC hS hB n (c:={c with kn:=jk b false c.kn}) hlen hO (hf hb) (hr.Ea (og hb hr.kn))
  ·rename_i os v hst
   rw [hst] at hs
   split at h
   ·rename_i σ os' hfin
    obtain ⟨h1,Lj,h2,h3⟩:=mE h hr.kn
    refine hs (fun b hb=>h1 b (List.mem_append_left _ hb)) fun _=>?_
    unfold OM at hfin
    simp only at hfin
    split at hfin
    case isFalse=>cases hfin
    rename_i hc
    simp only [Bool.and_eq_true,beq_iff_eq] at hc
    obtain ⟨⟨c1,c2⟩,c3⟩:=hc
    simp only [Option.map_eq_some_iff,Prod.mk.injEq] at hfin
    obtain ⟨os2,hinst,rfl,rfl⟩:=hfin
    generalize ES (Wx {lo:=E.fin.nv,az:=E.fin.hp.length} E.fin.ret v) c.hp E.fin.hp'=σ at *
    have ho2:∀o∈os2,o.den ρ=true:=fun o hm=>h1 o (List.mem_append_right _ hm)
    have hA:=σ.iH ρ ν
    rw [c1,c2] at hA
    refine ⟨σ.env ρ ν,σ.fQ ρ ν,?_,by rw [OB c3],EP hinst ho2 hr.hp,hr.wr,?_,h3⟩
    ·have h5:=hr.iH
     rw [hB.1,hB.2] at h5
     exact h5.trans hA (Nat.le_refl _) (Nat.le_refl _)
    ·intro k T' hk' hto htd
     obtain ⟨a',A,hIB⟩:=nZ hinst ho2 hk' htd
     rw [hIB.fQ,block_add]
     exact hr.own _ A hIB.hp (hIB.own hto) hIB.live
   ·cases h
  ·cases h
  ·cases h
end
theorem IE.E9 (ρ:Env):∀e:IE,e.den ρ.num=e.den ρ:=by
 intro e
 induction e <;> simp_all [IE.den,Env.num]
theorem BE.E9 (ρ:Env):∀e:BE,e.den ρ.num=e.den ρ:=by
 intro e
 induction e <;> simp_all [BE.den,IE.E9]
 ·rfl
 ·rfl
theorem Kn.Xf {ρ:Env} {kn:Kn} (h:Kn.ok ρ.num kn):Kn.ok ρ kn:=fun p hp=>by rw [←BE.E9];exact h p hp
section
variable {post:Env→Prop} {cs:kM} {Γ:List (Env→Prop)} {ρ:Env}
theorem Sat.fin {σ:Sub} (h:post (σ.af ρ)):Sat post cs Γ ρ (.fin σ):=h
theorem Sat.br {c:BE} {t e:Out} (h1:c.den ρ=true→Sat post cs Γ ρ t) (h2:c.den ρ=false→Sat post cs Γ ρ e):Sat post cs Γ ρ (.br c t e):=⟨h1,h2⟩
theorem Sat.ob {b:BE} {k:Out} (h1:b.den ρ=true) (h2:Sat post cs Γ ρ k):Sat post cs Γ ρ (.ob b k):=⟨h1,fun _=>h2⟩
theorem Sat.alt {a b:Out} (h1:Sat post cs Γ ρ a) (h2:Sat post cs Γ ρ b):Sat post cs Γ ρ (.alt a b):=⟨h1,h2⟩
theorem Sat.new {nv:Nat} {fs:List QF} {k:Out} (h:∀e:Env,(∀f∈fs,f.den (ρ.join nv e))→Sat post cs Γ (ρ.join nv e) k):Sat post cs Γ ρ (.new nv fs k):=h
theorem Sat.loop {nv:Nat} {σ:Sub} {k:Out} (Inv:Env→Prop) (m:Env→Nat) (h0:Inv (σ.af ρ)) (h:∀e:Env,Inv (ρ.join nv e).num→Sat post cs ((fun ρ'=>Inv ρ'∧m ρ'<m (ρ.join nv e).num) :: Γ) (ρ.join nv e) k):Sat post cs Γ ρ (.loop nv σ k):=⟨Inv,m,h0,h⟩
theorem Sat.back {i:Nat} {σ:Sub} {G:Env→Prop} (hG:Γ[i]?=some G) (h:G (σ.af ρ)):Sat post cs Γ ρ (.back i σ):=⟨G,hG,h⟩
theorem Sat.call {g:Nat} {σ:Sub} {nv:Nat} {k:Out} {c:dZ} {pre post':Env→Prop} (hc:cs[g]?=some (c,pre,post')) (h1:pre (σ.af ρ)) (h2:∀e:Env,post' (aJ σ c.nv nv ρ (ρ.join nv e))→Sat post cs Γ (ρ.join nv e) k):Sat post cs Γ ρ (.call g σ nv k):=⟨c,pre,post',hc,h1,h2⟩
end
theorem dH {P:Program} {T:bq} (hT:dE P T) {E:Ex} {cs:kM} {inf:List (List OI)} (hE:E.cons=cs.map (·.1)) (hC:∀k pre post,(k,pre,post)∈cs→jF k=true∧bF P k pre post) (hS:kL T E.sched inf=true)
  {n:Nat} {kn:Kn} {F:dZ} {out:Out} (hF:E.fin=F) (hex:exec T E n [] (fT F.f F.nv kn F.gl F.hp F.args)=out) (hf:(match T.f F.f with | some fn=>fn.body.isSome && !(fn.name == "runtime.NumGoroutine") && decide (F.args.length≤fn.ntmps) | none=>false)=true)
  {pre post:Env→Prop} (hk:∀ρ:Env,pre ρ.num→Kn.ok ρ.num kn) (hs:∀ρ:Env,pre ρ.num→Sat post cs [] ρ out):bF P F pre post:=by
 subst hF
 split at hf
 case h_2=>cases hf
 rename_i fn hfn
 simp only [Bool.and_eq_true,Bool.not_eq_true',decide_eq_true_eq] at hf
 obtain ⟨⟨hb,hname⟩,hn⟩:=hf
 have Gr:=hT.fns _ fn (hT.Mk hfn)
 refine ⟨⟨fn,Gr,hb,hname⟩,fun ρ ν w jg hgl hpre=>?_⟩
 obtain ⟨body,hbody⟩:=Option.isSome_iff_exists.1 hb
 have hnt:T.ntmps E.fin.f=fn.ntmps:=by unfold bq.ntmps;rw [hfn];rfl
 have hbd:T.body E.fin.f=body:=by unfold bq.body;rw [hfn];simp [hbody]
 refine Reach.calls Gr hbody ?_
 have zB:=hs ρ hpre
 rw [←hex] at zB
 have hg:=lZ (P:=P) (B:=⟨w,jX ρ ν E.fin.hp,ρ,ν,E.fin.nv,E.fin.hp.length⟩) hT hE hC hS ⟨rfl,rfl⟩ n (op:=[]) (Γ:=[]) (ρ:=ρ) (ν:=ν) (c:=fT E.fin.f E.fin.nv kn E.fin.gl E.fin.hp E.fin.args)
  (a:=({tmps:=(E.fin.args.map (·.den ρ ν)).toArray ++ Array.replicate (fn.ntmps-(E.fin.args.map (·.den ρ ν)).toArray.size) undef,defers:=[]},fun _=>True)) (aS0:=[]) (w:=w) rfl (fun i o h=>by simp at h) zB
  ⟨Nat.le_refl _,Nat.le_refl _,dL.refl _ _ _ _,Kn.Xf (hk ρ hpre),hgl,jg,jL.refl _ _,fun k sb h1 h2 h3=>.inr ⟨k,sb,h1,h2,h3,rfl⟩,⟨?_,?_,rfl,fun p k sc d hc=>by cases hc⟩,trivial,fun p k sc hc=>by cases hc⟩
 ·unfold Goal eH fT at hg
  simp only [List.map_cons,List.map_nil,SI.jE,hbd,Code.at,Option.getD_some] at hg
  exact hg
 ·intro t v ht
  obtain ⟨k,x,rfl,hx,rfl⟩:=zu (ρ:=ρ) (ν:=ν) ht
  have hk:k<E.fin.args.length:=(List.getElem?_eq_some_iff.1 hx).1
  rw [Array.getD_eq_getD_getElem?,Array.getElem?_append]
  simp [hk,SV.den,(List.getElem?_eq_some_iff.1 hx).2]
 ·rw [show T.ntmps (fT E.fin.f E.fin.nv kn E.fin.gl E.fin.hp E.fin.args).top.f=fn.ntmps from hnt]
  simp
  omega
end Go.Rex
