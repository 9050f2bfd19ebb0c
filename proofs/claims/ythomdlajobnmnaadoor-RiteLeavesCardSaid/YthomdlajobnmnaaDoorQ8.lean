/- part 8 of the proof -/
import Derived.Test.YthomdlajobnmnaaDoorQ7
set_option linter.unusedSimpArgs false
set_option linter.unusedVariables false
namespace Go.Rex
theorem O6 {a b:SI} (h:Je a b=true):a=b:=by cases a <;> cases b <;> simp_all [Je]
theorem rU:∀{a b:List SI},nu a b=true→a=b
 | [],[],_=>rfl
 | [],_ :: _,h=>by simp [nu] at h
 | _ :: _,[],h=>by simp [nu] at h
 | a :: r,b :: s,h=>by
  simp only [nu,Bool.and_eq_true] at h
  rw [O6 h.1,rU h.2]
theorem D6:∀{a b:List SW},sI a b=true→a=b
 | [],[],_=>rfl
 | [],_ :: _,h=>by simp [sI] at h
 | _ :: _,[],h=>by simp [sI] at h
 | a :: r,b :: s,h=>by
  simp only [sI,Bool.and_eq_true] at h
  rw [SW.aG h.1,D6 h.2]
theorem SV.aG {a b:SV} (h:a.same b=true):a=b:=by
 cases a <;> cases b <;> simp only [SV.same] at h <;> try cases h
 ·rw [SW.aG h]
 ·rw [D6 h]
 ·simp only [Bool.and_eq_true] at h
  rw [BE.aG h.1,SW.aG h.2]
theorem Gq:∀{a b:Fr},vW a b=true→a=b
 | [],[],_=>rfl
 | [],_ :: _,h=>by simp [vW] at h
 | _ :: _,[],h=>by simp [vW] at h
 | (t,a) :: r,(u,b) :: s,h=>by
  simp only [vW,Bool.and_eq_true,beq_iff_eq] at h
  rw [h.1.1,SV.aG h.1.2,Gq h.2]
theorem fA.aG:∀{a b:fA},a.same b=true→a=b:=by
 intro a
 induction a with
 | nil c=>intro b h;cases b <;> simp [fA.same] at h;rw [Dy h]
 | take i D k ih=>intro b h;cases b <;> simp [fA.same] at h;rw [h.1.1,h.1.2,ih h.2]
 | drop k ih=>intro b h;cases b <;> simp [fA.same] at h;rw [ih h]
 | solo i k ih=>intro b h;cases b <;> simp [fA.same] at h;rw [h.1,ih h.2]
 | go i k ih=>intro b h;cases b <;> simp [fA.same] at h;rw [h.1,ih h.2]
 | alt i k j l ihk ihl=>intro b h;cases b <;> simp [fA.same] at h;rw [h.1.1.1,ihk h.1.1.2,h.1.2,ihl h.2]
theorem SB.aG {a b:SB} (h:a.same b=true):a=b:=by
 obtain ⟨_,_,_,_,_,_,_,_,_,_⟩:=a
 obtain ⟨_,_,_,_,_,_,_,_,_,_⟩:=b
 simp only [SB.same,Bool.and_eq_true,beq_iff_eq] at h
 obtain ⟨⟨⟨⟨⟨⟨⟨⟨⟨h1,h2⟩,h3⟩,h4⟩,h5⟩,h6⟩,h7⟩,h8⟩,h9⟩,h10⟩:=h
 simp only [SB.mk.injEq]
 exact ⟨h7,wN h4,lY h5,rQ h6,h1,h3,xg h9,h8,h2,BE.aG h10⟩
theorem zq:∀{a b:List SB},tH a b=true→a=b
 | [],[],_=>rfl
 | [],_ :: _,h=>by simp [tH] at h
 | _ :: _,[],h=>by simp [tH] at h
 | a :: r,b :: s,h=>by
  simp only [tH,Bool.and_eq_true] at h
  rw [SB.aG h.1,zq h.2]
theorem oI.aG {a b:oI} (h:a.same b=true):a=b:=by
 cases a <;> cases b <;> simp only [oI.same] at h <;> try cases h
 ·rfl
 ·simp only [Bool.and_eq_true,beq_iff_eq] at h
  rw [h.1,h.2]
 ·simp only [Bool.and_eq_true,beq_iff_eq] at h
  rw [h.1.1.1,fA.aG h.1.1.2,zq h.1.2,h.2]
theorem bz.aG {a b:bz} (h:a.same b=true):a=b:=by
 obtain ⟨_,_,_,_⟩:=a
 obtain ⟨_,_,_,_⟩:=b
 simp only [bz.same,Bool.and_eq_true,beq_iff_eq] at h
 obtain ⟨⟨⟨h1,h2⟩,h3⟩,h4⟩:=h
 rw [h1,Gq h2,oI.aG h3,rU h4]
theorem xB:∀{a b:List (bz × Nat)},ql a b=true→a=b
 | [],[],_=>rfl
 | [],_ :: _,h=>by simp [ql] at h
 | _ :: _,[],h=>by simp [ql] at h
 | (F,i) :: r,(G,j) :: s,h=>by
  simp only [ql,Bool.and_eq_true,beq_iff_eq] at h
  rw [bz.aG h.1.1,h.1.2,xB h.2]
theorem zt:∀{a b:List (Nat × Nat)},tJ a b=true→a=b
 | [],[],_=>rfl
 | [],_ :: _,h=>by simp [tJ] at h
 | _ :: _,[],h=>by simp [tJ] at h
 | (x,i) :: r,(y,j) :: s,h=>by
  simp only [tJ,Bool.and_eq_true,beq_iff_eq] at h
  rw [h.1.1,h.1.2,zt h.2]
theorem qW {c:oI} (h:c.isNone=true):c=.none:=by cases c <;> simp_all [oI.isNone]
theorem Rv {k:eH} {c c':cz} {args:List SW} {σ:Sub} {os:List BE} {v:SV} (h:Hz k c args=some (σ,os,v,c')):c'.kn=c.kn:=by
 unfold Hz at h
 simp only at h
 split at h
 ·split at h
  ·cases h
  ·split at h
   ·cases h;rfl
   ·cases h
 ·cases h
theorem sN {T:bq} {E:Ex} {c c':cz} {ops:Array Oper} {i:Nat} {eO:bz→bz}:(∀os fs,xx T E c ops i eO=.next os fs c'→c'.kn=c.kn)∧(∀os g σ,xx T E c ops i eO=.call os g σ c'→c'.kn=c.kn)∧∀x y,xx T E c ops i eO≠.alt x y:=by
 refine ⟨fun os fs h=>?_,fun os g σ h=>?_,fun x y h=>?_⟩
 all_goals unfold xx at h
 all_goals repeat' split at h
 all_goals first | (cases h;done) | (cases h;rfl) | skip
 rename_i hby _
 cases h
 have:=Rv hby
 exact this
theorem zu {T:bq} {c c':cz} {ops:Array Oper} {i D:Nat} {p:List Nat} {k:fA} {sc:List SB}:(∀os fs,tK T c ops i D p k sc=.next os fs c'→c'.kn=c.kn)∧(∀os g σ,tK T c ops i D p k sc≠.call os g σ c')∧∀x y,tK T c ops i D p k sc≠.alt x y:=by
 refine ⟨fun os fs h=>?_,fun os g σ h=>?_,fun x y h=>?_⟩
 all_goals unfold tK at h
 all_goals repeat' split at h
 all_goals first | (cases h;done) | (cases h;rfl)
theorem BU {T:bq} {c c':cz}:(∀os fs,uI T c=.next os fs c'→c'.kn=c.kn)∧(∀os g σ,uI T c≠.call os g σ c')∧∀x y,uI T c≠.alt x y:=by
 refine ⟨fun os fs h=>?_,fun os g σ h=>?_,fun x y h=>?_⟩
 all_goals unfold uI at h
 all_goals repeat' split at h
 all_goals try simp only at h
 all_goals repeat' split at h
 all_goals first | (cases h;done) | (cases h;rfl)
theorem EX {T:bq} {E:Ex} {c c':cz} {p:List Nat} {k:fA} {sc:List SB} {d:Bool}:(∀os fs,BK T E c p k sc d=.next os fs c'→c'.kn=c.kn)∧(∀os g σ,BK T E c p k sc d=.call os g σ c'→c'.kn=c.kn) ∧
  ∀x y,BK T E c p k sc d=.alt x y→(x.nv=c.nv∧x.hp=c.hp)∧y.nv=c.nv∧y.hp=c.hp:=by
 refine ⟨fun os fs h=>?_,fun os g σ h=>?_,fun x y h=>?_⟩
 all_goals unfold BK at h
 all_goals simp only at h
 all_goals repeat' split at h
 all_goals first | (cases h;done) | (cases h;rfl) | exact sN.1 _ _ h | exact sN.2.1 _ _ _ h | exact absurd h (sN (c':=c').2.2 _ _) | exact zu.1 _ _ h | exact absurd h (zu.2.1 _ _ _) | exact absurd h (zu (c':=c').2.2 _ _) | (cases h;exact ⟨⟨rfl,rfl⟩,rfl,rfl⟩)
theorem zw {T:bq} {E:Ex} {c c':cz}:(∀os fs,o8 T E c=.next os fs c'→c'.kn=c.kn)∧(∀os g σ,o8 T E c=.call os g σ c'→c'.kn=c.kn) ∧
  ∀x y,o8 T E c=.alt x y→(x.nv=c.nv∧x.hp=c.hp)∧y.nv=c.nv∧y.hp=c.hp:=by
 refine ⟨fun os fs h=>?_,fun os g σ h=>?_,fun x y h=>?_⟩
 all_goals unfold o8 at h
 all_goals simp only at h
 all_goals repeat' split at h
 all_goals first | (cases h;done) | (cases h;rfl) | exact sN.1 _ _ h | exact sN.2.1 _ _ _ h | exact absurd h (sN (c':=c').2.2 _ _) | exact EX.1 _ _ h | exact EX.2.1 _ _ _ h | exact EX (c':=c').2.2 _ _ h | exact BU.1 _ _ h | exact absurd h (BU.2.1 _ _ _) | exact absurd h (BU (c':=c').2.2 _ _)
theorem Rw {T:bq} {E:Ex} {c c':cz} {os:List BE} {fs:List QF} (h:o8 T E c=.next os fs c'):c'.kn=c.kn:=zw.1 _ _ h
theorem O7 {T:bq} {E:Ex} {c c':cz} {os:List BE} {g:Nat} {σ:Sub} (h:o8 T E c=.call os g σ c'):c'.kn=c.kn:=zw.2.1 _ _ _ h
theorem oK {T:bq} {E:Ex} {c x y:cz} (h:o8 T E c=.alt x y):x.nv=c.nv∧x.hp=c.hp∧y.nv=c.nv∧y.hp=c.hp:=by
 obtain ⟨⟨a,b⟩,c,d⟩:=zw (c':=x).2.2 _ _ h
 exact ⟨a,b,c,d⟩
section
variable {P:Program} {T:bq} {B:xy} {R:Ending→World→Prop} {E:Ex} {cs:kP} {inf:List (List OI)} {post:Env→Prop}
theorem O8 {σ:Sub} {ρ:Env} {ν:Nat→Addr} {fr:Fr} {a:Act} (hf:og ρ ν fr a):∀{l:Fr},Ug σ fr l=true→og (σ.env ρ ν) (σ.fQ ρ ν) l a
 | [],_=>fun t v h=>by simp [assoc] at h
 | (t,v) :: r,h=>by
  simp only [Ug,Bool.and_eq_true] at h
  intro u x hx
  unfold assoc at hx
  split at hx
  ·rename_i he
   simp only [beq_iff_eq] at he
   subst he
   simp at hx
   subst hx
   obtain ⟨h1,-⟩:=h
   split at h1
   ·rename_i y hy
    rw [OE h1]
    exact hf _ y hy
   ·cases h1
  ·exact O8 hf h.2 u x hx
structure Xh (P:Program) (T:bq) (B:xy) (R:Ending→World→Prop) (o:Ba) (G:Env→Prop) (ρ:Env) (ν:Nat→Addr) (nv n:Nat):Prop where
 lo:B.nv≤o.lo∧o.lo≤nv∧o.lo≤o.cT.nv
 az:B.n≤o.az∧o.az≤n∧o.az≤o.cT.hp.length
 sc:Bv o.lo o.cT.kn=true∧BH o.az o.cT.gl=true∧xu o.lo o.az o.cT.dL=true
 goal:∃Li O9,dM o.lo o.az Li ρ O9 ν∧Kn.ok Li o.cT.kn∧∀ρ' aQ a aS0 w,dM o.lo o.az Li ρ' O9 aQ→Rel T B ρ' aQ o.cT a aS0 w→G ρ'.num→Goal P T R o.cT a aS0 w
def HZ (P:Program) (T:bq) (B:xy) (R:Ending→World→Prop) (op:List Ba) (Γ:List (Env→Prop)) (ρ:Env) (ν:Nat→Addr) (nv n:Nat):Prop :=
 ∀(i:Nat) (o:Ba),op[i]?=some o→∀G,Γ[i]?=some G→Xh P T B R o G ρ ν nv n
theorem HZ.ext {op:List Ba} {Γ:List (Env→Prop)} {ρ ρ':Env} {ν aQ:Nat→Addr} {nv n jL n':Nat} (h:HZ P T B R op Γ ρ ν nv n) (hA:dM nv n ρ ρ' ν aQ) (h1:nv≤jL) (h2:n≤n'):HZ P T B R op Γ ρ' aQ jL n':=by
 intro i o hi G hG
 obtain ⟨lo,az,sc,Li,O9,q1,q2,q3⟩:=h i o hi G hG
 exact ⟨⟨lo.1,Nat.le_trans lo.2.1 h1,lo.2.2⟩,⟨az.1,Nat.le_trans az.2.1 h2,az.2.2⟩,sc,Li,O9,q1.trans hA lo.2.1 az.2.1,q2,q3⟩
theorem JD {ρ:Env} {ν:Nat→Addr} {lo az:Nat} {cT c:cz} {σ:Sub} {os:List BE} {a:AS} {aS0:List AS} {w:World} (h:Hy lo az cT c=some (σ,os)) (ho:∀o∈os,o.den ρ=true) (hr:Rel T B ρ ν c a aS0 w)
  (h1:B.nv≤lo∧lo≤cT.nv) (h2:B.n≤az∧az≤cT.hp.length) (hs:Bv lo cT.kn=true∧BH az cT.gl=true∧xu lo az cT.dL=true) (hk:Kn.ok ρ cT.kn) :
  Rel T B (σ.env ρ ν) (σ.fQ ρ ν) cT a aS0 w∧dM lo az ρ (σ.env ρ ν) ν (σ.fQ ρ ν)∧(Goal P T R cT a aS0 w→Goal P T R c a aS0 w):=by
 unfold Hy at h
 simp only at h
 split at h
 case isFalse=>cases h
 rename_i hc
 simp only [Bool.and_eq_true,beq_iff_eq] at hc
 obtain ⟨⟨⟨⟨⟨⟨⟨⟨c1,c2⟩,c3⟩,c4⟩,c5⟩,c6⟩,c7⟩,c8⟩,c9⟩:=hc
 simp only [Option.map_eq_some_iff,Prod.mk.injEq] at h
 obtain ⟨os',hinst,rfl,rfl⟩:=h
 generalize EN (WQ {lo:=lo,az:=az} c.top.fr cT.top.fr) c.hp cT.hp=σ at *
 have hA:dM lo az ρ (σ.env ρ ν) ν (σ.fQ ρ ν):=by
  have:=σ.iI ρ ν
  rw [c1,c2] at this
  exact this
 have Xi:=qW c4
 have hn5:=qW c5
 have Xj:=xB c7
 have hgl:=zt c8
 have htodo:=rU c6
 refine ⟨⟨Nat.le_trans h1.1 h1.2,Nat.le_trans h2.1 h2.2,hr.iI.trans hA h1.1 h2.1,Di hA hs.1 hk,?_,EM hinst ho hr.hp,hr.wr,?_,⟨O8 hr.top.fr c9,by rw [c3];exact hr.top.tmps,hr.top.defers,fun p k sc d hc=>by rw [Xi] at hc;cases hc⟩,?_,fun p k sc hc=>by rw [Xi] at hc;cases hc⟩,hA,?_⟩
 ·refine jq.ext hA hs.2.1 ?_
  rw [hgl];exact hr.gl
 ·intro k T' hk' hto htd
  obtain ⟨a',A,hB⟩:=oo hinst ho hk' htd
  rw [hB.fQ,block_add]
  exact hr.own _ A hB.hp (hB.own hto) hB.live
 ·refine zh.ext hA hs.2.2 ?_
  rw [Xj];exact hr.dL
 ·intro hg
  unfold Goal at hg ⊢
  rw [Xj] at hg
  exact ym c3.symm htodo.symm (hn5.trans Xi.symm) hg
theorem mI {Γ:List (Env→Prop)} {ρ:Env}:∀{os:List BE} {kn:Kn} {k:Kn→Out},Sat post cs Γ ρ (o9 kn os k)→Kn.ok ρ kn →
  (∀b∈os,b.den ρ=true)∧∃Gr,(∀ρ':Env,Kn.ok ρ' kn→(∀b∈os,b.den ρ'=true)→Kn.ok ρ' Gr)∧Sat post cs Γ ρ (k Gr)
 | [],kn,k,h,_=>⟨by simp,kn,fun _ h _=>h,h⟩
 | b :: r,kn,k,h,hk=>by
  unfold o9 at h
  split at h
  ·rename_i hd
   obtain ⟨h1,Gr,h2,h3⟩:=mI h hk
   refine ⟨fun x hx=>?_,Gr,fun ρ' a b=>h2 ρ' a (fun x hx=>b x (by simp [hx])),h3⟩
   rcases List.mem_cons.1 hx with rfl | hx
   ·exact BE.dA hk hd
   ·exact h1 x hx
  ·cases h
  ·obtain ⟨h0,h⟩:=h
   obtain ⟨h1,Gr,h2,h3⟩:=mI (h h0) (oq h0 hk)
   refine ⟨fun x hx=>?_,Gr,fun ρ' a c=>h2 ρ' (oq (c b (by simp)) a) (fun x hx=>c x (by simp [hx])),h3⟩
   rcases List.mem_cons.1 hx with rfl | hx
   ·exact h0
   ·exact h1 x hx
theorem EY {ρ:Env}:∀{fs:List QF} {kn:Kn},Kn.ok ρ kn→(∀f∈fs,f.den ρ)→Kn.ok ρ (Jh kn fs)
 | [],_,h,_=>h
 | .be b :: r,kn,h,hf=>EY (fs:=r) (oq (hf (.be b) (by simp)) h) fun f hm=>hf f (by simp [hm])
 | .cat .. :: r,kn,h,hf=>EY (fs:=r) h fun f hm=>hf f (by simp [hm])
theorem Rel.D7 {ρ:Env} {ν:Nat→Addr} {c:cz} {a:AS} {aS0:List AS} {w:World} (h:Rel T B ρ ν c a aS0 w) {kn:Kn} (hk:Kn.ok ρ kn):Rel T B ρ ν {c with kn:=kn} a aS0 w :=
 ⟨h.nv,h.n,h.iI,hk,h.gl,h.hp,h.wr,h.own,h.top,h.dL,h.held⟩
theorem Pb {ρ:Env} {ν:Nat→Addr} {c:cz} {a:AS} {aS0:List AS} {w:World} {L:iV} {todo:List SI} (h:Jf T E c=some (L,todo)) (hr:Rel T B ρ ν c a aS0 w) :
  Rel T B ρ ν {c with top:={c.top with todo:=todo}} a aS0 w∧(Goal P T R {c with top:={c.top with todo:=todo}} a aS0 w→Goal P T R c a aS0 w):=by
 unfold Jf at h
 split at h
 case h_2=>cases h
 rename_i p k bX htodo
 split at h
 case h_2=>cases h
 split at h
 case h_2=>cases h
 rename_i x hat
 simp only [Option.some.injEq,Prod.mk.injEq] at h
 obtain ⟨-,rfl⟩:=h
 refine ⟨⟨hr.nv,hr.n,hr.iI,hr.kn,hr.gl,hr.hp,hr.wr,hr.own,⟨hr.top.fr,hr.top.tmps,hr.top.defers,fun p k sc d hc=>by rw [show c.top.cur=.none from bX] at hc;cases hc⟩,hr.dL,fun p k sc hc=>by rw [show c.top.cur=.none from bX] at hc;cases hc⟩,fun hg=>?_⟩
 unfold Goal eG at hg ⊢
 simp only [bX] at hg ⊢
 rw [htodo]
 simp only [List.map_cons,SI.jC,qo hat,Code.at,Option.getD_some,hat] at hg ⊢
 exact Reach.step (fun b cs=>step_loop) hg
theorem Pf {ρ:Env} {ν:Nat→Addr} {c:cz} {a:AS} {aS0:List AS} {w:World} {todo:List SI} (h:Jg E c=some todo) (hr:Rel T B ρ ν c a aS0 w) :
  Rel T B ρ ν {c with top:={c.top with todo:=todo}} a aS0 w∧(Goal P T R {c with top:={c.top with todo:=todo}} a aS0 w→Goal P T R c a aS0 w):=by
 unfold Jg at h
 split at h
 case h_2=>cases h
 rename_i p k bX htodo
 split at h
 case h_2=>cases h
 simp only [Option.some.injEq] at h
 subst h
 refine ⟨⟨hr.nv,hr.n,hr.iI,hr.kn,hr.gl,hr.hp,hr.wr,hr.own,⟨hr.top.fr,hr.top.tmps,hr.top.defers,fun p k sc d hc=>by rw [show c.top.cur=.none from bX] at hc;cases hc⟩,hr.dL,fun p k sc hc=>by rw [show c.top.cur=.none from bX] at hc;cases hc⟩,fun hg=>?_⟩
 unfold Goal eG at hg ⊢
 simp only [bX] at hg ⊢
 rw [htodo]
 exact Reach.step (fun b cs=>step_inLoop) hg
theorem D8 {c:cz}:∀{l:List Ba} {i j:Nat} {o:Ba},vY c l i=some (j,o)→i≤j∧l[j-i]?=some o
 | [],_,_,_,h=>by simp [vY] at h
 | x :: r,i,j,o,h=>by
  unfold vY at h
  split at h
  ·simp only [Option.some.injEq,Prod.mk.injEq] at h
   obtain ⟨rfl,rfl⟩:=h
   exact ⟨Nat.le_refl _,by simp⟩
  ·obtain ⟨h1,h2⟩:=D8 h
   refine ⟨by omega,?_⟩
   rw [show j-i=(j-(i+1))+1 by omega]
   simpa using h2
theorem Pg {L:iV} {c cT:cz} {todo:List SI} (h:Jd T L c todo=some cT):cT.kn=c.kn∧cT.gl=c.gl∧cT.dL=c.dL:=by
 unfold Jd at h
 split at h
 ·cases h
 split at h
 ·cases h
 simp only [Option.some.injEq] at h
 subst h
 exact ⟨rfl,rfl,rfl⟩
def vC (F:eH) (B:xy) (post:Env→Prop) (e:Ending) (w':World):Prop :=
 ∃ρ' aQ,dM F.nv F.hp.length B.ρ ρ' B.ν aQ∧e=.returned (F.ret.den ρ' aQ)∧aN ρ' aQ F.hp' w'∧jh B.w B.W w'∧kY B.w.heap.size B.W ρ' aQ F.hp'∧post ρ'.num
theorem Gs:∀{a b:Kn},vZ a b=true→a=b
 | [],[],_=>rfl
 | [],_ :: _,h=>by simp [vZ] at h
 | _ :: _,[],h=>by simp [vZ] at h
 | (x,t) :: r,(y,u) :: s,h=>by
  simp only [vZ,Bool.and_eq_true,beq_iff_eq] at h
  obtain ⟨⟨h1,h2⟩,h3⟩:=h
  rw [BE.aG h1,h2,Gs h3]
theorem D9 {x y:Fr} {t:Nat} {v:SV} (h:assoc t (ET x y)=some v):assoc t x=some v∧assoc t y=some v:=by
 have hm:=ko h
 unfold ET at hm
 simp only [List.mem_filter,Bool.and_eq_true] at hm
 obtain ⟨-,h1,h2⟩:=hm
 refine ⟨?_,?_⟩
 ·split at h1
  ·rename_i u hu
   rw [←SV.aG h1];exact hu
  ·cases h1
 ·split at h2
  ·rename_i u hu
   rw [←SV.aG h2];exact hu
  ·cases h2
theorem Lj {ρ:Env} {ν:Nat→Addr} {x y:cz} {a:AS} {aS0:List AS} {w:World} (h:sK x y=true) (hr:Rel T B ρ ν x a aS0 w) :
  Rel T B ρ ν (nU x y) a aS0 w∧(Goal P T R (nU x y) a aS0 w→Goal P T R x a aS0 w):=by
 simp only [sK,Bool.and_eq_true,beq_iff_eq] at h
 obtain ⟨⟨⟨⟨⟨⟨⟨⟨h1,h2⟩,h3⟩,h4⟩,h5⟩,h6⟩,h7⟩,h8⟩,h9⟩:=h
 have hx:=qW h6
 refine ⟨⟨hr.nv,hr.n,hr.iI,hr.kn,hr.gl,hr.hp,hr.wr,hr.own,⟨fun t v ht=>hr.top.fr t v (D9 ht).1,hr.top.tmps,hr.top.defers,hr.top.held⟩,hr.dL,hr.held⟩,fun hg=>?_⟩
 unfold Goal eG at hg ⊢
 simp only [nU,hx] at hg ⊢
 exact hg
theorem Ll {ρ:Env} {ν:Nat→Addr} {x y:cz} {a:AS} {aS0:List AS} {w:World} (h:sK x y=true) (hr:Rel T B ρ ν y a aS0 w) :
  Rel T B ρ ν (nU x y) a aS0 w∧(Goal P T R (nU x y) a aS0 w→Goal P T R y a aS0 w)∧y.nv=(nU x y).nv∧y.hp=(nU x y).hp:=by
 simp only [sK,Bool.and_eq_true,beq_iff_eq] at h
 obtain ⟨⟨⟨⟨⟨⟨⟨⟨h1,h2⟩,h3⟩,h4⟩,h5⟩,h6⟩,h7⟩,h8⟩,h9⟩:=h
 have hx:=qW h6
 have hy:=qW h7
 replace h2:=Gs h2
 replace h3:=zt h3
 replace h4:=zq h4
 replace h8:=rU h8
 replace h9:=xB h9
 refine ⟨⟨by show B.nv≤x.nv;rw [h1];exact hr.nv,by show B.n≤x.hp.length;rw [h4];exact hr.n,hr.iI,by show Kn.ok ρ x.kn;rw [h2];exact hr.kn,by show jq ν x.gl;rw [h3];exact hr.gl,by show aN ρ ν x.hp w;rw [h4];exact hr.hp,hr.wr,by show kY _ _ ρ ν x.hp;rw [h4];exact hr.own,⟨fun t v ht=>hr.top.fr t v (D9 ht).2,by show T.ntmps x.top.f≤_;rw [h5];exact hr.top.tmps,hr.top.defers,fun p k sc d hc=>(by
     have hc:x.top.cur=.dr p k sc d:=hc
     rw [hx] at hc;cases hc)⟩,by show zh T ρ ν x.dL aS0;rw [h9];exact hr.dL,fun p k sc hc=>(by
     have hc:x.top.cur=.dr p k sc false:=hc
     rw [hx] at hc;cases hc)⟩,fun hg=>?_,h1.symm,h4.symm⟩
 unfold Goal eG at hg ⊢
 simp only [nU,hx] at hg
 simp only [hy]
 rw [←h5,←h8,←h9]
 exact hg
theorem Rx {ρ:Env} {kn:Kn} {os:List BE} (hk:Kn.ok ρ kn) (h:Uh kn os=true):∀b∈os,b.den ρ=true:=by
 intro b hb
 have:=List.all_eq_true.1 h b hb
 split at this
 ·rename_i hd
  exact BE.dA hk hd
 ·cases this
theorem Ry {ρ:Env} {ν:Nat→Addr} {c:cz} {a:AS} {aS0:List AS} {w:World} {fl m:Nat} (hB:B.n≤fl) (hf:fl≤c.hp.length) (hr:Rel T B ρ ν c a aS0 w) :
  Rel T B ρ ν (wh fl m c) a aS0 w∧(Goal P T R (wh fl m c) a aS0 w→Goal P T R c a aS0 w)∧(wh fl m c).nv=c.nv∧fl≤(wh fl m c).hp.length:=by
 unfold wh
 split
 ·rename_i hc
  simp only [Bool.and_eq_true,Nat.blt_eq,Nat.ble_eq] at hc
  obtain ⟨⟨⟨h1,h2⟩,h3⟩,-⟩:=hc
  have hat:∀(k:Nat) (sb:SB),(c.hp.take m)[k]?=some sb→c.hp[k]?=some sb:=fun k sb hk=>by
   rw [List.getElem?_take] at hk
   split at hk
   ·exact hk
   ·cases hk
  have hlen:(c.hp.take m).length=m:=by rw [List.length_take];omega
  refine ⟨⟨hr.nv,by show B.n≤(c.hp.take m).length;omega,hr.iI,hr.kn,hr.gl,⟨fun i j x y hi hj=>hr.hp.inj i j x y (hat i x hi) (hat j y hj),fun k sb hk=>hr.hp.aI k sb (hat k sb hk),fun k sb hk=>hr.hp.rd k sb (hat k sb hk)⟩,hr.wr,fun k sb hk=>hr.own k sb (hat k sb hk),hr.top,hr.dL,fun p k sc bX=>?_⟩,fun hg=>hg,rfl,by show fl≤(c.hp.take m).length;omega⟩
  have bX:c.top.cur=.dr p k sc false:=bX
  unfold OT at h3
  rw [bX] at h3
  exact h3
 ·exact ⟨hr,fun hg=>hg,rfl,hf⟩
theorem M6 {ρ:Env} {ν:Nat→Addr} {c c':cz} {a:AS} {aS0:List AS} {w:World} {fl:Nat} {ls:List Nat} (hB:B.n≤fl) (hf:fl≤c'.hp.length) (hr:Rel T B ρ ν c' a aS0 w) :
  Rel T B ρ ν (sM fl c ls c').1 a aS0 w∧(Goal P T R (sM fl c ls c').1 a aS0 w→Goal P T R c' a aS0 w)∧(sM fl c ls c').1.nv=c'.nv∧fl≤(sM fl c ls c').1.hp.length:=by
 unfold sM
 split
 ·exact ⟨hr,fun hg=>hg,rfl,hf⟩
 ·split
  ·split
   ·exact Ry hB hf hr
   ·exact ⟨hr,fun hg=>hg,rfl,hf⟩
  ·exact ⟨hr,fun hg=>hg,rfl,hf⟩
theorem wo (hT:dG P T) (hE:E.cons=cs.map (·.1)) (hC:∀k pre post,(k,pre,post)∈cs→jD k=true∧bF P k pre post) (hS:kL T E.sched inf=true) {R:Ending→World→Prop} {ρ:Env} {d fl:Nat} (hB:B.n≤fl) :
  ∀(n:Nat) {ls:List Nat} {c z:cz} {ν:Nat→Addr} {a:AS} {aS0:List AS} {w:World},zf T E d fl n ls c=some z→fl≤c.hp.length→Rel T B ρ ν c a aS0 w →
   (∀aQ a' as' w',dM c.nv fl ρ ρ ν aQ→c.nv≤z.nv→fl≤z.hp.length→Rel T B ρ aQ z a' as' w'→Goal P T R z a' as' w')→Goal P T R c a aS0 w
 | 0,_,_,_,_,_,_,_,h,_,_,_=>by simp [zf] at h
 | n+1,ls,c,z,ν,a,aS0,w,h,hf,hr,hc=>by
  unfold zf at h
  have hs:=JC (P:=P) (R:=R) (E:=E) hT hE hC hS hr
  split at h
  ·rename_i os fs c' hst
   rw [hst] at hs
   split at h
   ·rename_i hb
    simp only [Bool.and_eq_true,List.isEmpty_iff] at hb
    refine hs (Rx hr.kn hb.2) fun ρ' aQ a' as' w' hA hfs hle ho TV hr'=>?_
    obtain rfl:=hfs hb.1
    split at h
    rename_i c2 YU hcl
    obtain ⟨k1,k2,k3,k4⟩:=M6 (P:=P) (R:=R) (c:=c) (ls:=ls) hB (Nat.le_trans hf hle.2) hr'
    rw [hcl] at k1 k2 k3 k4
    apply k2
    have hA':dM c.nv fl ρ' ρ' ν aQ:=⟨fun i hi=>hA.iv i hi,fun i hi=>hA.bv i hi,fun i hi=>hA.vv i hi,fun i hi=>hA.ic i hi,fun i hi=>hA.bc i hi,fun i hi=>hA.vc i hi,fun i hi=>hA.bl i (Nat.lt_of_lt_of_le hi hf)⟩
    split at h
    ·cases h
     exact hc aQ a' as' w' hA' (by rw [k3];exact hle.1) k4 k1
    ·refine wo hT hE hC hS hB n h k4 k1 fun Ea a2 Eb w2 hA2 l1 l2 hr2=>?_
     rw [k3] at hA2 l1
     exact hc Ea a2 Eb w2 (hA'.trans hA2 hle.1 (Nat.le_refl _)) (Nat.le_trans hle.1 l1) l2 hr2
   ·cases h
  ·rename_i x y hst
   rw [hst] at hs
   obtain ⟨e1,e2,e3,e4⟩:=oK hst
   split at h
   ·rename_i x' y' hx hy
    split at h
    ·rename_i hm
     cases h
     refine hs (fun hr'=>wo hT hE hC hS hB n hx (by rw [e2];exact hf) hr' fun Ea a2 Eb w2 hA l1 l2 hr2=>?_) (fun hr'=>wo hT hE hC hS hB n hy (by rw [e4];exact hf) hr' fun Ea a2 Eb w2 hA l1 l2 hr2=>?_)
     ·obtain ⟨m1,m2⟩:=Lj (P:=P) (R:=R) hm hr2
      rw [e1] at hA l1
      exact m2 (hc Ea a2 Eb w2 hA l1 l2 m1)
     ·obtain ⟨m1,m2,m3,m4⟩:=Ll (P:=P) (R:=R) hm hr2
      rw [e3] at hA
      rw [e3,m3] at l1
      rw [m4] at l2
      exact m2 (hc Ea a2 Eb w2 hA l1 l2 m1)
    ·cases h
   ·cases h
  ·cases h
theorem l6 (hT:dG P T) (hE:E.cons=cs.map (·.1)) (hC:∀k pre post,(k,pre,post)∈cs→jD k=true∧bF P k pre post) (hS:kL T E.sched inf=true) (hB:B.nv=E.fin.nv∧B.n=E.fin.hp.length) :
  ∀(n:Nat) {op:List Ba} {Γ:List (Env→Prop)} {ρ:Env} {ν:Nat→Addr} {c:cz} {a:AS} {aS0:List AS} {w:World},op.length=Γ.length→HZ P T B (vC E.fin B post) op Γ ρ ν c.nv c.hp.length→Sat post cs Γ ρ (exec T E n op c)→Rel T B ρ ν c a aS0 w →
   Goal P T (vC E.fin B post) c a aS0 w
 | 0,op,Γ,ρ,ν,c,a,aS0,w,_,_,h,hr=>by cases h
 | n+1,op,Γ,ρ,ν,c,a,aS0,w,hlen,hO,h,hr=>by
  unfold exec at h
  rw [cz.norm_eq] at h
  split at h
  ·
   rename_i L todo hat
   obtain ⟨hr1,hgo⟩:=Pb (P:=P) (R:=vC E.fin B post) hat hr
   split at h
   ·cases h
   rename_i cT htm
   split at h
   ·cases h
   rename_i σ os hinst
   split at h
   case isFalse=>cases h
   rename_i hsc
   simp only [Bool.and_eq_true,Nat.ble_eq] at hsc
   obtain ⟨⟨⟨hsc1,hsc2⟩,hle1⟩,hle2⟩:=hsc
   obtain ⟨hos,Gr,hkn',h'⟩:=mI h hr.kn
   obtain ⟨Inv,m,hI,hbody⟩:=h'
   obtain ⟨t1,t2,t3⟩:=Pg htm
   have rJ:=hsc1
   simp only [cz.sc,Bool.and_eq_true] at rJ
   obtain ⟨⟨⟨⟨s1,s2⟩,s3⟩,s4⟩,s5⟩:=rJ
   have Xk:Bv c.nv cT.kn=true∧BH c.hp.length cT.gl=true∧xu c.nv c.hp.length cT.dL=true:=by rw [t1,t2,t3];exact ⟨s1,s5,s4⟩
   have Y0:Kn.ok ρ cT.kn:=by rw [t1];exact hr.kn
   obtain ⟨Xl,Xm,hback⟩:=JD (P:=P) (R:=vC E.fin B post) hinst hos hr1 ⟨hr.nv,hle1⟩ ⟨hr.n,hle2⟩ Xk Y0
   apply hgo
   apply hback
   have main:∀(M:Nat) (ρ':Env) (aQ:Nat→Addr) (a:AS) (aS0:List AS) (w:World),dM c.nv c.hp.length ρ ρ' ν aQ→Rel T B ρ' aQ cT a aS0 w→Inv ρ'.num→m ρ'.num=M→Goal P T (vC E.fin B post) cT a aS0 w:=by
    intro M
    induction M using Nat.strongRecOn with
    | ind M ih =>
     intro ρ' aQ a aS0 w hA hrel hinv hm
     have hj:=hA.join
     have zx:=hbody ρ' (by rw [hj];exact hinv)
     rw [hj] at zx
     refine l6 hT hE hC hS hB n (op:=⟨c.nv,c.hp.length,cT⟩ :: op) (Γ:=(fun IK=>Inv IK∧m IK<m ρ'.num) :: Γ) (by simp [hlen]) ?_ zx hrel
     intro i o hi G hG
     cases i with
     | zero =>
      simp at hi hG
      subst hi hG
      refine ⟨⟨hr.nv,hle1,hle1⟩,⟨hr.n,hle2,hle2⟩,Xk,ρ,ν,hA,Y0,fun ρ2 Ea a2 Eb w2 hA2 hr2 hG2=>?_⟩
      exact ih _ (by rw [←hm];exact hG2.2) ρ2 Ea a2 Eb w2 hA2 hr2 hG2.1 rfl
     | succ i =>
      have:=(hO.ext hA hle1 hle2) i o (by simpa using hi) G (by simpa using hG)
      exact this
   exact main _ _ _ a aS0 w Xm Xl hI rfl
  split at h
  ·
   rename_i todo hat
   obtain ⟨hr1,hgo⟩:=Pf (P:=P) (R:=vC E.fin B post) hat hr
   split at h
   ·cases h
   rename_i i o hfind
   split at h
   ·cases h
   rename_i σ os hinst
   obtain ⟨hos,Gr,hkn',h'⟩:=mI h hr.kn
   obtain ⟨G,hG,hGn⟩:=h'
   obtain ⟨-,Y1⟩:=D8 hfind
   rw [Nat.sub_zero] at Y1
   obtain ⟨lo,az,sc,Li,O9,q1,q2,q3⟩:=hO i o Y1 G hG
   obtain ⟨Xl,Xm,hback⟩:=JD (P:=P) (R:=vC E.fin B post) hinst hos hr1 ⟨lo.1,lo.2.2⟩ ⟨az.1,az.2.2⟩ sc (Di q1 sc.1 q2)
   apply hgo
   apply hback
   exact q3 _ _ a aS0 w (q1.trans Xm (Nat.le_refl _) (Nat.le_refl _)) Xl hGn
  have hs:=JC (P:=P) (R:=vC E.fin B post) (E:=E) hT hE hC hS hr
  split at h
  ·rename_i os fs c' hst
   rw [hst] at hs
   obtain ⟨h1,Lp,h2,h3⟩:=mI h hr.kn
   refine hs h1 fun ρ' aQ a' as' w' hA hfs hle ho hf hr'=>?_
   have hk1:Kn.ok ρ' Lp:=h2 ρ' (by
     have:=hr'.kn
     rwa [Rw hst] at this) ho
   have hk2:=EY hk1 hf
   have hO':=hO.ext hA hle.1 hle.2
   refine l6 hT hE hC hS hB n (c:={c' with kn:=Jh Lp fs}) hlen hO' ?_ (hr'.D7 hk2)
   unfold Lc at h3
   split at h3
   ·rw [hfs rfl];exact h3
   ·have:=h3 ρ' (by rw [hA.join];exact hf)
    rw [hA.join] at this
    exact this
  ·rename_i x y hst
   rw [hst] at hs
   obtain ⟨e1,e2,e3,e4⟩:=oK hst
   split at h
   ·rename_i z hz
    unfold Ji at hz
    split at hz
    case isFalse=>cases hz
    split at hz
    case h_2=>cases hz
    rename_i x' y' hx hy
    split at hz
    case isFalse=>cases hz
    rename_i hm
    cases hz
    refine hs (fun hr'=>wo hT hE hC hS hr.n n hx (by rw [e2];exact Nat.le_refl _) hr' fun Ea a2 Eb w2 hA l1 l2 hr2=>?_) (fun hr'=>wo hT hE hC hS hr.n n hy (by rw [e4];exact Nat.le_refl _) hr' fun Ea a2 Eb w2 hA l1 l2 hr2=>?_)
    ·obtain ⟨m1,m2⟩:=Lj (P:=P) (R:=vC E.fin B post) hm hr2
     rw [e1] at hA l1
     exact m2 (l6 hT hE hC hS hB n hlen (hO.ext hA l1 l2) h m1)
    ·obtain ⟨m1,m2,m3,m4⟩:=Ll (P:=P) (R:=vC E.fin B post) hm hr2
     rw [e3] at hA
     rw [e3,m3] at l1
     rw [m4] at l2
     exact m2 (l6 hT hE hC hS hB n hlen (hO.ext hA l1 l2) h m1)
   exact hs (fun hr'=>l6 hT hE hC hS hB n hlen (hO.ext (dM.refl _ _ _ _) (by rw [(oK hst).1];exact Nat.le_refl _) (by rw [(oK hst).2.1];exact Nat.le_refl _)) h.1 hr')
    (fun hr'=>l6 hT hE hC hS hB n hlen (hO.ext (dM.refl _ _ _ _) (by rw [(oK hst).2.2.1];exact Nat.le_refl _) (by rw [(oK hst).2.2.2];exact Nat.le_refl _)) h.2 hr')
  ·rename_i os g σ c' hst
   rw [hst] at hs
   obtain ⟨h1,Lp,h2,h3⟩:=mI h hr.kn
   obtain ⟨k,pre,post',hcs,hpre,hbody⟩:=h3
   refine hs h1 k pre post' hcs hpre fun ρ' aQ a' as' w' hA hle ho hpo hr'=>?_
   have hk1:Kn.ok ρ' Lp:=h2 ρ' (by
     have:=hr'.kn
     rwa [O7 hst] at this) ho
   have zx:=hbody ρ' (by rw [hA.join];exact hpo)
   rw [hA.join] at zx
   exact l6 hT hE hC hS hB n (c:={c' with kn:=Lp}) hlen (hO.ext hA hle.1 hle.2) zx (hr'.D7 hk1)
  ·rename_i b hst
   obtain ⟨ht,hf⟩:=h
   cases hb:b.den ρ with
   | true=>exact l6 hT hE hC hS hB n (c:={c with kn:=jl b true c.kn}) hlen hO (ht hb) (hr.D7 (oq hb hr.kn))
   | false=>exact l6 hT hE hC hS hB n (c:={c with kn:=jl b false c.kn}) hlen hO (hf hb) (hr.D7 (oq hb hr.kn))
  ·rename_i os v hst
   rw [hst] at hs
   split at h
   ·rename_i σ os' hfin
    obtain ⟨h1,Lp,h2,h3⟩:=mI h hr.kn
    refine hs (fun b hb=>h1 b (List.mem_append_left _ hb)) fun _=>?_
    unfold OQ at hfin
    simp only at hfin
    split at hfin
    case isFalse=>cases hfin
    rename_i hc
    simp only [Bool.and_eq_true,beq_iff_eq] at hc
    obtain ⟨⟨c1,c2⟩,c3⟩:=hc
    simp only [Option.map_eq_some_iff,Prod.mk.injEq] at hfin
    obtain ⟨os2,hinst,rfl,rfl⟩:=hfin
    generalize EN (WH {lo:=E.fin.nv,az:=E.fin.hp.length} E.fin.ret v) c.hp E.fin.hp'=σ at *
    have ho2:∀o∈os2,o.den ρ=true:=fun o hm=>h1 o (List.mem_append_right _ hm)
    have hA:=σ.iI ρ ν
    rw [c1,c2] at hA
    refine ⟨σ.env ρ ν,σ.fQ ρ ν,?_,by rw [OE c3],EM hinst ho2 hr.hp,hr.wr,?_,h3⟩
    ·have h5:=hr.iI
     rw [hB.1,hB.2] at h5
     exact h5.trans hA (Nat.le_refl _) (Nat.le_refl _)
    ·intro k T' hk' hto htd
     obtain ⟨a',A,hIB⟩:=oo hinst ho2 hk' htd
     rw [hIB.fQ,block_add]
     exact hr.own _ A hIB.hp (hIB.own hto) hIB.live
   ·cases h
  ·cases h
  ·cases h
end
end Go.Rex
namespace Go.Rex
theorem IE.EZ (ρ:Env):∀e:IE,e.den ρ.num=e.den ρ:=by
 intro e
 induction e <;> simp_all [IE.den,Env.num]
theorem BE.EZ (ρ:Env):∀e:BE,e.den ρ.num=e.den ρ:=by
 intro e
 induction e <;> simp_all [BE.den,IE.EZ]
 ·rfl
 ·rfl
theorem Kn.Xn {ρ:Env} {kn:Kn} (h:Kn.ok ρ.num kn):Kn.ok ρ kn:=fun p hp=>by rw [←BE.EZ];exact h p hp
section
variable {post:Env→Prop} {cs:kP} {Γ:List (Env→Prop)} {ρ:Env}
theorem Sat.fin {σ:Sub} (h:post (σ.af ρ)):Sat post cs Γ ρ (.fin σ):=h
theorem Sat.br {c:BE} {t e:Out} (h1:c.den ρ=true→Sat post cs Γ ρ t) (h2:c.den ρ=false→Sat post cs Γ ρ e):Sat post cs Γ ρ (.br c t e):=⟨h1,h2⟩
theorem Sat.ob {b:BE} {k:Out} (h1:b.den ρ=true) (h2:Sat post cs Γ ρ k):Sat post cs Γ ρ (.ob b k):=⟨h1,fun _=>h2⟩
theorem Sat.alt {a b:Out} (h1:Sat post cs Γ ρ a) (h2:Sat post cs Γ ρ b):Sat post cs Γ ρ (.alt a b):=⟨h1,h2⟩
theorem Sat.new {nv:Nat} {fs:List QF} {k:Out} (h:∀e:Env,(∀f∈fs,f.den (ρ.join nv e))→Sat post cs Γ (ρ.join nv e) k):Sat post cs Γ ρ (.new nv fs k):=h
theorem Sat.loop {nv:Nat} {σ:Sub} {k:Out} (Inv:Env→Prop) (m:Env→Nat) (h0:Inv (σ.af ρ)) (h:∀e:Env,Inv (ρ.join nv e).num→Sat post cs ((fun ρ'=>Inv ρ'∧m ρ'<m (ρ.join nv e).num) :: Γ) (ρ.join nv e) k):Sat post cs Γ ρ (.loop nv σ k):=⟨Inv,m,h0,h⟩
theorem Sat.back {i:Nat} {σ:Sub} {G:Env→Prop} (hG:Γ[i]?=some G) (h:G (σ.af ρ)):Sat post cs Γ ρ (.back i σ):=⟨G,hG,h⟩
theorem Sat.call {g:Nat} {σ:Sub} {nv:Nat} {k:Out} {c:eH} {pre post':Env→Prop} (hc:cs[g]?=some (c,pre,post')) (h1:pre (σ.af ρ)) (h2:∀e:Env,post' (aH σ c.nv nv ρ (ρ.join nv e))→Sat post cs Γ (ρ.join nv e) k):Sat post cs Γ ρ (.call g σ nv k):=⟨c,pre,post',hc,h1,h2⟩
end
theorem dP {P:Program} {T:bq} (hT:dG P T) {E:Ex} {cs:kP} {inf:List (List OI)} (hE:E.cons=cs.map (·.1)) (hC:∀k pre post,(k,pre,post)∈cs→jD k=true∧bF P k pre post) (hS:kL T E.sched inf=true)
  {n:Nat} {kn:Kn} {F:eH} {out:Out} (hF:E.fin=F) (hex:exec T E n [] (gI F.f F.nv kn F.gl F.hp F.args)=out) (hf:(match T.f F.f with | some fn=>fn.body.isSome && !(fn.name == "runtime.NumGoroutine") && decide (F.args.length≤fn.ntmps) | none=>false)=true)
  {pre post:Env→Prop} (hk:∀ρ:Env,pre ρ.num→Kn.ok ρ.num kn) (hs:∀ρ:Env,pre ρ.num→Sat post cs [] ρ out):bF P F pre post:=by
 subst hF
 split at hf
 case h_2=>cases hf
 rename_i fn hfn
 simp only [Bool.and_eq_true,Bool.not_eq_true',decide_eq_true_eq] at hf
 obtain ⟨⟨hb,hname⟩,hn⟩:=hf
 have Gp:=hT.fns _ fn (hT.Ml hfn)
 refine ⟨⟨fn,Gp,hb,hname⟩,fun ρ ν w jf hgl hpre=>?_⟩
 obtain ⟨body,hbody⟩:=Option.isSome_iff_exists.1 hb
 have hnt:T.ntmps E.fin.f=fn.ntmps:=by unfold bq.ntmps;rw [hfn];rfl
 have hbd:T.body E.fin.f=body:=by unfold bq.body;rw [hfn];simp [hbody]
 refine Reach.calls Gp hbody ?_
 have zx:=hs ρ hpre
 rw [←hex] at zx
 have hg:=l6 (P:=P) (B:=⟨w,kM ρ ν E.fin.hp,ρ,ν,E.fin.nv,E.fin.hp.length⟩) hT hE hC hS ⟨rfl,rfl⟩ n (op:=[]) (Γ:=[]) (ρ:=ρ) (ν:=ν) (c:=gI E.fin.f E.fin.nv kn E.fin.gl E.fin.hp E.fin.args)
  (a:=({tmps:=(E.fin.args.map (·.den ρ ν)).toArray ++ Array.replicate (fn.ntmps-(E.fin.args.map (·.den ρ ν)).toArray.size) undef,defers:=[]},fun _=>True)) (aS0:=[]) (w:=w) rfl (fun i o h=>by simp at h) zx
  ⟨Nat.le_refl _,Nat.le_refl _,dM.refl _ _ _ _,Kn.Xn (hk ρ hpre),hgl,jf,jh.refl _ _,fun k sb h1 h2 h3=>.inr ⟨k,sb,h1,h2,h3,rfl⟩,⟨?_,?_,rfl,fun p k sc d hc=>by cases hc⟩,trivial,fun p k sc hc=>by cases hc⟩
 ·unfold Goal eG gI at hg
  simp only [List.map_cons,List.map_nil,SI.jC,hbd,Code.at,Option.getD_some] at hg
  exact hg
 ·intro t v ht
  obtain ⟨k,x,rfl,hx,rfl⟩:=zn (ρ:=ρ) (ν:=ν) ht
  have hk:k<E.fin.args.length:=(List.getElem?_eq_some_iff.1 hx).1
  rw [Array.getD_eq_getD_getElem?,Array.getElem?_append]
  simp [hk,SV.den,(List.getElem?_eq_some_iff.1 hx).2]
 ·rw [show T.ntmps (gI E.fin.f E.fin.nv kn E.fin.gl E.fin.hp E.fin.args).top.f=fn.ntmps from hnt]
  simp
  omega
end Go.Rex
