/- part 8 of the proof -/
import Derived.Test.YthomdlajobnmnaaDoorQ7
set_option linter.unusedSimpArgs false
set_option linter.unusedVariables false
namespace Go.Rex
theorem NB {a b:SI} (h:Hq a b=true):a=b:=by cases a <;> cases b <;> simp_all [Hq]
theorem qW:∀{a b:List SI},mF a b=true→a=b
 | [],[],_=>rfl
 | [],_ :: _,h=>by simp [mF] at h
 | _ :: _,[],h=>by simp [mF] at h
 | a :: r,b :: s,h=>by
  simp only [mF,Bool.and_eq_true] at h
  rw [NB h.1,qW h.2]
theorem CX:∀{a b:List SW},rF a b=true→a=b
 | [],[],_=>rfl
 | [],_ :: _,h=>by simp [rF] at h
 | _ :: _,[],h=>by simp [rF] at h
 | a :: r,b :: s,h=>by
  simp only [rF,Bool.and_eq_true] at h
  rw [SW.aF h.1,CX h.2]
theorem SV.aF {a b:SV} (h:a.same b=true):a=b:=by
 cases a <;> cases b <;> simp only [SV.same] at h <;> try cases h
 ·rw [SW.aF h]
 ·rw [CX h]
 ·simp only [Bool.and_eq_true] at h
  rw [BE.aF h.1,SW.aF h.2]
theorem Fb:∀{a b:Fr},uY a b=true→a=b
 | [],[],_=>rfl
 | [],_ :: _,h=>by simp [uY] at h
 | _ :: _,[],h=>by simp [uY] at h
 | (t,a) :: r,(u,b) :: s,h=>by
  simp only [uY,Bool.and_eq_true,beq_iff_eq] at h
  rw [h.1.1,SV.aF h.1.2,Fb h.2]
theorem eH.aF:∀{a b:eH},a.same b=true→a=b:=by
 intro a
 induction a with
 | nil c=>intro b h;cases b <;> simp [eH.same] at h;rw [Cv h]
 | take i D k ih=>intro b h;cases b <;> simp [eH.same] at h;rw [h.1.1,h.1.2,ih h.2]
 | drop k ih=>intro b h;cases b <;> simp [eH.same] at h;rw [ih h]
 | solo i k ih=>intro b h;cases b <;> simp [eH.same] at h;rw [h.1,ih h.2]
 | go i k ih=>intro b h;cases b <;> simp [eH.same] at h;rw [h.1,ih h.2]
 | alt i k j l ihk ihl=>intro b h;cases b <;> simp [eH.same] at h;rw [h.1.1.1,ihk h.1.1.2,h.1.2,ihl h.2]
theorem SB.aF {a b:SB} (h:a.same b=true):a=b:=by
 obtain ⟨_,_,_,_,_,_,_,_,_,_⟩:=a
 obtain ⟨_,_,_,_,_,_,_,_,_,_⟩:=b
 simp only [SB.same,Bool.and_eq_true,beq_iff_eq] at h
 obtain ⟨⟨⟨⟨⟨⟨⟨⟨⟨h1,h2⟩,h3⟩,h4⟩,h5⟩,h6⟩,h7⟩,h8⟩,h9⟩,h10⟩:=h
 simp only [SB.mk.injEq]
 exact ⟨h7,vN h4,lF h5,qR h6,h1,h3,wu h9,h8,h2,BE.aF h10⟩
theorem yD:∀{a b:List SB},sj a b=true→a=b
 | [],[],_=>rfl
 | [],_ :: _,h=>by simp [sj] at h
 | _ :: _,[],h=>by simp [sj] at h
 | a :: r,b :: s,h=>by
  simp only [sj,Bool.and_eq_true] at h
  rw [SB.aF h.1,yD h.2]
theorem nK.aF {a b:nK} (h:a.same b=true):a=b:=by
 cases a <;> cases b <;> simp only [nK.same] at h <;> try cases h
 ·rfl
 ·simp only [Bool.and_eq_true,beq_iff_eq] at h
  rw [h.1,h.2]
 ·simp only [Bool.and_eq_true,beq_iff_eq] at h
  rw [h.1.1.1,eH.aF h.1.1.2,yD h.1.2,h.2]
theorem aY.aF {a b:aY} (h:a.same b=true):a=b:=by
 obtain ⟨_,_,_,_⟩:=a
 obtain ⟨_,_,_,_⟩:=b
 simp only [aY.same,Bool.and_eq_true,beq_iff_eq] at h
 obtain ⟨⟨⟨h1,h2⟩,h3⟩,h4⟩:=h
 rw [h1,Fb h2,nK.aF h3,qW h4]
theorem wJ:∀{a b:List (aY × Nat)},o9 a b=true→a=b
 | [],[],_=>rfl
 | [],_ :: _,h=>by simp [o9] at h
 | _ :: _,[],h=>by simp [o9] at h
 | (F,i) :: r,(G,j) :: s,h=>by
  simp only [o9,Bool.and_eq_true,beq_iff_eq] at h
  rw [aY.aF h.1.1,h.1.2,wJ h.2]
theorem yE:∀{a b:List (Nat × Nat)},su a b=true→a=b
 | [],[],_=>rfl
 | [],_ :: _,h=>by simp [su] at h
 | _ :: _,[],h=>by simp [su] at h
 | (x,i) :: r,(y,j) :: s,h=>by
  simp only [su,Bool.and_eq_true,beq_iff_eq] at h
  rw [h.1.1,h.1.2,yE h.2]
theorem qw {c:nK} (h:c.isNone=true):c=.none:=by cases c <;> simp_all [nK.isNone]
theorem Qa {k:eu} {c c':bW} {args:List SW} {σ:Sub} {os:List BE} {v:SV} (h:F7 k c args=some (σ,os,v,c')):c'.kn=c.kn:=by
 unfold F7 at h
 simp only at h
 split at h
 ·split at h
  ·cases h
  ·split at h
   ·cases h;rfl
   ·cases h
 ·cases h
theorem rM {T:aX} {E:Ex} {c c':bW} {ops:Array Oper} {i:Nat} {dS:aY→aY}:(∀os fs,wF T E c ops i dS=.next os fs c'→c'.kn=c.kn)∧(∀os g σ,wF T E c ops i dS=.call os g σ c'→c'.kn=c.kn)∧∀x y,wF T E c ops i dS≠.alt x y:=by
 refine ⟨fun os fs h=>?_,fun os g σ h=>?_,fun x y h=>?_⟩
 all_goals unfold wF at h
 all_goals repeat' split at h
 all_goals first | (cases h;done) | (cases h;rfl) | skip
 rename_i hby _
 cases h
 have:=Qa hby
 exact this
theorem yF {T:aX} {c c':bW} {ops:Array Oper} {i D:Nat} {p:List Nat} {k:eH} {sc:List SB}:(∀os fs,sD T c ops i D p k sc=.next os fs c'→c'.kn=c.kn)∧(∀os g σ,sD T c ops i D p k sc≠.call os g σ c')∧∀x y,sD T c ops i D p k sc≠.alt x y:=by
 refine ⟨fun os fs h=>?_,fun os g σ h=>?_,fun x y h=>?_⟩
 all_goals unfold sD at h
 all_goals repeat' split at h
 all_goals first | (cases h;done) | (cases h;rfl)
theorem Bd {T:aX} {c c':bW}:(∀os fs,tY T c=.next os fs c'→c'.kn=c.kn)∧(∀os g σ,tY T c≠.call os g σ c')∧∀x y,tY T c≠.alt x y:=by
 refine ⟨fun os fs h=>?_,fun os g σ h=>?_,fun x y h=>?_⟩
 all_goals unfold tY at h
 all_goals repeat' split at h
 all_goals try simp only at h
 all_goals repeat' split at h
 all_goals first | (cases h;done) | (cases h;rfl)
theorem DZ {T:aX} {E:Ex} {c c':bW} {p:List Nat} {k:eH} {sc:List SB} {d:Bool}:(∀os fs,AZ T E c p k sc d=.next os fs c'→c'.kn=c.kn)∧(∀os g σ,AZ T E c p k sc d=.call os g σ c'→c'.kn=c.kn) ∧
  ∀x y,AZ T E c p k sc d=.alt x y→(x.nv=c.nv∧x.hp=c.hp)∧y.nv=c.nv∧y.hp=c.hp:=by
 refine ⟨fun os fs h=>?_,fun os g σ h=>?_,fun x y h=>?_⟩
 all_goals unfold AZ at h
 all_goals simp only at h
 all_goals repeat' split at h
 all_goals first | (cases h;done) | (cases h;rfl) | exact rM.1 _ _ h | exact rM.2.1 _ _ _ h | exact absurd h (rM (c':=c').2.2 _ _) | exact yF.1 _ _ h | exact absurd h (yF.2.1 _ _ _) | exact absurd h (yF (c':=c').2.2 _ _) | (cases h;exact ⟨⟨rfl,rfl⟩,rfl,rfl⟩)
theorem yG {T:aX} {E:Ex} {c c':bW}:(∀os fs,oq T E c=.next os fs c'→c'.kn=c.kn)∧(∀os g σ,oq T E c=.call os g σ c'→c'.kn=c.kn) ∧
  ∀x y,oq T E c=.alt x y→(x.nv=c.nv∧x.hp=c.hp)∧y.nv=c.nv∧y.hp=c.hp:=by
 refine ⟨fun os fs h=>?_,fun os g σ h=>?_,fun x y h=>?_⟩
 all_goals unfold oq at h
 all_goals simp only at h
 all_goals repeat' split at h
 all_goals first | (cases h;done) | (cases h;rfl) | exact rM.1 _ _ h | exact rM.2.1 _ _ _ h | exact absurd h (rM (c':=c').2.2 _ _) | exact DZ.1 _ _ h | exact DZ.2.1 _ _ _ h | exact DZ (c':=c').2.2 _ _ h | exact Bd.1 _ _ h | exact absurd h (Bd.2.1 _ _ _) | exact absurd h (Bd (c':=c').2.2 _ _)
theorem Qb {T:aX} {E:Ex} {c c':bW} {os:List BE} {fs:List QF} (h:oq T E c=.next os fs c'):c'.kn=c.kn:=yG.1 _ _ h
theorem NC {T:aX} {E:Ex} {c c':bW} {os:List BE} {g:Nat} {σ:Sub} (h:oq T E c=.call os g σ c'):c'.kn=c.kn:=yG.2.1 _ _ _ h
theorem nL {T:aX} {E:Ex} {c x y:bW} (h:oq T E c=.alt x y):x.nv=c.nv∧x.hp=c.hp∧y.nv=c.nv∧y.hp=c.hp:=by
 obtain ⟨⟨a,b⟩,c,d⟩:=yG (c':=x).2.2 _ _ h
 exact ⟨a,b,c,d⟩
section
variable {P:Program} {T:aX} {B:wG} {R:Ending→World→Prop} {E:Ex} {cs:ko} {inf:List (List OI)} {post:Env→Prop}
theorem ND {σ:Sub} {ρ:Env} {ν:Nat→Addr} {fr:Fr} {a:Act} (hf:ny ρ ν fr a):∀{l:Fr},RG σ fr l=true→ny (σ.env ρ ν) (σ.fA ρ ν) l a
 | [],_=>fun t v h=>by simp [assoc] at h
 | (t,v) :: r,h=>by
  simp only [RG,Bool.and_eq_true] at h
  intro u x hx
  unfold assoc at hx
  split at hx
  ·rename_i he
   simp only [beq_iff_eq] at he
   subst he
   simp at hx
   subst hx
   obtain ⟨h1,-⟩:=h
   split at h1
   ·rename_i y hy
    rw [M9 h1]
    exact hf _ y hy
   ·cases h1
  ·exact ND hf h.2 u x hx
structure U9 (P:Program) (T:aX) (B:wG) (R:Ending→World→Prop) (o:Ab) (G:Env→Prop) (ρ:Env) (ν:Nat→Addr) (nv n:Nat):Prop where
 lo:B.nv≤o.lo∧o.lo≤nv∧o.lo≤o.cT.nv
 az:B.n≤o.az∧o.az≤n∧o.az≤o.cT.hp.length
 sc:Az o.lo o.cT.kn=true∧AV o.az o.cT.gl=true∧wD o.lo o.az o.cT.dz=true
 goal:∃J5 NF,dB o.lo o.az J5 ρ NF ν∧Kn.ok J5 o.cT.kn∧∀ρ' aN a aS0 w,dB o.lo o.az J5 ρ' NF aN→Rel T B ρ' aN o.cT a aS0 w→G ρ'.num→Goal P T R o.cT a aS0 w
def Ga (P:Program) (T:aX) (B:wG) (R:Ending→World→Prop) (op:List Ab) (Γ:List (Env→Prop)) (ρ:Env) (ν:Nat→Addr) (nv n:Nat):Prop :=
 ∀(i:Nat) (o:Ab),op[i]?=some o→∀G,Γ[i]?=some G→U9 P T B R o G ρ ν nv n
theorem Ga.ext {op:List Ab} {Γ:List (Env→Prop)} {ρ ρ':Env} {ν aN:Nat→Addr} {nv n jP n':Nat} (h:Ga P T B R op Γ ρ ν nv n) (hA:dB nv n ρ ρ' ν aN) (h1:nv≤jP) (h2:n≤n'):Ga P T B R op Γ ρ' aN jP n':=by
 intro i o hi G hG
 obtain ⟨lo,az,sc,J5,NF,q1,q2,q3⟩:=h i o hi G hG
 exact ⟨⟨lo.1,Nat.le_trans lo.2.1 h1,lo.2.2⟩,⟨az.1,Nat.le_trans az.2.1 h2,az.2.2⟩,sc,J5,NF,q1.trans hA lo.2.1 az.2.1,q2,q3⟩
theorem Il {ρ:Env} {ν:Nat→Addr} {lo az:Nat} {cT c:bW} {σ:Sub} {os:List BE} {a:AS} {aS0:List AS} {w:World} (h:F6 lo az cT c=some (σ,os)) (ho:∀o∈os,o.den ρ=true) (hr:Rel T B ρ ν c a aS0 w)
  (h1:B.nv≤lo∧lo≤cT.nv) (h2:B.n≤az∧az≤cT.hp.length) (hs:Az lo cT.kn=true∧AV az cT.gl=true∧wD lo az cT.dz=true) (hk:Kn.ok ρ cT.kn) :
  Rel T B (σ.env ρ ν) (σ.fA ρ ν) cT a aS0 w∧dB lo az ρ (σ.env ρ ν) ν (σ.fA ρ ν)∧(Goal P T R cT a aS0 w→Goal P T R c a aS0 w):=by
 unfold F6 at h
 simp only at h
 split at h
 case isFalse=>cases h
 rename_i hc
 simp only [Bool.and_eq_true,beq_iff_eq] at hc
 obtain ⟨⟨⟨⟨⟨⟨⟨⟨c1,c2⟩,c3⟩,c4⟩,c5⟩,c6⟩,c7⟩,c8⟩,c9⟩:=hc
 simp only [Option.map_eq_some_iff,Prod.mk.injEq] at h
 obtain ⟨os',hinst,rfl,rfl⟩:=h
 generalize DR (UM {lo:=lo,az:=az} c.top.fr cT.top.fr) c.hp cT.hp=σ at *
 have hA:dB lo az ρ (σ.env ρ ν) ν (σ.fA ρ ν):=by
  have:=σ.iq ρ ν
  rw [c1,c2] at this
  exact this
 have Va:=qw c4
 have Ym:=qw c5
 have Vb:=wJ c7
 have hgl:=yE c8
 have htodo:=qW c6
 refine ⟨⟨Nat.le_trans h1.1 h1.2,Nat.le_trans h2.1 h2.2,hr.iq.trans hA h1.1 h2.1,Cf hA hs.1 hk,?_,DN hinst ho hr.hp,hr.wr,?_,⟨ND hr.top.fr c9,by rw [c3];exact hr.top.tmps,hr.top.defers,fun p k sc d hc=>by rw [Va] at hc;cases hc⟩,?_,fun p k sc hc=>by rw [Va] at hc;cases hc⟩,hA,?_⟩
 ·refine jr.ext hA hs.2.1 ?_
  rw [hgl];exact hr.gl
 ·intro k T' hk' hto htd
  obtain ⟨a',A,hB⟩:=nC hinst ho hk' htd
  rw [hB.fA,block_add]
  exact hr.own _ A hB.hp (hB.own hto) hB.live
 ·refine yn.ext hA hs.2.2 ?_
  rw [Vb];exact hr.dz
 ·intro hg
  unfold Goal at hg ⊢
  rw [Vb] at hg
  exact xy c3.symm htodo.symm (Ym.trans Va.symm) hg
theorem lX {Γ:List (Env→Prop)} {ρ:Env}:∀{os:List BE} {kn:Kn} {k:Kn→Out},Sat post cs Γ ρ (ou kn os k)→Kn.ok ρ kn →
  (∀b∈os,b.den ρ=true)∧∃Fe,(∀ρ':Env,Kn.ok ρ' kn→(∀b∈os,b.den ρ'=true)→Kn.ok ρ' Fe)∧Sat post cs Γ ρ (k Fe)
 | [],kn,k,h,_=>⟨by simp,kn,fun _ h _=>h,h⟩
 | b :: r,kn,k,h,hk=>by
  unfold ou at h
  split at h
  ·rename_i hd
   obtain ⟨h1,Fe,h2,h3⟩:=lX h hk
   refine ⟨fun x hx=>?_,Fe,fun ρ' a b=>h2 ρ' a (fun x hx=>b x (by simp [hx])),h3⟩
   rcases List.mem_cons.1 hx with rfl | hx
   ·exact BE.cO hk hd
   ·exact h1 x hx
  ·cases h
  ·obtain ⟨h0,h⟩:=h
   obtain ⟨h1,Fe,h2,h3⟩:=lX (h h0) (nD h0 hk)
   refine ⟨fun x hx=>?_,Fe,fun ρ' a c=>h2 ρ' (nD (c b (by simp)) a) (fun x hx=>c x (by simp [hx])),h3⟩
   rcases List.mem_cons.1 hx with rfl | hx
   ·exact h0
   ·exact h1 x hx
theorem D5 {ρ:Env}:∀{fs:List QF} {kn:Kn},Kn.ok ρ kn→(∀f∈fs,f.den ρ)→Kn.ok ρ (Hu kn fs)
 | [],_,h,_=>h
 | .be b :: r,kn,h,hf=>D5 (fs:=r) (nD (hf (.be b) (by simp)) h) fun f hm=>hf f (by simp [hm])
 | .cat .. :: r,kn,h,hf=>D5 (fs:=r) h fun f hm=>hf f (by simp [hm])
theorem Rel.CY {ρ:Env} {ν:Nat→Addr} {c:bW} {a:AS} {aS0:List AS} {w:World} (h:Rel T B ρ ν c a aS0 w) {kn:Kn} (hk:Kn.ok ρ kn):Rel T B ρ ν {c with kn:=kn} a aS0 w :=
 ⟨h.nv,h.n,h.iq,hk,h.gl,h.hp,h.wr,h.own,h.top,h.dz,h.held⟩
theorem NG {ρ:Env} {ν:Nat→Addr} {c:bW} {a:AS} {aS0:List AS} {w:World} {L:iG} {todo:List SI} (h:Hr T E c=some (L,todo)) (hr:Rel T B ρ ν c a aS0 w) :
  Rel T B ρ ν {c with top:={c.top with todo:=todo}} a aS0 w∧(Goal P T R {c with top:={c.top with todo:=todo}} a aS0 w→Goal P T R c a aS0 w):=by
 unfold Hr at h
 split at h
 case h_2=>cases h
 rename_i p k bU htodo
 split at h
 case h_2=>cases h
 split at h
 case h_2=>cases h
 rename_i x hat
 simp only [Option.some.injEq,Prod.mk.injEq] at h
 obtain ⟨-,rfl⟩:=h
 refine ⟨⟨hr.nv,hr.n,hr.iq,hr.kn,hr.gl,hr.hp,hr.wr,hr.own,⟨hr.top.fr,hr.top.tmps,hr.top.defers,fun p k sc d hc=>by rw [show c.top.cur=.none from bU] at hc;cases hc⟩,hr.dz,fun p k sc hc=>by rw [show c.top.cur=.none from bU] at hc;cases hc⟩,fun hg=>?_⟩
 unfold Goal dQ at hg ⊢
 simp only [bU] at hg ⊢
 rw [htodo]
 simp only [List.map_cons,SI.jf,pq hat,Code.at,Option.getD_some,hat] at hg ⊢
 exact Reach.step (fun b cs=>step_loop) hg
theorem NH {ρ:Env} {ν:Nat→Addr} {c:bW} {a:AS} {aS0:List AS} {w:World} {todo:List SI} (h:Ht E c=some todo) (hr:Rel T B ρ ν c a aS0 w) :
  Rel T B ρ ν {c with top:={c.top with todo:=todo}} a aS0 w∧(Goal P T R {c with top:={c.top with todo:=todo}} a aS0 w→Goal P T R c a aS0 w):=by
 unfold Ht at h
 split at h
 case h_2=>cases h
 rename_i p k bU htodo
 split at h
 case h_2=>cases h
 simp only [Option.some.injEq] at h
 subst h
 refine ⟨⟨hr.nv,hr.n,hr.iq,hr.kn,hr.gl,hr.hp,hr.wr,hr.own,⟨hr.top.fr,hr.top.tmps,hr.top.defers,fun p k sc d hc=>by rw [show c.top.cur=.none from bU] at hc;cases hc⟩,hr.dz,fun p k sc hc=>by rw [show c.top.cur=.none from bU] at hc;cases hc⟩,fun hg=>?_⟩
 unfold Goal dQ at hg ⊢
 simp only [bU] at hg ⊢
 rw [htodo]
 exact Reach.step (fun b cs=>step_inLoop) hg
theorem CZ {c:bW}:∀{l:List Ab} {i j:Nat} {o:Ab},u6 c l i=some (j,o)→i≤j∧l[j-i]?=some o
 | [],_,_,_,h=>by simp [u6] at h
 | x :: r,i,j,o,h=>by
  unfold u6 at h
  split at h
  ·simp only [Option.some.injEq,Prod.mk.injEq] at h
   obtain ⟨rfl,rfl⟩:=h
   exact ⟨Nat.le_refl _,by simp⟩
  ·obtain ⟨h1,h2⟩:=CZ h
   refine ⟨by omega,?_⟩
   rw [show j-i=(j-(i+1))+1 by omega]
   simpa using h2
theorem NI {L:iG} {c cT:bW} {todo:List SI} (h:Ho T L c todo=some cT):cT.kn=c.kn∧cT.gl=c.gl∧cT.dz=c.dz:=by
 unfold Ho at h
 split at h
 ·cases h
 split at h
 ·cases h
 simp only [Option.some.injEq] at h
 subst h
 exact ⟨rfl,rfl,rfl⟩
def uF (F:eu) (B:wG) (post:Env→Prop) (e:Ending) (w':World):Prop :=
 ∃ρ' aN,dB F.nv F.hp.length B.ρ ρ' B.ν aN∧e=.returned (F.ret.den ρ' aN)∧aL ρ' aN F.hp' w'∧lM B.w B.W w'∧kE B.w.heap.size B.W ρ' aN F.hp'∧post ρ'.num
theorem Ff:∀{a b:Kn},u7 a b=true→a=b
 | [],[],_=>rfl
 | [],_ :: _,h=>by simp [u7] at h
 | _ :: _,[],h=>by simp [u7] at h
 | (x,t) :: r,(y,u) :: s,h=>by
  simp only [u7,Bool.and_eq_true,beq_iff_eq] at h
  obtain ⟨⟨h1,h2⟩,h3⟩:=h
  rw [BE.aF h1,h2,Ff h3]
theorem C8 {x y:Fr} {t:Nat} {v:SV} (h:assoc t (DW x y)=some v):assoc t x=some v∧assoc t y=some v:=by
 have hm:=jM h
 unfold DW at hm
 simp only [List.mem_filter,Bool.and_eq_true] at hm
 obtain ⟨-,h1,h2⟩:=hm
 refine ⟨?_,?_⟩
 ·split at h1
  ·rename_i u hu
   rw [←SV.aF h1];exact hu
  ·cases h1
 ·split at h2
  ·rename_i u hu
   rw [←SV.aF h2];exact hu
  ·cases h2
theorem J6 {ρ:Env} {ν:Nat→Addr} {x y:bW} {a:AS} {aS0:List AS} {w:World} (h:rH x y=true) (hr:Rel T B ρ ν x a aS0 w) :
  Rel T B ρ ν (mX x y) a aS0 w∧(Goal P T R (mX x y) a aS0 w→Goal P T R x a aS0 w):=by
 simp only [rH,Bool.and_eq_true,beq_iff_eq] at h
 obtain ⟨⟨⟨⟨⟨⟨⟨⟨h1,h2⟩,h3⟩,h4⟩,h5⟩,h6⟩,h7⟩,h8⟩,h9⟩:=h
 have hx:=qw h6
 refine ⟨⟨hr.nv,hr.n,hr.iq,hr.kn,hr.gl,hr.hp,hr.wr,hr.own,⟨fun t v ht=>hr.top.fr t v (C8 ht).1,hr.top.tmps,hr.top.defers,hr.top.held⟩,hr.dz,hr.held⟩,fun hg=>?_⟩
 unfold Goal dQ at hg ⊢
 simp only [mX,hx] at hg ⊢
 exact hg
theorem J7 {ρ:Env} {ν:Nat→Addr} {x y:bW} {a:AS} {aS0:List AS} {w:World} (h:rH x y=true) (hr:Rel T B ρ ν y a aS0 w) :
  Rel T B ρ ν (mX x y) a aS0 w∧(Goal P T R (mX x y) a aS0 w→Goal P T R y a aS0 w)∧y.nv=(mX x y).nv∧y.hp=(mX x y).hp:=by
 simp only [rH,Bool.and_eq_true,beq_iff_eq] at h
 obtain ⟨⟨⟨⟨⟨⟨⟨⟨h1,h2⟩,h3⟩,h4⟩,h5⟩,h6⟩,h7⟩,h8⟩,h9⟩:=h
 have hx:=qw h6
 have hy:=qw h7
 replace h2:=Ff h2
 replace h3:=yE h3
 replace h4:=yD h4
 replace h8:=qW h8
 replace h9:=wJ h9
 refine ⟨⟨by show B.nv≤x.nv;rw [h1];exact hr.nv,by show B.n≤x.hp.length;rw [h4];exact hr.n,hr.iq,by show Kn.ok ρ x.kn;rw [h2];exact hr.kn,by show jr ν x.gl;rw [h3];exact hr.gl,by show aL ρ ν x.hp w;rw [h4];exact hr.hp,hr.wr,by show kE _ _ ρ ν x.hp;rw [h4];exact hr.own,⟨fun t v ht=>hr.top.fr t v (C8 ht).2,by show T.ntmps x.top.f≤_;rw [h5];exact hr.top.tmps,hr.top.defers,fun p k sc d hc=>(by
     have hc:x.top.cur=.dr p k sc d:=hc
     rw [hx] at hc;cases hc)⟩,by show yn T ρ ν x.dz aS0;rw [h9];exact hr.dz,fun p k sc hc=>(by
     have hc:x.top.cur=.dr p k sc false:=hc
     rw [hx] at hc;cases hc)⟩,fun hg=>?_,h1.symm,h4.symm⟩
 unfold Goal dQ at hg ⊢
 simp only [mX,hx] at hg
 simp only [hy]
 rw [←h5,←h8,←h9]
 exact hg
theorem Qc {ρ:Env} {kn:Kn} {os:List BE} (hk:Kn.ok ρ kn) (h:RH kn os=true):∀b∈os,b.den ρ=true:=by
 intro b hb
 have:=List.all_eq_true.1 h b hb
 split at this
 ·rename_i hd
  exact BE.cO hk hd
 ·cases this
theorem Qd {ρ:Env} {ν:Nat→Addr} {c:bW} {a:AS} {aS0:List AS} {w:World} {fl m:Nat} (hB:B.n≤fl) (hf:fl≤c.hp.length) (hr:Rel T B ρ ν c a aS0 w) :
  Rel T B ρ ν (ve fl m c) a aS0 w∧(Goal P T R (ve fl m c) a aS0 w→Goal P T R c a aS0 w)∧(ve fl m c).nv=c.nv∧fl≤(ve fl m c).hp.length:=by
 unfold ve
 split
 ·rename_i hc
  simp only [Bool.and_eq_true,Nat.blt_eq,Nat.ble_eq] at hc
  obtain ⟨⟨⟨h1,h2⟩,h3⟩,-⟩:=hc
  have hat:∀(k:Nat) (sb:SB),(c.hp.take m)[k]?=some sb→c.hp[k]?=some sb:=fun k sb hk=>by
   rw [List.getElem?_take] at hk
   split at hk
   ·exact hk
   ·cases hk
  have hlen:(c.hp.take m).length=m:=by rw [List.length_take];omega
  refine ⟨⟨hr.nv,by show B.n≤(c.hp.take m).length;omega,hr.iq,hr.kn,hr.gl,⟨fun i j x y hi hj=>hr.hp.inj i j x y (hat i x hi) (hat j y hj),fun k sb hk=>hr.hp.aH k sb (hat k sb hk),fun k sb hk=>hr.hp.rd k sb (hat k sb hk)⟩,hr.wr,fun k sb hk=>hr.own k sb (hat k sb hk),hr.top,hr.dz,fun p k sc bU=>?_⟩,fun hg=>hg,rfl,by show fl≤(c.hp.take m).length;omega⟩
  have bU:c.top.cur=.dr p k sc false:=bU
  unfold Nk at h3
  rw [bU] at h3
  exact h3
 ·exact ⟨hr,fun hg=>hg,rfl,hf⟩
theorem Lt {ρ:Env} {ν:Nat→Addr} {c c':bW} {a:AS} {aS0:List AS} {w:World} {fl:Nat} {ls:List Nat} (hB:B.n≤fl) (hf:fl≤c'.hp.length) (hr:Rel T B ρ ν c' a aS0 w) :
  Rel T B ρ ν (rJ fl c ls c').1 a aS0 w∧(Goal P T R (rJ fl c ls c').1 a aS0 w→Goal P T R c' a aS0 w)∧(rJ fl c ls c').1.nv=c'.nv∧fl≤(rJ fl c ls c').1.hp.length:=by
 unfold rJ
 split
 ·exact ⟨hr,fun hg=>hg,rfl,hf⟩
 ·split
  ·split
   ·exact Qd hB hf hr
   ·exact ⟨hr,fun hg=>hg,rfl,hf⟩
  ·exact ⟨hr,fun hg=>hg,rfl,hf⟩
theorem vk (hT:dm P T) (hE:E.cons=cs.map (·.1)) (hC:∀k pre post,(k,pre,post)∈cs→jg k=true∧bC P k pre post) (hS:kg T E.sched inf=true) {R:Ending→World→Prop} {ρ:Env} {d fl:Nat} (hB:B.n≤fl) :
  ∀(n:Nat) {ls:List Nat} {c z:bW} {ν:Nat→Addr} {a:AS} {aS0:List AS} {w:World},yj T E d fl n ls c=some z→fl≤c.hp.length→Rel T B ρ ν c a aS0 w →
   (∀aN a' as' w',dB c.nv fl ρ ρ ν aN→c.nv≤z.nv→fl≤z.hp.length→Rel T B ρ aN z a' as' w'→Goal P T R z a' as' w')→Goal P T R c a aS0 w
 | 0,_,_,_,_,_,_,_,h,_,_,_=>by simp [yj] at h
 | n+1,ls,c,z,ν,a,aS0,w,h,hf,hr,hc=>by
  unfold yj at h
  have hs:=Ik (P:=P) (R:=R) (E:=E) hT hE hC hS hr
  split at h
  ·rename_i os fs c' hst
   rw [hst] at hs
   split at h
   ·rename_i hb
    simp only [Bool.and_eq_true,List.isEmpty_iff] at hb
    refine hs (Qc hr.kn hb.2) fun ρ' aN a' as' w' hA hfs hle ho Rt hr'=>?_
    obtain rfl:=hfs hb.1
    split at h
    rename_i c2 WO hcl
    obtain ⟨k1,k2,k3,k4⟩:=Lt (P:=P) (R:=R) (c:=c) (ls:=ls) hB (Nat.le_trans hf hle.2) hr'
    rw [hcl] at k1 k2 k3 k4
    apply k2
    have hA':dB c.nv fl ρ' ρ' ν aN:=⟨fun i hi=>hA.iv i hi,fun i hi=>hA.bv i hi,fun i hi=>hA.vv i hi,fun i hi=>hA.ic i hi,fun i hi=>hA.bc i hi,fun i hi=>hA.vc i hi,fun i hi=>hA.bl i (Nat.lt_of_lt_of_le hi hf)⟩
    split at h
    ·cases h
     exact hc aN a' as' w' hA' (by rw [k3];exact hle.1) k4 k1
    ·refine vk hT hE hC hS hB n h k4 k1 fun C9 a2 Db w2 hA2 l1 l2 hr2=>?_
     rw [k3] at hA2 l1
     exact hc C9 a2 Db w2 (hA'.trans hA2 hle.1 (Nat.le_refl _)) (Nat.le_trans hle.1 l1) l2 hr2
   ·cases h
  ·rename_i x y hst
   rw [hst] at hs
   obtain ⟨e1,e2,e3,e4⟩:=nL hst
   split at h
   ·rename_i x' y' hx hy
    split at h
    ·rename_i hm
     cases h
     refine hs (fun hr'=>vk hT hE hC hS hB n hx (by rw [e2];exact hf) hr' fun C9 a2 Db w2 hA l1 l2 hr2=>?_) (fun hr'=>vk hT hE hC hS hB n hy (by rw [e4];exact hf) hr' fun C9 a2 Db w2 hA l1 l2 hr2=>?_)
     ·obtain ⟨m1,m2⟩:=J6 (P:=P) (R:=R) hm hr2
      rw [e1] at hA l1
      exact m2 (hc C9 a2 Db w2 hA l1 l2 m1)
     ·obtain ⟨m1,m2,m3,m4⟩:=J7 (P:=P) (R:=R) hm hr2
      rw [e3] at hA
      rw [e3,m3] at l1
      rw [m4] at l2
      exact m2 (hc C9 a2 Db w2 hA l1 l2 m1)
    ·cases h
   ·cases h
  ·cases h
theorem lI (hT:dm P T) (hE:E.cons=cs.map (·.1)) (hC:∀k pre post,(k,pre,post)∈cs→jg k=true∧bC P k pre post) (hS:kg T E.sched inf=true) (hB:B.nv=E.fin.nv∧B.n=E.fin.hp.length) :
  ∀(n:Nat) {op:List Ab} {Γ:List (Env→Prop)} {ρ:Env} {ν:Nat→Addr} {c:bW} {a:AS} {aS0:List AS} {w:World},op.length=Γ.length→Ga P T B (uF E.fin B post) op Γ ρ ν c.nv c.hp.length→Sat post cs Γ ρ (exec T E n op c)→Rel T B ρ ν c a aS0 w →
   Goal P T (uF E.fin B post) c a aS0 w
 | 0,op,Γ,ρ,ν,c,a,aS0,w,_,_,h,hr=>by cases h
 | n+1,op,Γ,ρ,ν,c,a,aS0,w,hlen,hO,h,hr=>by
  unfold exec at h
  rw [bW.norm_eq] at h
  split at h
  ·
   rename_i L todo hat
   obtain ⟨hr1,hgo⟩:=NG (P:=P) (R:=uF E.fin B post) hat hr
   split at h
   ·cases h
   rename_i cT Yn
   split at h
   ·cases h
   rename_i σ os hinst
   split at h
   case isFalse=>cases h
   rename_i hsc
   simp only [Bool.and_eq_true,Nat.ble_eq] at hsc
   obtain ⟨⟨⟨hsc1,hsc2⟩,hle1⟩,hle2⟩:=hsc
   obtain ⟨hos,Fe,hkn',h'⟩:=lX h hr.kn
   obtain ⟨Inv,m,hI,hbody⟩:=h'
   obtain ⟨t1,t2,t3⟩:=NI Yn
   have uE:=hsc1
   simp only [bW.sc,Bool.and_eq_true] at uE
   obtain ⟨⟨⟨⟨s1,s2⟩,s3⟩,s4⟩,s5⟩:=uE
   have Vd:Az c.nv cT.kn=true∧AV c.hp.length cT.gl=true∧wD c.nv c.hp.length cT.dz=true:=by rw [t1,t2,t3];exact ⟨s1,s5,s4⟩
   have WV:Kn.ok ρ cT.kn:=by rw [t1];exact hr.kn
   obtain ⟨Ve,Vf,hback⟩:=Il (P:=P) (R:=uF E.fin B post) hinst hos hr1 ⟨hr.nv,hle1⟩ ⟨hr.n,hle2⟩ Vd WV
   apply hgo
   apply hback
   have main:∀(M:Nat) (ρ':Env) (aN:Nat→Addr) (a:AS) (aS0:List AS) (w:World),dB c.nv c.hp.length ρ ρ' ν aN→Rel T B ρ' aN cT a aS0 w→Inv ρ'.num→m ρ'.num=M→Goal P T (uF E.fin B post) cT a aS0 w:=by
    intro M
    induction M using Nat.strongRecOn with
    | ind M ih =>
     intro ρ' aN a aS0 w hA hrel hinv hm
     have hj:=hA.join
     have yH:=hbody ρ' (by rw [hj];exact hinv)
     rw [hj] at yH
     refine lI hT hE hC hS hB n (op:=⟨c.nv,c.hp.length,cT⟩ :: op) (Γ:=(fun GM=>Inv GM∧m GM<m ρ'.num) :: Γ) (by simp [hlen]) ?_ yH hrel
     intro i o hi G hG
     cases i with
     | zero =>
      simp at hi hG
      subst hi hG
      refine ⟨⟨hr.nv,hle1,hle1⟩,⟨hr.n,hle2,hle2⟩,Vd,ρ,ν,hA,WV,fun Yo C9 a2 Db w2 hA2 hr2 hG2=>?_⟩
      exact ih _ (by rw [←hm];exact hG2.2) Yo C9 a2 Db w2 hA2 hr2 hG2.1 rfl
     | succ i =>
      have:=(hO.ext hA hle1 hle2) i o (by simpa using hi) G (by simpa using hG)
      exact this
   exact main _ _ _ a aS0 w Vf Ve hI rfl
  split at h
  ·
   rename_i todo hat
   obtain ⟨hr1,hgo⟩:=NH (P:=P) (R:=uF E.fin B post) hat hr
   split at h
   ·cases h
   rename_i i o hfind
   split at h
   ·cases h
   rename_i σ os hinst
   obtain ⟨hos,Fe,hkn',h'⟩:=lX h hr.kn
   obtain ⟨G,hG,hGn⟩:=h'
   obtain ⟨-,WW⟩:=CZ hfind
   rw [Nat.sub_zero] at WW
   obtain ⟨lo,az,sc,J5,NF,q1,q2,q3⟩:=hO i o WW G hG
   obtain ⟨Ve,Vf,hback⟩:=Il (P:=P) (R:=uF E.fin B post) hinst hos hr1 ⟨lo.1,lo.2.2⟩ ⟨az.1,az.2.2⟩ sc (Cf q1 sc.1 q2)
   apply hgo
   apply hback
   exact q3 _ _ a aS0 w (q1.trans Vf (Nat.le_refl _) (Nat.le_refl _)) Ve hGn
  have hs:=Ik (P:=P) (R:=uF E.fin B post) (E:=E) hT hE hC hS hr
  split at h
  ·rename_i os fs c' hst
   rw [hst] at hs
   obtain ⟨h1,J8,h2,h3⟩:=lX h hr.kn
   refine hs h1 fun ρ' aN a' as' w' hA hfs hle ho hf hr'=>?_
   have hk1:Kn.ok ρ' J8:=h2 ρ' (by
     have:=hr'.kn
     rwa [Qb hst] at this) ho
   have hk2:=D5 hk1 hf
   have Yp:=hO.ext hA hle.1 hle.2
   refine lI hT hE hC hS hB n (c:={c' with kn:=Hu J8 fs}) hlen Yp ?_ (hr'.CY hk2)
   unfold JX at h3
   split at h3
   ·rw [hfs rfl];exact h3
   ·have:=h3 ρ' (by rw [hA.join];exact hf)
    rw [hA.join] at this
    exact this
  ·rename_i x y hst
   rw [hst] at hs
   obtain ⟨e1,e2,e3,e4⟩:=nL hst
   split at h
   ·rename_i z hz
    unfold Hw at hz
    split at hz
    case isFalse=>cases hz
    split at hz
    case h_2=>cases hz
    rename_i x' y' hx hy
    split at hz
    case isFalse=>cases hz
    rename_i hm
    cases hz
    refine hs (fun hr'=>vk hT hE hC hS hr.n n hx (by rw [e2];exact Nat.le_refl _) hr' fun C9 a2 Db w2 hA l1 l2 hr2=>?_) (fun hr'=>vk hT hE hC hS hr.n n hy (by rw [e4];exact Nat.le_refl _) hr' fun C9 a2 Db w2 hA l1 l2 hr2=>?_)
    ·obtain ⟨m1,m2⟩:=J6 (P:=P) (R:=uF E.fin B post) hm hr2
     rw [e1] at hA l1
     exact m2 (lI hT hE hC hS hB n hlen (hO.ext hA l1 l2) h m1)
    ·obtain ⟨m1,m2,m3,m4⟩:=J7 (P:=P) (R:=uF E.fin B post) hm hr2
     rw [e3] at hA
     rw [e3,m3] at l1
     rw [m4] at l2
     exact m2 (lI hT hE hC hS hB n hlen (hO.ext hA l1 l2) h m1)
   exact hs (fun hr'=>lI hT hE hC hS hB n hlen (hO.ext (dB.refl _ _ _ _) (by rw [(nL hst).1];exact Nat.le_refl _) (by rw [(nL hst).2.1];exact Nat.le_refl _)) h.1 hr')
    (fun hr'=>lI hT hE hC hS hB n hlen (hO.ext (dB.refl _ _ _ _) (by rw [(nL hst).2.2.1];exact Nat.le_refl _) (by rw [(nL hst).2.2.2];exact Nat.le_refl _)) h.2 hr')
  ·rename_i os g σ c' hst
   rw [hst] at hs
   obtain ⟨h1,J8,h2,h3⟩:=lX h hr.kn
   obtain ⟨k,pre,post',hcs,hpre,hbody⟩:=h3
   refine hs h1 k pre post' hcs hpre fun ρ' aN a' as' w' hA hle ho hpo hr'=>?_
   have hk1:Kn.ok ρ' J8:=h2 ρ' (by
     have:=hr'.kn
     rwa [NC hst] at this) ho
   have yH:=hbody ρ' (by rw [hA.join];exact hpo)
   rw [hA.join] at yH
   exact lI hT hE hC hS hB n (c:={c' with kn:=J8}) hlen (hO.ext hA hle.1 hle.2) yH (hr'.CY hk1)
  ·rename_i b hst
   obtain ⟨ht,hf⟩:=h
   cases hb:b.den ρ with
   | true=>exact lI hT hE hC hS hB n (c:={c with kn:=iX b true c.kn}) hlen hO (ht hb) (hr.CY (nD hb hr.kn))
   | false=>exact lI hT hE hC hS hB n (c:={c with kn:=iX b false c.kn}) hlen hO (hf hb) (hr.CY (nD hb hr.kn))
  ·rename_i os v hst
   rw [hst] at hs
   split at h
   ·rename_i σ os' hfin
    obtain ⟨h1,J8,h2,h3⟩:=lX h hr.kn
    refine hs (fun b hb=>h1 b (List.mem_append_left _ hb)) fun _=>?_
    unfold Nj at hfin
    simp only at hfin
    split at hfin
    case isFalse=>cases hfin
    rename_i hc
    simp only [Bool.and_eq_true,beq_iff_eq] at hc
    obtain ⟨⟨c1,c2⟩,c3⟩:=hc
    simp only [Option.map_eq_some_iff,Prod.mk.injEq] at hfin
    obtain ⟨os2,hinst,rfl,rfl⟩:=hfin
    generalize DR (UE {lo:=E.fin.nv,az:=E.fin.hp.length} E.fin.ret v) c.hp E.fin.hp'=σ at *
    have ho2:∀o∈os2,o.den ρ=true:=fun o hm=>h1 o (List.mem_append_right _ hm)
    have hA:=σ.iq ρ ν
    rw [c1,c2] at hA
    refine ⟨σ.env ρ ν,σ.fA ρ ν,?_,by rw [M9 c3],DN hinst ho2 hr.hp,hr.wr,?_,h3⟩
    ·have h5:=hr.iq
     rw [hB.1,hB.2] at h5
     exact h5.trans hA (Nat.le_refl _) (Nat.le_refl _)
    ·intro k T' hk' hto htd
     obtain ⟨a',A,hIB⟩:=nC hinst ho2 hk' htd
     rw [hIB.fA,block_add]
     exact hr.own _ A hIB.hp (hIB.own hto) hIB.live
   ·cases h
  ·cases h
  ·cases h
end
end Go.Rex
set_option linter.unusedSimpArgs false
set_option linter.unusedVariables false
namespace Go.Rex
theorem IE.D6 (ρ:Env):∀e:IE,e.den ρ.num=e.den ρ:=by
 intro e
 induction e <;> simp_all [IE.den,Env.num]
theorem BE.D6 (ρ:Env):∀e:BE,e.den ρ.num=e.den ρ:=by
 intro e
 induction e <;> simp_all [BE.den,IE.D6]
 ·rfl
 ·rfl
theorem Kn.Vg {ρ:Env} {kn:Kn} (h:Kn.ok ρ.num kn):Kn.ok ρ kn:=fun p hp=>by rw [←BE.D6];exact h p hp
section
variable {post:Env→Prop} {cs:ko} {Γ:List (Env→Prop)} {ρ:Env}
theorem Sat.fin {σ:Sub} (h:post (σ.af ρ)):Sat post cs Γ ρ (.fin σ):=h
theorem Sat.br {c:BE} {t e:Out} (h1:c.den ρ=true→Sat post cs Γ ρ t) (h2:c.den ρ=false→Sat post cs Γ ρ e):Sat post cs Γ ρ (.br c t e):=⟨h1,h2⟩
theorem Sat.ob {b:BE} {k:Out} (h1:b.den ρ=true) (h2:Sat post cs Γ ρ k):Sat post cs Γ ρ (.ob b k):=⟨h1,fun _=>h2⟩
theorem Sat.alt {a b:Out} (h1:Sat post cs Γ ρ a) (h2:Sat post cs Γ ρ b):Sat post cs Γ ρ (.alt a b):=⟨h1,h2⟩
theorem Sat.new {nv:Nat} {fs:List QF} {k:Out} (h:∀e:Env,(∀f∈fs,f.den (ρ.join nv e))→Sat post cs Γ (ρ.join nv e) k):Sat post cs Γ ρ (.new nv fs k):=h
theorem Sat.loop {nv:Nat} {σ:Sub} {k:Out} (Inv:Env→Prop) (m:Env→Nat) (h0:Inv (σ.af ρ)) (h:∀e:Env,Inv (ρ.join nv e).num→Sat post cs ((fun ρ'=>Inv ρ'∧m ρ'<m (ρ.join nv e).num) :: Γ) (ρ.join nv e) k):Sat post cs Γ ρ (.loop nv σ k):=⟨Inv,m,h0,h⟩
theorem Sat.back {i:Nat} {σ:Sub} {G:Env→Prop} (hG:Γ[i]?=some G) (h:G (σ.af ρ)):Sat post cs Γ ρ (.back i σ):=⟨G,hG,h⟩
theorem Sat.call {g:Nat} {σ:Sub} {nv:Nat} {k:Out} {c:eu} {pre post':Env→Prop} (hc:cs[g]?=some (c,pre,post')) (h1:pre (σ.af ρ)) (h2:∀e:Env,post' (aG σ c.nv nv ρ (ρ.join nv e))→Sat post cs Γ (ρ.join nv e) k):Sat post cs Γ ρ (.call g σ nv k):=⟨c,pre,post',hc,h1,h2⟩
end
theorem dJ {P:Program} {T:aX} (hT:dm P T) {E:Ex} {cs:ko} {inf:List (List OI)} (hE:E.cons=cs.map (·.1)) (hC:∀k pre post,(k,pre,post)∈cs→jg k=true∧bC P k pre post) (hS:kg T E.sched inf=true)
  {n:Nat} {kn:Kn} {F:eu} {out:Out} (hF:E.fin=F) (hex:exec T E n [] (fV F.f F.nv kn F.gl F.hp F.args)=out) (hf:(match T.f F.f with | some fn=>fn.body.isSome && !(fn.name == "runtime.NumGoroutine") && decide (F.args.length≤fn.ntmps) | none=>false)=true)
  {pre post:Env→Prop} (hk:∀ρ:Env,pre ρ.num→Kn.ok ρ.num kn) (hs:∀ρ:Env,pre ρ.num→Sat post cs [] ρ out):bC P F pre post:=by
 subst hF
 split at hf
 case h_2=>cases hf
 rename_i fn hfn
 simp only [Bool.and_eq_true,Bool.not_eq_true',decide_eq_true_eq] at hf
 obtain ⟨⟨hb,hname⟩,hn⟩:=hf
 have Fa:=hT.fns _ fn (hT.KM hfn)
 refine ⟨⟨fn,Fa,hb,hname⟩,fun ρ ν w jR hgl hpre=>?_⟩
 obtain ⟨body,hbody⟩:=Option.isSome_iff_exists.1 hb
 have hnt:T.ntmps E.fin.f=fn.ntmps:=by unfold aX.ntmps;rw [hfn];rfl
 have hbd:T.body E.fin.f=body:=by unfold aX.body;rw [hfn];simp [hbody]
 refine Reach.calls Fa hbody ?_
 have yH:=hs ρ hpre
 rw [←hex] at yH
 have hg:=lI (P:=P) (B:=⟨w,kL ρ ν E.fin.hp,ρ,ν,E.fin.nv,E.fin.hp.length⟩) hT hE hC hS ⟨rfl,rfl⟩ n (op:=[]) (Γ:=[]) (ρ:=ρ) (ν:=ν) (c:=fV E.fin.f E.fin.nv kn E.fin.gl E.fin.hp E.fin.args)
  (a:=({tmps:=(E.fin.args.map (·.den ρ ν)).toArray ++ Array.replicate (fn.ntmps-(E.fin.args.map (·.den ρ ν)).toArray.size) undef,defers:=[]},fun _=>True)) (aS0:=[]) (w:=w) rfl (fun i o h=>by simp at h) yH
  ⟨Nat.le_refl _,Nat.le_refl _,dB.refl _ _ _ _,Kn.Vg (hk ρ hpre),hgl,jR,lM.refl _ _,fun k sb h1 h2 h3=>.inr ⟨k,sb,h1,h2,h3,rfl⟩,⟨?_,?_,rfl,fun p k sc d hc=>by cases hc⟩,trivial,fun p k sc hc=>by cases hc⟩
 ·unfold Goal dQ fV at hg
  simp only [List.map_cons,List.map_nil,SI.jf,hbd,Code.at,Option.getD_some] at hg
  exact hg
 ·intro t v ht
  obtain ⟨k,x,rfl,hx,rfl⟩:=yA (ρ:=ρ) (ν:=ν) ht
  have hk:k<E.fin.args.length:=(List.getElem?_eq_some_iff.1 hx).1
  rw [Array.getD_eq_getD_getElem?,Array.getElem?_append]
  simp [hk,SV.den,(List.getElem?_eq_some_iff.1 hx).2]
 ·rw [show T.ntmps (fV E.fin.f E.fin.nv kn E.fin.gl E.fin.hp E.fin.args).top.f=fn.ntmps from hnt]
  simp
  omega
end Go.Rex
