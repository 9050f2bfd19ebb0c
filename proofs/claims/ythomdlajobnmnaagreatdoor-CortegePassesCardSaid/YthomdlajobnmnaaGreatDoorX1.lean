/- part 1 of the proof -/
import Derived.IntWalk
import Derived.Test.YthomdlajobnmnaaGreatDoorX0
set_option linter.unusedSimpArgs false
set_option linter.unusedVariables false
namespace Go.Rex
theorem Xw {k:IntKind} {n:Int} (h1:k.min≤n) (h2:n≤k.max):k.wrap n=n:=by
 cases k
 ·exact IntWalk.i8_in n ⟨h1,h2⟩
 ·exact IntWalk.i16_in n ⟨h1,h2⟩
 ·exact IntWalk.i32_in n ⟨h1,h2⟩
 ·exact IntWalk.i64_in n ⟨h1,h2⟩
 ·exact IntWalk.u8_in n ⟨h1,h2⟩
 ·exact IntWalk.u16_in n ⟨h1,h2⟩
 ·exact IntWalk.u32_in n ⟨h1,h2⟩
 ·exact IntWalk.u64_in n ⟨h1,h2⟩
def IE.pq (a b:IE):IE :=
 match a.dE,b.dE with
 | some x,some y=>.lit (x-y)
 | none,some y=>if y == 0 then a else .sub a b
 | _,_=>.sub a b
theorem IE.xZ (ρ:Env) (a b:IE):(a.pq b).den ρ=a.den ρ-b.den ρ:=by
 unfold IE.pq
 split
 ·rename_i h1 h2;simp [IE.aN h1,IE.aN h2,IE.den]
 ·rename_i y _ h1;split
  ·rename_i h;simp at h;simp [IE.aN h1,h]
  ·simp [IE.den]
 ·simp [IE.den]
def ow (wr:Bool) (k:IntKind) (e:IE):IE × List BE :=
 match e.dE with
 | some n=>(.lit (k.wrap n),[])
 | none=>match k with
  | .i64=>if wr then (.wrap .i64 e,[]) else (e,[.inr .i64 e])
  | _=>(.wrap k e,[])
theorem qo {wr:Bool} {ρ:Env} {k:IntKind} {e:IE} (h:∀o∈(ow wr k e).2,o.den ρ=true):(ow wr k e).1.den ρ=k.wrap (e.den ρ):=by
 unfold ow at *
 split
 ·rename_i n hn;simp [IE.den,IE.aN hn]
 ·rename_i hn
  rw [hn] at h
  split
  ·cases wr with
   | true=>rfl
   | false =>
    simp [BE.den] at h
    exact (Xw h.1 h.2).symm
  ·rfl
def Fw (wr:Bool) (op:BinOp) (k:IntKind) (a b:IE):Option (IE × List BE) :=
 match op with
 | .add=>some (ow wr k (a.iO b))
 | .sub=>some (ow wr k (a.pq b))
 | .mul=>some (ow wr k (.mul a b))
 | .quo =>
  let (e,o):=ow wr k (.div a b)
  match b.dE with
  | some n=>if n == 0 then none else some (e,o)
  | none=>some (e,.not (.aA b (.lit 0)) :: o)
 | .rem =>
  match b.dE with
  | some n=>if n == 0 then none else some (match a.dE with | some m=>.lit (m.tmod n) | none=>.mod a b,[])
  | none=>some (.mod a b,[.not (.aA b (.lit 0))])
 | _=>none
def BE.Q5 (a b:IE):BE:=match a.dE,b.dE with
 | some x,some y=>.lit (Decidable.decide (x<y))
 | _,_=>.bO a b
def BE.Q6 (a b:IE):BE:=match a.dE,b.dE with
 | some x,some y=>.lit (Decidable.decide (x≤y))
 | _,_=>.ai a b
theorem BE.Lr (ρ:Env) (a b:IE):(BE.Q5 a b).den ρ=Decidable.decide (a.den ρ<b.den ρ):=by
 unfold BE.Q5
 split
 ·rename_i h1 h2;simp [BE.den,IE.aN h1,IE.aN h2]
 ·rfl
theorem BE.Ls (ρ:Env) (a b:IE):(BE.Q6 a b).den ρ=Decidable.decide (a.den ρ≤b.den ρ):=by
 unfold BE.Q6
 split
 ·rename_i h1 h2;simp [BE.den,IE.aN h1,IE.aN h2]
 ·rfl
def Q7 (op:BinOp) (a b:IE):Option BE :=
 match op with
 | .eql=>some (.rM a b)
 | .neq=>some (BE.rM a b).mF
 | .lss=>some (.Q5 a b)
 | .leq=>some (.Q6 a b)
 | .gtr=>some (.Q5 b a)
 | .geq=>some (.Q6 b a)
 | _=>none
def Cy:SW→Bool
 | .one .dI=>true
 | .one (.iY _ _)=>true
 | _=>false
def wL:SW→Bool
 | .agg _=>true
 | _=>false
def Ia (T:aY) (neg:Bool) (t:TypeId) (c:Bool) (x y:SW):PR :=
 if Cy x && Cy y && !c then .no
 else if wL x && wL y && !((T.ty t).map (·.eqs)).getD false then .no
 else match Dr T 40 t x y with
  | some b=>PR.one (.bool (if neg then b.mF else b))
  | none=>.no
def isStr:SW→Option (List UInt8)
 | .one (.str l)=>some l
 | _=>none
def Xx (T:aY) (op:BinOp) (t:TypeId) (c:Bool) (x y:SW):PR :=
 match x,y with
 | .one (.int k a),.one (.int l b) =>
  if j4 k l then
   match op with
   | .add | .sub | .mul | .quo | .rem=>match Fw T.wr op k a b with | some (e,o)=>PR.one (.int k e) o | none=>.no
   | .eql | .neq | .lss | .leq | .gtr | .geq=>match Q7 op a b with | some b=>PR.one (.bool b) | none=>.no
   | _=>.no
  else .no
 | x,y =>
  match isStr x,isStr y with
  | some l,some m=>match op with
   | .eql=>PR.one (.bool (.lit (l == m)))
   | .neq=>PR.one (.bool (.lit (!(l == m))))
   | _=>.no
  | _,_=>match op with
   | .eql=>Ia T false t c x y
   | .neq=>Ia T true t c x y
   | _=>.no
theorem rO {P:Program} {op:BinOp} {t:TypeId} {X Y:Operand} {a b:Value} {w:World}
  (h1:a=.nilIface→b=.nilIface→False) (h2:j6 a=true→j6 b=true→False):(eqGuard op t X Y a b).run P w=.ok () w:=by
 unfold eqGuard
 cases op <;> simp only [Bool.not_true,Bool.not_false,Bool.false_eq_true,if_false,if_true] <;> try rfl
 all_goals
  split
  ·exact (h1 rfl rfl).elim
  ·exact (h2 rfl rfl).elim
  ·rfl
def Ai:Operand→Bool
 | .const _=>true
 | _=>false
theorem O3 {P:Program} {op:BinOp} {t:TypeId} {X Y:Operand} {w:World} (h:(Ai X || Ai Y)=true) :
  (eqGuard op t X Y .nilIface .nilIface).run P w=.ok () w:=by
 unfold eqGuard
 cases X <;> cases Y <;> first | (cases op <;> rfl) | (simp [Ai] at h)
theorem x8 {ρ:Env} {ν:Nat→Addr} (c:SC):j6 (c.den ρ ν)=true→False:=by
 by_cases hh:c.isHole=true
 ·induction c with
  | iY k x ih =>
   simp only [SC.den]
   split
   ·simp [j6]
   ·exact ih (by simpa [SC.isHole] using hh)
  | hole=>simp [SC.den,undef,j6]
  | _=>simp [SC.isHole] at hh
 ·have:=SC.sI (ρ:=ρ) (ν:=ν) c (by simpa using hh)
  intro h
  unfold j6 at h
  split at h
  ·rename_i e;rw [e] at this;simp [Value.oneCell'] at this
  ·cases h
theorem Jn {ρ:Env} {ν:Nat→Addr} {x:SW} (h:x.den ρ ν=.nilIface):Cy x=true∨(∃i,x=.one (.val i))∨(∃r a b j,x=.one (.jO r a b j)):=by
 cases x with
 | agg cs=>simp [SW.den] at h
 | one c =>
  cases c <;> simp [SW.den,SC.den,Cy,undef] at h ⊢
  split at h <;> cases h
theorem Jo {T:aY} {n:Nat} {t:TypeId} {x y:SW} {c:BE} (h:Dr T n t x y=some c) :
  (∀i,x≠.one (.val i))∧(∀r a b j,x≠.one (.jO r a b j))∧(∀i,y≠.one (.val i))∧(∀r a b j,y≠.one (.jO r a b j))∧(∀k z,x=.one (.iY k z)→∃t d,z=.iface t d)∧(∀k z,y=.one (.iY k z)→∃t d,z=.iface t d):=by
 cases n with
 | zero=>simp [Dr] at h
 | succ n =>
  unfold Dr at h
  split at h
  ·cases h
  ·split at h
   all_goals first
    | (simp;done)
    | cases h
    | (refine ⟨by simp,by simp,by simp,by simp,fun k z e=>?_,fun k z e=>?_⟩
       · first | (simp at e;done) | (simp at e;exact ⟨_,_,e.2.symm⟩)
       · first | (simp at e;done) | (simp at e;exact ⟨_,_,e.2.symm⟩))
theorem abg {P:Program} {T:aY} (hT:dD P T) {neg:Bool} {t:TypeId} {X Y:Operand} {x y:SW} {v:SV} {gH:List BE} {ρ:Env} {ν:Nat→Addr} {w:World}
  (h:Ia T neg t (Ai X || Ai Y) x y=.ok v gH)
  (hb:(binOp (if neg then .neq else .eql) t (x.den ρ ν) (y.den ρ ν)).run P w=((Op.equal t (x.den ρ ν) (y.den ρ ν)).run P w).andThen fun b w'=>.ok (.bool (if neg then !b else b)) w') :
  (do eqGuard (if neg then .neq else .eql) t X Y (x.den ρ ν) (y.den ρ ν);binOp (if neg then .neq else .eql) t (x.den ρ ν) (y.den ρ ν):Sem Value).run P w=.ok (v.den ρ ν) w:=by
 unfold Ia at h
 split at h
 ·cases h
 rename_i g1
 split at h
 ·cases h
 rename_i g2
 split at h
 case h_2=>cases h
 rename_i b hb'
 simp only [PR.one,PR.ok.injEq] at h
 obtain ⟨h,_⟩:=h
 subst h
 obtain ⟨n1,n2,n3,n4,n5,n6⟩:=Jo hb'
 have heq:=(acE hT (ρ:=ρ) (ν:=ν) (w:=w) 40).1 _ _ _ _ hb' Op.maxDepth (by simp [Op.maxDepth])
 have hgd:(eqGuard (if neg then .neq else .eql) t X Y (x.den ρ ν) (y.den ρ ν)).run P w=.ok () w:=by
  by_cases hn:x.den ρ ν=.nilIface∧y.den ρ ν=.nilIface
  ·obtain ⟨e1,e2⟩:=hn
   have i1:=(Jn e1).resolve_right (by rintro (⟨i,e⟩ | ⟨r,a,b,j,e⟩);exact n1 _ e;exact n2 _ _ _ _ e)
   have i2:=(Jn e2).resolve_right (by rintro (⟨i,e⟩ | ⟨r,a,b,j,e⟩);exact n3 _ e;exact n4 _ _ _ _ e)
   rw [e1,e2]
   refine O3 ?_
   simp only [i1,i2,Bool.and_self,Bool.true_and,Bool.not_eq_true',Bool.not_eq_false] at g1
   exact g1
  ·by_cases ha:wL x=true∧wL y=true
   ·obtain ⟨a1,a2⟩:=ha
    simp only [a1,a2,Bool.and_self,Bool.true_and,Bool.not_eq_true',Bool.not_eq_false] at g2
    cases hti:T.ty t with
    | none=>simp [hti] at g2
    | some ti =>
     simp [hti] at g2
     obtain ⟨d,hd,hc,he⟩:=(hT.ty hti).und
     cases x with
     | one c=>simp [wL] at a1
     | agg xs =>
      cases y with
      | one c=>simp [wL] at a2
      | agg ys=>exact run_eqGuard_agg w _ t X Y _ _ (he g2).2.1
   ·refine rO (fun e1 e2=>hn ⟨e1,e2⟩) (fun e1 e2=>ha ⟨?_,?_⟩)
    ·cases x with
     | one c=>exact (x8 c e1).elim
     | agg _=>rfl
    ·cases y with
     | one c=>exact (x8 c e2).elim
     | agg _=>rfl
 simp only [Sem.run_bind,hgd,Result.andThen_ok]
 rw [hb]
 unfold Op.equal
 rw [heq]
 simp only [Result.andThen_ok,SV.den,SW.den,SC.den]
 cases neg <;> simp [BE.iP]
theorem Uj {wr:Bool} {op:BinOp} {k:IntKind} {a b:IE} {e:IE} {gH:List BE} {ρ:Env} {P:Program} {t:TypeId} {w:World}
  (h:Fw wr op k a b=some (e,gH)) (ho:∀o∈gH,o.den ρ=true) :
  (binOp op t (.int k (a.den ρ)) (.int k (b.den ρ))).run P w=.ok (.int k (e.den ρ)) w:=by
 unfold Fw at h
 split at h
 ·simp only [Option.some.injEq] at h
  have e1:(ow wr k (a.iO b)).1=e:=by rw [h]
  have e2:(ow wr k (a.iO b)).2=gH:=by rw [h]
  have:=qo (wr:=wr) (ρ:=ρ) (k:=k) (e:=a.iO b) (by rw [e2];exact ho)
  rw [e1,IE.kL] at this
  simp [binOp,Op.intArith,this]
 ·simp only [Option.some.injEq] at h
  have e1:(ow wr k (a.pq b)).1=e:=by rw [h]
  have e2:(ow wr k (a.pq b)).2=gH:=by rw [h]
  have:=qo (wr:=wr) (ρ:=ρ) (k:=k) (e:=a.pq b) (by rw [e2];exact ho)
  rw [e1,IE.xZ] at this
  simp [binOp,Op.intArith,this]
 ·simp only [Option.some.injEq] at h
  have e1:(ow wr k (.mul a b)).1=e:=by rw [h]
  have e2:(ow wr k (.mul a b)).2=gH:=by rw [h]
  have:=qo (wr:=wr) (ρ:=ρ) (k:=k) (e:=.mul a b) (by rw [e2];exact ho)
  rw [e1] at this
  simp [binOp,Op.intArith,this,IE.den]
 ·simp only at h
  split at h
  ·rename_i n hn
   split at h
   ·cases h
   ·rename_i hne
    simp only [Option.some.injEq,Prod.mk.injEq] at h
    obtain ⟨e1,e2⟩:=h
    have:=qo (wr:=wr) (ρ:=ρ) (k:=k) (e:=.div a b) (by rw [e2];exact ho)
    rw [e1] at this
    have hb:b.den ρ≠0:=by rw [IE.aN hn];simpa using hne
    simp [binOp,Op.intDiv,this,IE.den,hb]
  ·simp only [Option.some.injEq,Prod.mk.injEq] at h
   obtain ⟨e1,e2⟩:=h
   have hb:b.den ρ≠0:=by
    have:=ho (.not (.aA b (.lit 0))) (by rw [←e2];simp)
    simpa [BE.den,IE.den] using this
   have:=qo (wr:=wr) (ρ:=ρ) (k:=k) (e:=.div a b) (fun o hm=>ho o (by rw [←e2];simp [hm]))
   rw [e1] at this
   simp [binOp,Op.intDiv,this,IE.den,hb]
 ·split at h
  ·rename_i n hn
   split at h
   ·cases h
   ·rename_i hne
    simp only [Option.some.injEq,Prod.mk.injEq] at h
    obtain ⟨e1,e2⟩:=h
    have hb:b.den ρ≠0:=by rw [IE.aN hn];simpa using hne
    have he:e.den ρ=(a.den ρ).tmod (b.den ρ):=by
     rw [←e1]
     split
     ·rename_i m hm;simp [IE.den,IE.aN hm,IE.aN hn]
     ·simp [IE.den]
    simp [binOp,Op.intDiv,he,hb]
  ·simp only [Option.some.injEq,Prod.mk.injEq] at h
   obtain ⟨e1,e2⟩:=h
   have hb:b.den ρ≠0:=by
    have:=ho (.not (.aA b (.lit 0))) (by rw [←e2];simp)
    simpa [BE.den,IE.den] using this
   subst e1
   simp [binOp,Op.intDiv,IE.den,hb]
 ·cases h
theorem abh {op:BinOp} {k:IntKind} {a b:IE} {e:BE} {ρ:Env} {P:Program} {t:TypeId} {w:World} (h:Q7 op a b=some e) :
  (binOp op t (.int k (a.den ρ)) (.int k (b.den ρ))).run P w=.ok (.bool (e.den ρ)) w:=by
 unfold Q7 at h
 split at h <;> simp at h
 all_goals subst h
 ·simp [binOp,Op.intCmp,BE.xX]
 ·simp [binOp,Op.intCmp,BE.iP,BE.xX,bne]
 ·simp [binOp,Op.intCmp,BE.Lr]
 ·simp [binOp,Op.intCmp,BE.Ls]
 ·simp [binOp,Op.intCmp,BE.Lr]
 ·simp [binOp,Op.intCmp,BE.Ls]
theorem Lt {x:SW} {l:List UInt8} (h:isStr x=some l):x=.one (.str l):=by
 unfold isStr at h
 split at h
 ·simp at h;rw [h]
 ·cases h
theorem Lu {P:Program} {T:aY} (hT:dD P T) {neg:Bool} {t:TypeId} {X Y:Operand} {x y:SW} {v:SV} {gH:List BE} {ρ:Env} {ν:Nat→Addr} {w:World}
  (h:Ia T neg t (Ai X || Ai Y) x y=.ok v gH) (hi:nz (.w x)=none∨nz (.w y)=none) (hs:isStr x=none∨isStr y=none) :
  (do eqGuard (if neg then .neq else .eql) t X Y (x.den ρ ν) (y.den ρ ν);binOp (if neg then .neq else .eql) t (x.den ρ ν) (y.den ρ ν):Sem Value).run P w=.ok (v.den ρ ν) w:=by
 have hnv:∃c,Dr T 40 t x y=some c:=by
  unfold Ia at h
  split at h
  ·cases h
  split at h
  ·cases h
  split at h
  ·rename_i b hb;exact ⟨b,hb⟩
  ·cases h
 obtain ⟨c,hc⟩:=hnv
 obtain ⟨n1,n2,n3,n4,n5,n6⟩:=Jo hc
 refine abg hT h ?_
 have hcase:∀a b:Value,(∀k l i j,a=.int k i→b=.int l j→False)→(∀i j,a=.string i→b=.string j→False) →
   (∀k l i j,a=.float k i→b=.float l j→False)→(∀k l i j i' j',a=.complex k i i'→b=.complex l j j'→False) →
   (binOp (if neg then .neq else .eql) t a b).run P w=((Op.equal t a b).run P w).andThen fun b w'=>.ok (.bool (if neg then !b else b)) w':=by
  intro a b q1 q2 q3 q4
  cases neg
  ·cases a <;> cases b <;> first | (exact (q1 _ _ _ _ rfl rfl).elim) | (exact (q2 _ _ rfl rfl).elim) | (exact (q3 _ _ _ _ rfl rfl).elim) | (exact (q4 _ _ _ _ _ _ rfl rfl).elim) | (simp [binOp])
  ·cases a <;> cases b <;> first | (exact (q1 _ _ _ _ rfl rfl).elim) | (exact (q2 _ _ rfl rfl).elim) | (exact (q3 _ _ _ _ rfl rfl).elim) | (exact (q4 _ _ _ _ _ _ rfl rfl).elim) | (simp [binOp])
 have hx:(∀k i,x.den ρ ν=.int k i→(nz (.w x)).isSome=true)∧(∀i,x.den ρ ν=.string i→(isStr x).isSome=true)∧(∀k i,x.den ρ ν≠.float k i)∧(∀k i j,x.den ρ ν≠.complex k i j):=by
  cases x with
  | agg cs=>simp [SW.den]
  | one c=>cases c <;> first | exact (n2 _ _ _ _ rfl).elim | exact (n1 _ rfl).elim | (obtain ⟨tt,dd,rfl⟩:=n5 _ _ rfl;simp only [SW.den,SC.den];split <;> simp;done) | (simp [SW.den,SC.den,nz,isStr,undef];done) | (simp only [SW.den,SC.den];split <;> simp)
 have hy:(∀k i,y.den ρ ν=.int k i→(nz (.w y)).isSome=true)∧(∀i,y.den ρ ν=.string i→(isStr y).isSome=true):=by
  cases y with
  | agg cs=>simp [SW.den]
  | one c=>cases c <;> first | exact (n4 _ _ _ _ rfl).elim | exact (n3 _ rfl).elim | (obtain ⟨tt,dd,rfl⟩:=n6 _ _ rfl;simp only [SW.den,SC.den];split <;> simp;done) | (simp [SW.den,SC.den,nz,isStr,undef];done) | (simp only [SW.den,SC.den];split <;> simp)
 refine hcase _ _ (fun k l i j e1 e2=>?_) (fun i j e1 e2=>?_) (fun k l i j e1 _=>hx.2.2.1 _ _ e1) (fun k l i j i' j' e1 _=>hx.2.2.2 _ _ _ e1)
 ·rcases hi with hi | hi
  ·have:=hx.1 _ _ e1;rw [hi] at this;cases this
  ·have:=hy.1 _ _ e2;rw [hi] at this;cases this
 ·rcases hs with hs | hs
  ·have:=hx.2.1 _ e1;rw [hs] at this;cases this
  ·have:=hy.2 _ e2;rw [hs] at this;cases this
theorem abj {P:Program} {T:aY} (hT:dD P T) {op:BinOp} {t:TypeId} {X Y:Operand} {x y:SW} {v:SV} {gH:List BE} {ρ:Env} {ν:Nat→Addr} {w:World}
  (h:Xx T op t (Ai X || Ai Y) x y=.ok v gH) (ho:∀o∈gH,o.den ρ=true) :
  (do eqGuard op t X Y (x.den ρ ν) (y.den ρ ν);binOp op t (x.den ρ ν) (y.den ρ ν):Sem Value).run P w=.ok (v.den ρ ν) w:=by
 unfold Xx at h
 split at h
 ·rename_i k a l b
  split at h
  ·rename_i hk
   have hk':=iL hk
   subst hk'
   have hg:(eqGuard op t X Y ((SW.one (.int k a)).den ρ ν) ((SW.one (.int k b)).den ρ ν)).run P w=.ok () w :=
    rO (by simp [SW.den,SC.den]) (by simp [SW.den,SC.den,j6])
   simp only [Sem.run_bind,hg,Result.andThen_ok]
   have ar:∀q,(match Fw T.wr op k a b with | some (e,o)=>PR.one (.int k e) o | none=>.no)=PR.ok v gH→q=op→(binOp q t ((SW.one (.int k a)).den ρ ν) ((SW.one (.int k b)).den ρ ν)).run P w=.ok (v.den ρ ν) w:=by
    intro q hq e
    subst e
    split at hq
    ·rename_i e o he
     simp only [PR.one,PR.ok.injEq] at hq
     obtain ⟨rfl,rfl⟩:=hq
     exact Uj he ho
    ·cases hq
   have cm:∀q,(match Q7 op a b with | some b=>PR.one (.bool b) | none=>.no)=PR.ok v gH→q=op→(binOp q t ((SW.one (.int k a)).den ρ ν) ((SW.one (.int k b)).den ρ ν)).run P w=.ok (v.den ρ ν) w:=by
    intro q hq e
    subst e
    split at hq
    ·rename_i e he
     simp only [PR.one,PR.ok.injEq] at hq
     obtain ⟨rfl,rfl⟩:=hq
     exact abh he
    ·cases hq
   split at h
   all_goals first
    | exact ar _ h rfl
    | exact cm _ h rfl
    | cases h
  ·cases h
 ·rename_i hno
  split at h
  ·rename_i l m hl hm
   have hl':=Lt hl
   have hm':=Lt hm
   subst hl' hm'
   have hg:(eqGuard op t X Y ((SW.one (.str l)).den ρ ν) ((SW.one (.str m)).den ρ ν)).run P w=.ok () w :=
    rO (by simp [SW.den,SC.den]) (by simp [SW.den,SC.den,j6])
   simp only [Sem.run_bind,hg,Result.andThen_ok]
   split at h
   ·simp only [PR.one,PR.ok.injEq] at h
    obtain ⟨rfl,rfl⟩:=h
    simp [SW.den,SV.den,SC.den,BE.den,binOp,Op.stringOp,ByteArray.toList_eq]
   ·simp only [PR.one,PR.ok.injEq] at h
    obtain ⟨rfl,rfl⟩:=h
    simp [SW.den,SV.den,SC.den,BE.den,binOp,Op.stringOp,ByteArray.toList_eq]
   ·cases h
  ·rename_i ahv
   have hs:isStr x=none∨isStr y=none:=by
    cases hx:isStr x with
    | none=>exact .inl rfl
    | some l =>
     cases hy:isStr y with
     | none=>exact .inr rfl
     | some m=>exact (ahv l m hx hy).elim
   have hi:nz (.w x)=none∨nz (.w y)=none:=by
    cases hx:nz (.w x) with
    | none=>exact .inl rfl
    | some p =>
     cases hy:nz (.w y) with
     | none=>exact .inr rfl
     | some q =>
      unfold nz at hx hy
      split at hx
      ·rename_i k a hk
       split at hy
       ·rename_i l b hl
        simp only [SV.w.injEq] at hk hl
        exact (hno k a l b hk hl).elim
       ·cases hy
      ·cases hx
   split at h
   ·exact Lu (neg:=false) hT h hi hs
   ·exact Lu (neg:=true) hT h hi hs
   ·cases h
def Ib (a:SA) (e:IE) (sz:Nat):Option (SA × List BE) :=
 if a.s1 == sz && decide (0<sz) then some ({a with i1:=a.i1.iO e},[.ai (.lit 0) a.i1])
 else match e.dE with
  | some n=>some ({a with j:=a.j+n.toNat * sz},[])
  | none =>
   if a.s1 == 0 then some ({a with i1:=e,s1:=sz},[])
   else if a.s2 == 0 then some ({a with i2:=e,s2:=sz},[])
   else none
theorem Cz {ρ:Env} {a b:SA} {e:IE} {sz:Nat} {gH:List BE} (h:Ib a e sz=some (b,gH)) (ho:∀o∈gH,o.den ρ=true) (he:0≤e.den ρ) :
  b.aC=a.aC∧b.off ρ=a.off ρ+(e.den ρ).toNat * sz:=by
 unfold Ib at h
 split at h
 ·rename_i hc
  simp only [Bool.and_eq_true,beq_iff_eq,decide_eq_true_eq] at hc
  simp only [Option.some.injEq,Prod.mk.injEq] at h
  obtain ⟨rfl,rfl⟩:=h
  have h0:=of_decide_eq_true (ho _ (List.mem_singleton.2 rfl))
  simp only [IE.den] at h0
  refine ⟨rfl,?_⟩
  simp only [SA.off,IE.kL,hc.1]
  rw [Int.toNat_add h0 he,Nat.add_mul]
  omega
 ·split at h
  ·rename_i n hn
   simp only [Option.some.injEq,Prod.mk.injEq] at h
   obtain ⟨rfl,rfl⟩:=h
   refine ⟨rfl,?_⟩
   simp only [SA.off,IE.aN hn]
   omega
  ·split at h
   ·rename_i hs
    simp only [beq_iff_eq] at hs
    simp only [Option.some.injEq,Prod.mk.injEq] at h
    obtain ⟨rfl,rfl⟩:=h
    refine ⟨rfl,?_⟩
    simp only [SA.off,hs]
    omega
   ·split at h
    ·rename_i hs
     simp only [beq_iff_eq] at hs
     simp only [Option.some.injEq,Prod.mk.injEq] at h
     obtain ⟨rfl,rfl⟩:=h
     refine ⟨rfl,?_⟩
     simp only [SA.off,hs]
     omega
    ·cases h
def sJ (kn:Kn) (sb:SB) (a:SA):Nat→Nat→Rd (List SC × List BE)
 | 0,_=>.ok ([],[])
 | n+1,k =>
  match sb.loc a k with
  | none=>.no
  | some l =>
   match sb.read kn l with
   | .no=>.no
   | .br c=>.br c
   | .ok c =>
    match sJ kn sb a n (k+1) with
    | .no=>.no
    | .br d=>.br d
    | .ok (cs,os)=>.ok (c :: cs,l.gH ++ os)
theorem x9 {ρ:Env} {ν:Nat→Addr} {kn:Kn} (hk:Kn.ok ρ kn) {sb:SB} {a:SA} {arr:Array Value} (hb:sb.has ρ ν arr) :
  ∀{n k:Nat} {cs:List SC} {os:List BE},sJ kn sb a n k=.ok (cs,os)→(∀o∈os,o.den ρ=true) →
   cs.length=n∧∀j c,cs[j]?=some c→arr[a.off ρ+k+j]?=some (c.den ρ ν)
 | 0,k,cs,os,h,_=>by
  simp only [sJ,Rd.ok.injEq,Prod.mk.injEq] at h
  obtain ⟨rfl,rfl⟩:=h
  exact ⟨rfl,fun j c hj=>by simp at hj⟩
 | n+1,k,cs,os,h,ho=>by
  unfold sJ at h
  split at h
  ·cases h
  ·rename_i l hl
   split at h
   ·cases h
   ·cases h
   ·rename_i c hc
    split at h
    ·cases h
    ·cases h
    ·rename_i cs' os' hr
     simp only [Rd.ok.injEq,Prod.mk.injEq] at h
     obtain ⟨rfl,rfl⟩:=h
     obtain ⟨Xy,hpos⟩:=SB.Ug (ρ:=ρ) hl
     have hcell:=SB.H7 hk hb Xy (fun o hm=>ho o (by simp [hm])) hc
     obtain ⟨hlen,hrest⟩:=x9 hk hb hr (fun o hm=>ho o (by simp [hm]))
     refine ⟨by simp [hlen],fun j d hj=>?_⟩
     cases j with
     | zero=>simp at hj;subst hj;rw [←hpos];exact hcell
     | succ j =>
      have:=hrest j d (by simpa using hj)
      rw [←this]
      congr 1
      omega
def Fx (T:aY) (kn:Kn) (hp:List SB) (t:TypeId) (a:SA):PR :=
 match T.ty t,hp[a.aC]? with
 | some ti,some sb =>
  if sb.gone || sb.iN then .no else
  match sJ kn sb a ti.size 0 with
  | .no=>.no
  | .br c=>.br c
  | .ok (cs,os)=>if ti.d.isAgg then .ok (.w (.agg cs)) (sb.vT ++ os) else match cs with | [c]=>.ok (.w (.one c)) (sb.vT ++ os) | _=>.no
 | _,_=>.no
theorem Jp {P:Program} {T:aY} (hT:dD P T) {ρ:Env} {ν:Nat→Addr} {kn:Kn} (hk:Kn.ok ρ kn) {hp:List SB} {w:World} (hh:aH ρ ν hp w)
  {t:TypeId} {a:SA} {v:SV} {os:List BE} (h:Fx T kn hp t a=.ok v os) (ho:∀o∈os,o.den ρ=true) :
  (loadVar t (a.den ρ ν)).run P w=.ok (v.den ρ ν) w:=by
 unfold Fx at h
 split at h
 ·rename_i ti sb hti hsb
  split at h
  ·cases h
  rename_i pz
  have hok:=hT.ty hti
  split at h
  ·cases h
  ·cases h
  ·rename_i cs os' hl
   have hcell:∀(os'':List BE),os''=sb.vT ++ os'→(∀o∈os'',o.den ρ=true)→cs.length=ti.size∧∀j c,cs[j]?=some c→w.cell? ((a.den ρ ν).add j)=some (c.den ρ ν):=by
    intro os'' e acH
    subst e
    obtain ⟨arr,hb,harr⟩:=hh.cells hsb (SB.wK (by simp at pz;exact pz.1) fun o hm=>acH o (List.mem_append_left _ hm)) (fun _=>by simp at pz;exact pz.2)
    obtain ⟨h1,h2⟩:=x9 hk hb hl fun o hm=>acH o (List.mem_append_right _ hm)
    refine ⟨h1,fun j c hj=>?_⟩
    have:=h2 j c hj
    unfold SA.den
    rw [Addr.add_add]
    exact harr _ _ (by simpa using this)
   unfold loadVar
   simp only [Sem.run_bind,hok.isAgg,Result.andThen_ok]
   split at h
   ·rename_i hag
    simp only [PR.ok.injEq] at h
    obtain ⟨rfl,rfl⟩:=h
    obtain ⟨h1,h2⟩:=hcell _ rfl ho
    simp only [hag,if_true,Sem.run_bind,hok.size,Result.andThen_ok]
    have:=run_loadCells_list (P:=P) (w:=w) (a.den ρ ν) (cs.map (·.den ρ ν)) (fun j v hj=>by
      rw [List.getElem?_map] at hj
      simp only [Option.map_eq_some_iff] at hj
      obtain ⟨c,hc,rfl⟩:=hj
      exact h2 j c hc)
    rw [List.length_map,h1] at this
    simp [this,SV.den,SW.den]
   ·rename_i hag
    split at h
    ·rename_i c
     simp only [PR.ok.injEq] at h
     obtain ⟨rfl,rfl⟩:=h
     obtain ⟨h1,h2⟩:=hcell _ rfl ho
     have:=h2 0 c rfl
     have e0:(a.den ρ ν).add 0=a.den ρ ν:=by simp [Addr.add]
     rw [e0] at this
     simp [hag,this,SV.den,SW.den]
    ·cases h
 ·cases h
def DZ:SV→Option Nat
 | .w (.one (.ptr a))=>match a.dE with | some 0=>some a.aC | _=>none
 | _=>none
def oM:List (Option SV)→Option (List Nat)
 | []=>some []
 | some v :: r=>match DZ v,oM r with | some b,some bs=>some (b :: bs) | _,_=>none
 | none :: _=>none
def df (c:BE) (len:IE):BE:=.or c.mF (.aA len (.lit 0))
theorem yf {ρ:Env} {c:BE} {len:IE} (h:(df c len).den ρ=true):c.den ρ=true→len.den ρ=0:=by
 intro hc
 simp only [df,BE.den,BE.iP,hc,IE.den] at h
 simpa using h
def putAt:List SC→Nat→List SC→List SC
 | cs,_,[]=>cs
 | cs,p,c :: r=>putAt (cs.set p c) (p+1) r
def Q8 (T:aY) (src dst:TypeId) (x:SW):PR :=
 match T.ty src,T.ty dst,x with
 | some ti,some tj,.one (.int _ e) =>
  match ti.d,tj.d with
  | .int _,.int k=>match ow T.wr k e with | (e',os)=>PR.one (.int k e') os
  | _,_=>.no
 | some _,some tj,.one (.str l)=>match tj.d with | .str=>PR.one (.str l) | _=>.no
 | _,_,_=>.no
def Xz (T:aY) (t:TypeId) (x:SW):PR :=
 match T.ty t with
 | none=>.no
 | some ti =>
  match ti.d,x with
  | .sl _,.one (.sl _ len _)=>PR.one (.int .i64 len) [.ai (.lit 0) len]
  | .sl _,.one .bG=>PR.one (.int .i64 (.lit 0))
  | .sl _,.one (.fw c _ len _)=>PR.one (.int .i64 len) [df c len,.ai (.lit 0) len]
  | .str,.one (.str l)=>PR.one (.int .i64 (.lit l.length))
  | .arr n _,_=>PR.one (.int .i64 (.lit n))
  | _,_=>.no
def yg (T:aY) (s:TypeId) (x:SW) (f:Nat):PR :=
 match T.ty s,x with
 | some ti,.one (.ptr a) =>
  match ti.d with
  | .struct fs=>match fs[f]? with
   | some (off,ft)=>match T.ty ft with
    | some tf=>if tf.size == 0 then .no else PR.one (.ptr {a with j:=a.j+off})
    | none=>.no
   | none=>.no
  | _=>.no
 | _,_=>.no
def Lv (T:aY) (s:TypeId) (x:SW) (f:Nat):PR :=
 match T.ty s,x with
 | some ti,.agg cs =>
  match ti.d with
  | .struct fs=>match fs[f]? with
   | some (off,ft)=>match uP T ft cs off with | some y=>.ok (.w y) [] | none=>.no
   | none=>.no
  | _=>.no
 | _,_=>.no
def Lx (T:aY) (t:TypeId) (x i:SW):PR :=
 match T.ty t,x,i with
 | some ti,.agg cs,.one (.int _ (.lit n)) =>
  match ti.d with
  | .arr len et=>if decide (0≤n∧n<(len:Int)) then
    match T.ty et with
    | some te=>match uP T et cs (n.toNat * te.size) with | some y=>.ok (.w y) [] | none=>.no
    | none=>.no
   else .no
  | _=>.no
 | _,_,_=>.no
def yh (T:aY) (t:TypeId) (x i:SW):PR :=
 match T.ty t,i with
 | some ti,.one (.int _ e) =>
  match ti.d,x with
  | .sl et,.one (.sl a len _) =>
   match T.ty et with
   | some te=>match Ib a e te.size with
    | some (b,os)=>PR.one (.ptr b) (.ai (.lit 0) e :: .bO e len :: os)
    | none=>.no
   | none=>.no
  | .sl et,.one (.fw c a len _) =>
   match T.ty et with
   | some te=>match Ib a e te.size with
    | some (b,os)=>PR.one (.ptr b) (c.mF :: .ai (.lit 0) e :: .bO e len :: os)
    | none=>.no
   | none=>.no
  | .arr n et,.one (.ptr a) =>
   match T.ty et with
   | some te=>match Ib a e te.size with
    | some (b,os)=>PR.one (.ptr b) (.ai (.lit 0) e :: .bO e (.lit n) :: os)
    | none=>.no
   | none=>.no
  | _,_=>.no
 | _,_=>.no
def Fy (T:aY) (kn:Kn) (t:TypeId) (x:SW) (lo hi:Option SW):PR :=
 match T.ty t,x with
 | some ti,.one (.sl a len cap) =>
  match ti.d with
  | .sl et =>
   match T.ty et with
   | some te =>
    let h?:Option IE:=match hi with | none=>some len | some (.one (.int _ e))=>some e | _=>none
    let l?:Option IE:=match lo with | none=>some (.lit 0) | some (.one (.int _ e))=>some e | _=>none
    match h?,l? with
    | some h,some l =>
     let os:List BE:=[.ai (.lit 0) l,.ai l h,.ai h cap,.ai (.lit 0) len]
     if (match lo with | none=>true | _=>false) then
      PR.one (.sl a h cap) os
     else
      match (BE.aA l cap).decide kn with
      | some true=>PR.one (.sl a (h.pq l) (cap.pq l)) os
      | some false=>match Ib a l te.size with
       | some (b,os')=>PR.one (.sl b (h.pq l) (cap.pq l)) (os ++ os')
       | none=>.no
      | none=>.br (.aA l cap)
    | _,_=>.no
   | none=>.no
  | _=>.no
 | _,_=>.no
def qL (place:Nat→Option (Nat × Nat)) (cs:List SC):List (Nat × SW)→Option (List SC)
 | []=>some cs
 | (i,x) :: r =>
  match place i with
  | none=>none
  | some (off,size)=>if x.cells.length == size && decide (off+size≤cs.length) then qL place (putAt cs off x.cells) r else none
theorem Aj:∀(xs cs:List SC) (p:Nat),(putAt cs p xs).length=cs.length
 | [],_,_=>rfl
 | c :: r,cs,p=>by simp [putAt,Aj r]
theorem SW.uQ (ρ:Env) (ν:Nat→Addr) (x:SW):(x.den ρ ν).cells=(x.cells.map (·.den ρ ν)).toArray:=by
 cases x with
 | agg cs=>rfl
 | one c =>
  simp only [SW.den,SW.cells,List.map_cons,List.map_nil]
  unfold Value.cells
  split
  ·rename_i cs h
   exact (x8 (ρ:=ρ) (ν:=ν) c (by rw [h];rfl)).elim
  ·rfl
theorem Dt {ρ:Env} {ν:Nat→Addr} (off:Nat):∀(xs:List SC) (k:Nat) (cs:List SC),
  ((xs.map (·.den ρ ν)).zipIdx k).foldl (fun (acc:Array Value) (p:Value × Nat)=>acc.setIfInBounds (off+p.2) p.1) (cs.map (·.den ρ ν)).toArray =
   ((putAt cs (off+k) xs).map (·.den ρ ν)).toArray
 | [],_,_=>rfl
 | c :: r,k,cs=>by
  simp only [List.map_cons,List.zipIdx_cons,List.foldl_cons,putAt]
  have:=Dt (ρ:=ρ) (ν:=ν) off r (k+1) (cs.set (off+k) c)
  rw [Nat.add_assoc,←this]
  congr 1
  simp [List.map_set]
theorem yj {ρ:Env} {ν:Nat→Addr} {place LA:Nat→Option (Nat × Nat)} (hp:∀i p,place i=some p→LA i=some p) :
  ∀{parts:List (Nat × SW)} {cs cs':List SC},qL place cs parts=some cs' →
   Instr.fill LA (cs.map (·.den ρ ν)).toArray (parts.map fun p=>(p.1,p.2.den ρ ν))=some (cs'.map (·.den ρ ν)).toArray
 | [],cs,cs',h=>by simp [qL] at h;subst h;rfl
 | (i,x) :: r,cs,cs',h=>by
  unfold qL at h
  split at h
  ·cases h
  ·rename_i off size hpl
   split at h
   ·rename_i hc
    simp only [Bool.and_eq_true,beq_iff_eq,decide_eq_true_eq] at hc
    have ih:=yj (ρ:=ρ) (ν:=ν) hp h
    simp only [List.map_cons,Instr.fill,hp _ _ hpl,SW.uQ]
    rw [if_neg]
    ·rw [←ih]
     congr 1
     have:=Dt (ρ:=ρ) (ν:=ν) off x.cells 0 cs
     rw [Nat.add_zero] at this
     rw [←this]
     simp
    ·simp [hc.1]
     omega
   ·cases h
def KI (T:aY):List (Nat × TypeId)→Bool
 | []=>true
 | (_,t) :: r=>(T.ty t).isSome && KI T r
def placeOf (T:aY) (fs:List (Nat × TypeId)) (i:Nat):Option (Nat × Nat) :=
 match fs[i]? with
 | some (off,t)=>(T.ty t).map fun ti=>(off,ti.size)
 | none=>none
def Jq:List (Nat × Option SV)→Option (List (Nat × SW))
 | []=>some []
 | (i,some (.w x)) :: r=>(Jq r).map ((i,x) :: ·)
 | _=>none
def LB (T:aY) (t:TypeId) (parts:List (Nat × SW)):PR :=
 match T.ty t with
 | none=>.no
 | some ti =>
  match ti.d with
  | .struct fs=>if KI T fs then match qL (placeOf T fs) ti.zero parts with | some cs=>.ok (.w (.agg cs)) [] | none=>.no else .no
  | .arr _ e=>match T.ty e with
   | some te=>match qL (fun i=>some (i * te.size,te.size)) ti.zero parts with | some cs=>.ok (.w (.agg cs)) [] | none=>.no
   | none=>.no
  | _=>.no
theorem Jr {P:Program} {T:aY} (hT:dD P T):∀{fs:List Field},KI T (fs.map fun f=>(f.offset,f.type))=true →
  ∃places,fs.mapM (fun f=>(P.info? f.type).map fun i=>(f.offset,i.size))=some places ∧
   ∀i p,placeOf T (fs.map fun f=>(f.offset,f.type)) i=some p→places[i]?=some p
 | [],_=>⟨[],rfl,fun i p h=>by simp [placeOf] at h⟩
 | f :: fs,h=>by
  simp only [List.map_cons,KI,Bool.and_eq_true] at h
  obtain ⟨places,hp,hq⟩:=Jr hT h.2
  obtain ⟨ti,hti⟩:=Option.isSome_iff_exists.1 h.1
  obtain ⟨i,z,hi,hs,_⟩:=(hT.ty hti).info
  refine ⟨(f.offset,i.size) :: places,by simp [List.mapM_cons,hi,hp],fun k p hk=>?_⟩
  cases k with
  | zero =>
   simp [placeOf,hti] at hk
   simp [←hk,hs]
  | succ k =>
   have:=hq k p (by simpa [placeOf] using hk)
   simpa using this
theorem Uk {P:Program} {T:aY} (hT:dD P T) {ρ:Env} {ν:Nat→Addr} {w:World} {t:TypeId} {parts:List (Nat × SW)} {v:SV} {os:List BE}
  (h:LB T t parts=.ok v os):(Instr.build t (parts.map fun p=>(p.1,p.2.den ρ ν)).toArray).run P w=.ok (v.den ρ ν) w:=by
 unfold LB at h
 split at h
 ·cases h
 rename_i ti hti
 have hok:=hT.ty hti
 obtain ⟨d,hd,hc,_⟩:=hok.und
 obtain ⟨i,z,hi,hs,hz,hzc,hza,_⟩:=hok.info
 have hz2:=oL (ρ:=ρ) (ν:=ν) hzc
 have hz3:z.cells=(ti.zero.map (·.den ρ ν)).toArray:=by rw [←hz2]
 split at h
 ·rename_i fs hfs
  rw [hfs] at hc
  cases d <;> simp [fJ] at hc
  rename_i gs
  split at h
  ·rename_i hall
   rw [hc] at hall
   obtain ⟨places,hp,hq⟩:=Jr hT hall
   split at h
   ·rename_i cs ym
    simp only [PR.ok.injEq] at h
    obtain ⟨rfl,_⟩:=h
    refine run_build w t _ _ ?_
    simp only [Program.built,hi,hd,hz,hp]
    rw [hz3]
    refine yj (place:=placeOf T fs) (fun k p hk=>?_) ym
    rw [hc] at hk
    simpa using hq k p hk
   ·cases h
  ·cases h
 ·rename_i n e hfs
  rw [hfs] at hc
  cases d <;> simp [fJ] at hc
  obtain ⟨rfl,rfl⟩:=hc
  split at h
  ·rename_i te hte
   obtain ⟨ie,ze,hie,hse,_⟩:=(hT.ty hte).info
   split at h
   ·rename_i cs ym
    simp only [PR.ok.injEq] at h
    obtain ⟨rfl,_⟩:=h
    refine run_build w t _ _ ?_
    simp only [Program.built,hi,hd,hz,hie]
    rw [hz3,hse]
    exact yj (place:=fun i=>some (i * te.size,te.size)) (fun k p hk=>hk) ym
   ·cases h
  ·cases h
 ·cases h
end Go.Rex
