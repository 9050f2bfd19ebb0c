/- part 1 of the proof -/
import Derived.IntWalk
import Derived.Test.YthomdlajobnmnaaGreatDoorX0
set_option linter.unusedSimpArgs false
set_option linter.unusedVariables false
namespace Go.Rex
theorem Zw {k:IntKind} {n:Int} (a:k.min<=n) (b:n<=k.max):k.wrap n=n:=by
 cases k
 ·exact IntWalk.i8_in n ⟨a,b⟩
 ·exact IntWalk.i16_in n ⟨a,b⟩
 ·exact IntWalk.i32_in n ⟨a,b⟩
 ·exact IntWalk.i64_in n ⟨a,b⟩
 ·exact IntWalk.u8_in n ⟨a,b⟩
 ·exact IntWalk.u16_in n ⟨a,b⟩
 ·exact IntWalk.u32_in n ⟨a,b⟩
 ·exact IntWalk.u64_in n ⟨a,b⟩
def IE.rF (a b:IE):IE :=
 match a.dM,b.dM with
 | some x,some y=>.lit (x-y)
 | none,some y=>if y == 0 then a else .sub a b
 | _,_=>.sub a b
theorem IE.Ak (ρ:Env) (a b:IE):(a.rF b).den ρ=a.den ρ-b.den ρ:=by
 unfold IE.rF
 split
 ·rename_i c d;simp [IE.df c,IE.df d,IE.den]
 ·rename_i y _ c;split
  ·rename_i h;simp at h;simp [IE.df c,h]
  ·simp [IE.den]
 ·simp [IE.den]
def qJ (wr:Bool) (k:IntKind) (e:IE):IE × List BE :=
 match e.dM with
 | some n=>(.lit (k.wrap n),[])
 | none=>match k with
  | .i64=>if wr then (.wrap .i64 e,[]) else (e,[.inr .i64 e])
  | _=>(.wrap k e,[])
theorem sO {wr:Bool} {ρ:Env} {k:IntKind} {e:IE} (h:∀o∈(qJ wr k e).2,o.den ρ=true):(qJ wr k e).1.den ρ=k.wrap (e.den ρ):=by
 unfold qJ at *
 split
 ·rename_i n a;simp [IE.den,IE.df a]
 ·rename_i a
  rw [a] at h
  split
  ·cases wr with
   | true=>rfl
   | false =>
    simp [BE.den] at h
    exact (Zw h.1 h.2).symm
  ·rfl
def Iy (wr:Bool) (op:BinOp) (k:IntKind) (a b:IE):Option (IE × List BE) :=
 match op with
 | .add=>some (qJ wr k (a.jL b))
 | .sub=>some (qJ wr k (a.rF b))
 | .mul=>some (qJ wr k (.mul a b))
 | .quo =>
  let (e,o):=qJ wr k (.div a b)
  match b.dM with
  | some n=>if n == 0 then none else some (e,o)
  | none=>some (e,.not (.ag b (.lit 0)) :: o)
 | .rem =>
  match b.dM with
  | some n=>if n == 0 then none else some (match a.dM with | some m=>.lit (m.tmod n) | none=>.mod a b,[])
  | none=>some (.mod a b,[.not (.ag b (.lit 0))])
 | _=>none
def BE.Ui (a b:IE):BE:=match a.dM,b.dM with
 | some x,some y=>.lit (Decidable.decide (x<y))
 | _,_=>.aY a b
def BE.Uj (a b:IE):BE:=match a.dM,b.dM with
 | some x,some y=>.lit (Decidable.decide (x<=y))
 | _,_=>.ah a b
theorem BE.Oi (ρ:Env) (a b:IE):(BE.Ui a b).den ρ=Decidable.decide (a.den ρ<b.den ρ):=by
 unfold BE.Ui
 split
 ·rename_i d c;simp [BE.den,IE.df d,IE.df c]
 ·rfl
theorem BE.Oj (ρ:Env) (a b:IE):(BE.Uj a b).den ρ=Decidable.decide (a.den ρ<=b.den ρ):=by
 unfold BE.Uj
 split
 ·rename_i d c;simp [BE.den,IE.df d,IE.df c]
 ·rfl
def Uk (op:BinOp) (a b:IE):Option BE :=
 match op with
 | .eql=>some (.uF a b)
 | .neq=>some (BE.uF a b).oI
 | .lss=>some (.Ui a b)
 | .leq=>some (.Uj a b)
 | .gtr=>some (.Ui b a)
 | .geq=>some (.Uj b a)
 | _=>none
def EM:SW->Bool
 | .one .dW=>true
 | .one (.jH _ _)=>true
 | _=>false
def zi:SW->Bool
 | .agg _=>true
 | _=>false
def Ko (T:bf) (neg:Bool) (t:TypeId) (c:Bool) (x y:SW):PR :=
 if EM x && EM y && !c then .no
 else if zi x && zi y && !((T.ty t).map (·.eqs)).getD false then .no
 else match FD T 40 t x y with
  | some b=>PR.one (.bool (if neg then b.oI else b))
  | none=>.no
def isStr:SW->Option (List UInt8)
 | .one (.str l)=>some l
 | _=>none
def Zx (T:bf) (op:BinOp) (t:TypeId) (c:Bool) (x y:SW):PR :=
 match x,y with
 | .one (.int k a),.one (.int l b) =>
  if lX k l then
   match op with
   | .add | .sub | .mul | .quo | .rem=>match Iy T.wr op k a b with | some (e,o)=>PR.one (.int k e) o | none=>.no
   | .eql | .neq | .lss | .leq | .gtr | .geq=>match Uk op a b with | some b=>PR.one (.bool b) | none=>.no
   | _=>.no
  else .no
 | x,y =>
  match isStr x,isStr y with
  | some l,some m=>match op with
   | .eql=>PR.one (.bool (.lit (l == m)))
   | .neq=>PR.one (.bool (.lit (!(l == m))))
   | _=>.no
  | _,_=>match op with
   | .eql=>Ko T false t c x y
   | .neq=>Ko T true t c x y
   | _=>.no
theorem uG {P:Program} {op:BinOp} {t:TypeId} {X Y:Operand} {a b:Value} {w:World}
  (d:a=.nilIface->b=.nilIface->False) (c:nU a=true->nU b=true->False):(eqGuard op t X Y a b).run P w=.ok () w:=by
 unfold eqGuard
 cases op <;> simp only [Bool.not_true,Bool.not_false,Bool.false_eq_true,if_false,if_true] <;> try rfl
 all_goals
  split
  ·exact (d rfl rfl).elim
  ·exact (c rfl rfl).elim
  ·rfl
def CP:Operand->Bool
 | .const _=>true
 | _=>false
theorem Rw {P:Program} {op:BinOp} {t:TypeId} {X Y:Operand} {w:World} (h:(CP X || CP Y)=true) :
  (eqGuard op t X Y .nilIface .nilIface).run P w=.ok () w:=by
 unfold eqGuard
 cases X <;> cases Y <;> first | (cases op <;> rfl) | (simp [CP] at h)
theorem Am {ρ:Env} {ν:Nat->Addr} (c:SC):nU (c.den ρ ν)=true->False:=by
 by_cases a:c.isHole=true
 ·induction c with
  | jH k x b =>
   simp only [SC.den]
   split
   ·simp [nU]
   ·exact b (by simpa [SC.isHole] using a)
  | hole=>simp [SC.den,undef,nU]
  | _=>simp [SC.isHole] at a
 ·have:=SC.vJ (ρ:=ρ) (ν:=ν) c (by simpa using a)
  intro h
  unfold nU at h
  split at h
  ·rename_i e;rw [e] at this;simp [Value.oneCell'] at this
  ·cases h
theorem LW {ρ:Env} {ν:Nat->Addr} {x:SW} (h:x.den ρ ν=.nilIface):EM x=true\/(∃i,x=.one (.val i))\/(∃r a b j,x=.one (.kV r a b j)):=by
 cases x with
 | agg d=>simp [SW.den] at h
 | one c =>
  cases c <;> simp [SW.den,SC.den,EM,undef] at h ⊢
  split at h <;> cases h
theorem LX {T:bf} {n:Nat} {t:TypeId} {x y:SW} {c:BE} (h:FD T n t x y=some c) :
  (∀i,x≠.one (.val i))/\(∀r a b j,x≠.one (.kV r a b j))/\(∀i,y≠.one (.val i))/\(∀r a b j,y≠.one (.kV r a b j))/\(∀k z,x=.one (.jH k z)->∃t d,z=.iface t d)/\(∀k z,y=.one (.jH k z)->∃t d,z=.iface t d):=by
 cases n with
 | zero=>simp [FD] at h
 | succ n =>
  unfold FD at h
  split at h
  ·cases h
  ·split at h
   all_goals first
    | (simp;done)
    | cases h
    | (refine ⟨by simp,by simp,by simp,by simp,λk z e=>?_,λk z e=>?_⟩
       · first | (simp at e;done) | (simp at e;exact ⟨_,_,e.2.symm⟩)
       · first | (simp at e;done) | (simp at e;exact ⟨_,_,e.2.symm⟩))
theorem ad3 {P:Program} {T:bf} (n:dI P T) {neg:Bool} {t:TypeId} {X Y:Operand} {x y:SW} {v:SV} {gN:List BE} {ρ:Env} {ν:Nat->Addr} {w:World}
  (h:Ko T neg t (CP X || CP Y) x y=.ok v gN)
  (u:(binOp (if neg then .neq else .eql) t (x.den ρ ν) (y.den ρ ν)).run P w=((Op.equal t (x.den ρ ν) (y.den ρ ν)).run P w).andThen λb w'=>.ok (.bool (if neg then !b else b)) w') :
  (do eqGuard (if neg then .neq else .eql) t X Y (x.den ρ ν) (y.den ρ ν);binOp (if neg then .neq else .eql) t (x.den ρ ν) (y.den ρ ν):Sem Value).run P w=.ok (v.den ρ ν) w:=by
 unfold Ko at h
 split at h
 ·cases h
 rename_i o
 split at h
 ·cases h
 rename_i g2
 split at h
 case h_2=>cases h
 rename_i b l
 simp only [PR.one,PR.ok.injEq] at h
 obtain ⟨h,_⟩:=h
 subst h
 obtain ⟨C,E,z,A,F,G⟩:=LX l
 have heq:=(afE n (ρ:=ρ) (ν:=ν) (w:=w) 40).1 _ _ _ _ l Op.maxDepth (by simp [Op.maxDepth])
 have m:(eqGuard (if neg then .neq else .eql) t X Y (x.den ρ ν) (y.den ρ ν)).run P w=.ok () w:=by
  by_cases p:x.den ρ ν=.nilIface/\y.den ρ ν=.nilIface
  ·obtain ⟨k,g⟩:=p
   have B:=(LW k).resolve_right (by rintro (⟨i,e⟩ | ⟨r,a,b,j,e⟩);exact C _ e;exact E _ _ _ _ e)
   have s:=(LW g).resolve_right (by rintro (⟨i,e⟩ | ⟨r,a,b,j,e⟩);exact z _ e;exact A _ _ _ _ e)
   rw [k,g]
   refine Rw ?_
   simp only [B,s,Bool.and_self,Bool.true_and,Bool.not_eq_true',Bool.not_eq_false] at o
   exact o
  ·by_cases q:zi x=true/\zi y=true
   ·obtain ⟨a1,a2⟩:=q
    simp only [a1,a2,Bool.and_self,Bool.true_and,Bool.not_eq_true',Bool.not_eq_false] at g2
    cases f:T.ty t with
    | none=>simp [f] at g2
    | some I =>
     simp [f] at g2
     obtain ⟨d,hd,K,D⟩:=(n.ty f).und
     cases x with
     | one c=>simp [zi] at a1
     | agg H =>
      cases y with
      | one c=>simp [zi] at a2
      | agg J=>exact run_eqGuard_agg w _ t X Y _ _ (D g2).2.1
   ·refine uG (λk g=>p ⟨k,g⟩) (λk g=>q ⟨?_,?_⟩)
    ·cases x with
     | one c=>exact (Am c k).elim
     | agg _=>rfl
    ·cases y with
     | one c=>exact (Am c g).elim
     | agg _=>rfl
 simp only [Sem.run_bind,m,Result.andThen_ok]
 rw [u]
 unfold Op.equal
 rw [heq]
 simp only [Result.andThen_ok,SV.den,SW.den,SC.den]
 cases neg <;> simp [BE.jW]
theorem Wz {wr:Bool} {op:BinOp} {k:IntKind} {a b:IE} {e:IE} {gN:List BE} {ρ:Env} {P:Program} {t:TypeId} {w:World}
  (h:Iy wr op k a b=some (e,gN)) (i:∀o∈gN,o.den ρ=true) :
  (binOp op t (.int k (a.den ρ)) (.int k (b.den ρ))).run P w=.ok (.int k (e.den ρ)) w:=by
 unfold Iy at h
 split at h
 ·simp only [Option.some.injEq] at h
  have d:(qJ wr k (a.jL b)).1=e:=by rw [h]
  have c:(qJ wr k (a.jL b)).2=gN:=by rw [h]
  have:=sO (wr:=wr) (ρ:=ρ) (k:=k) (e:=a.jL b) (by rw [c];exact i)
  rw [d,IE.nG] at this
  simp [binOp,Op.intArith,this]
 ·simp only [Option.some.injEq] at h
  have d:(qJ wr k (a.rF b)).1=e:=by rw [h]
  have c:(qJ wr k (a.rF b)).2=gN:=by rw [h]
  have:=sO (wr:=wr) (ρ:=ρ) (k:=k) (e:=a.rF b) (by rw [c];exact i)
  rw [d,IE.Ak] at this
  simp [binOp,Op.intArith,this]
 ·simp only [Option.some.injEq] at h
  have d:(qJ wr k (.mul a b)).1=e:=by rw [h]
  have c:(qJ wr k (.mul a b)).2=gN:=by rw [h]
  have:=sO (wr:=wr) (ρ:=ρ) (k:=k) (e:=.mul a b) (by rw [c];exact i)
  rw [d] at this
  simp [binOp,Op.intArith,this,IE.den]
 ·simp only at h
  split at h
  ·rename_i n j
   split at h
   ·cases h
   ·rename_i f
    simp only [Option.some.injEq,Prod.mk.injEq] at h
    obtain ⟨d,c⟩:=h
    have:=sO (wr:=wr) (ρ:=ρ) (k:=k) (e:=.div a b) (by rw [c];exact i)
    rw [d] at this
    have g:b.den ρ≠0:=by rw [IE.df j];simpa using f
    simp [binOp,Op.intDiv,this,IE.den,g]
  ·simp only [Option.some.injEq,Prod.mk.injEq] at h
   obtain ⟨d,c⟩:=h
   have g:b.den ρ≠0:=by
    have:=i (.not (.ag b (.lit 0))) (by rw [<-c];simp)
    simpa [BE.den,IE.den] using this
   have:=sO (wr:=wr) (ρ:=ρ) (k:=k) (e:=.div a b) (λo l=>i o (by rw [<-c];simp [l]))
   rw [d] at this
   simp [binOp,Op.intDiv,this,IE.den,g]
 ·split at h
  ·rename_i n j
   split at h
   ·cases h
   ·rename_i f
    simp only [Option.some.injEq,Prod.mk.injEq] at h
    obtain ⟨d,c⟩:=h
    have g:b.den ρ≠0:=by rw [IE.df j];simpa using f
    have p:e.den ρ=(a.den ρ).tmod (b.den ρ):=by
     rw [<-d]
     split
     ·rename_i m l;simp [IE.den,IE.df l,IE.df j]
     ·simp [IE.den]
    simp [binOp,Op.intDiv,p,g]
  ·simp only [Option.some.injEq,Prod.mk.injEq] at h
   obtain ⟨d,c⟩:=h
   have g:b.den ρ≠0:=by
    have:=i (.not (.ag b (.lit 0))) (by rw [<-c];simp)
    simpa [BE.den,IE.den] using this
   subst d
   simp [binOp,Op.intDiv,IE.den,g]
 ·cases h
theorem ad4 {op:BinOp} {k:IntKind} {a b:IE} {e:BE} {ρ:Env} {P:Program} {t:TypeId} {w:World} (h:Uk op a b=some e) :
  (binOp op t (.int k (a.den ρ)) (.int k (b.den ρ))).run P w=.ok (.bool (e.den ρ)) w:=by
 unfold Uk at h
 split at h <;> simp at h
 all_goals subst h
 ·simp [binOp,Op.intCmp,BE.Ai]
 ·simp [binOp,Op.intCmp,BE.jW,BE.Ai,bne]
 ·simp [binOp,Op.intCmp,BE.Oi]
 ·simp [binOp,Op.intCmp,BE.Oj]
 ·simp [binOp,Op.intCmp,BE.Oi]
 ·simp [binOp,Op.intCmp,BE.Oj]
theorem Ol {x:SW} {l:List UInt8} (h:isStr x=some l):x=.one (.str l):=by
 unfold isStr at h
 split at h
 ·simp at h;rw [h]
 ·cases h
theorem Om {P:Program} {T:bf} (G:dI P T) {neg:Bool} {t:TypeId} {X Y:Operand} {x y:SW} {v:SV} {gN:List BE} {ρ:Env} {ν:Nat->Addr} {w:World}
  (h:Ko T neg t (CP X || CP Y) x y=.ok v gN) (g:rE (.w x)=none\/rE (.w y)=none) (f:isStr x=none\/isStr y=none) :
  (do eqGuard (if neg then .neq else .eql) t X Y (x.den ρ ν) (y.den ρ ν);binOp (if neg then .neq else .eql) t (x.den ρ ν) (y.den ρ ν):Sem Value).run P w=.ok (v.den ρ ν) w:=by
 have n:∃c,FD T 40 t x y=some c:=by
  unfold Ko at h
  split at h
  ·cases h
  split at h
  ·cases h
  split at h
  ·rename_i b D;exact ⟨b,D⟩
  ·cases h
 obtain ⟨c,N⟩:=n
 obtain ⟨L,M,E,F,C,I⟩:=LX N
 refine ad3 G h ?_
 have d:∀a b:Value,(∀k l i j,a=.int k i->b=.int l j->False)->(∀i j,a=.string i->b=.string j->False) ->
   (∀k l i j,a=.float k i->b=.float l j->False)->(∀k l i j z p,a=.complex k i z->b=.complex l j p->False) ->
   (binOp (if neg then .neq else .eql) t a b).run P w=((Op.equal t a b).run P w).andThen λb B=>.ok (.bool (if neg then !b else b)) B:=by
  intro a b q A r s
  cases neg
  ·cases a <;> cases b <;> first | (exact (q _ _ _ _ rfl rfl).elim) | (exact (A _ _ rfl rfl).elim) | (exact (r _ _ _ _ rfl rfl).elim) | (exact (s _ _ _ _ _ _ rfl rfl).elim) | (simp [binOp])
  ·cases a <;> cases b <;> first | (exact (q _ _ _ _ rfl rfl).elim) | (exact (A _ _ rfl rfl).elim) | (exact (r _ _ _ _ rfl rfl).elim) | (exact (s _ _ _ _ _ _ rfl rfl).elim) | (simp [binOp])
 have m:(∀k i,x.den ρ ν=.int k i->(rE (.w x)).isSome=true)/\(∀i,x.den ρ ν=.string i->(isStr x).isSome=true)/\(∀k i,x.den ρ ν≠.float k i)/\(∀k i j,x.den ρ ν≠.complex k i j):=by
  cases x with
  | agg H=>simp [SW.den]
  | one c=>cases c <;> first | exact (M _ _ _ _ rfl).elim | exact (L _ rfl).elim | (obtain ⟨J,K,rfl⟩:=C _ _ rfl;simp only [SW.den,SC.den];split <;> simp;done) | (simp [SW.den,SC.den,rE,isStr,undef];done) | (simp only [SW.den,SC.den];split <;> simp)
 have u:(∀k i,y.den ρ ν=.int k i->(rE (.w y)).isSome=true)/\(∀i,y.den ρ ν=.string i->(isStr y).isSome=true):=by
  cases y with
  | agg H=>simp [SW.den]
  | one c=>cases c <;> first | exact (F _ _ _ _ rfl).elim | exact (E _ rfl).elim | (obtain ⟨J,K,rfl⟩:=I _ _ rfl;simp only [SW.den,SC.den];split <;> simp;done) | (simp [SW.den,SC.den,rE,isStr,undef];done) | (simp only [SW.den,SC.den];split <;> simp)
 refine d _ _ (λk l i j e o=>?_) (λi j e o=>?_) (λk l i j e _=>m.2.2.1 _ _ e) (λk l i j z p e _=>m.2.2.2 _ _ _ e)
 ·rcases g with g | g
  ·have:=m.1 _ _ e;rw [g] at this;cases this
  ·have:=u.1 _ _ o;rw [g] at this;cases this
 ·rcases f with f | f
  ·have:=m.2.1 _ e;rw [f] at this;cases this
  ·have:=u.2 _ o;rw [f] at this;cases this
theorem ad5 {P:Program} {T:bf} (B:dI P T) {op:BinOp} {t:TypeId} {X Y:Operand} {x y:SW} {v:SV} {gN:List BE} {ρ:Env} {ν:Nat->Addr} {w:World}
  (h:Zx T op t (CP X || CP Y) x y=.ok v gN) (G:∀o∈gN,o.den ρ=true) :
  (do eqGuard op t X Y (x.den ρ ν) (y.den ρ ν);binOp op t (x.den ρ ν) (y.den ρ ν):Sem Value).run P w=.ok (v.den ρ ν) w:=by
 unfold Zx at h
 split at h
 ·rename_i k a l b
  split at h
  ·rename_i g
   have s:=jK g
   subst s
   have r:(eqGuard op t X Y ((SW.one (.int k a)).den ρ ν) ((SW.one (.int k b)).den ρ ν)).run P w=.ok () w :=
    uG (by simp [SW.den,SC.den]) (by simp [SW.den,SC.den,nU])
   simp only [Sem.run_bind,r,Result.andThen_ok]
   have E:∀q,(match Iy T.wr op k a b with | some (e,o)=>PR.one (.int k e) o | none=>.no)=PR.ok v gN->q=op->(binOp q t ((SW.one (.int k a)).den ρ ν) ((SW.one (.int k b)).den ρ ν)).run P w=.ok (v.den ρ ν) w:=by
    intro q c e
    subst e
    split at c
    ·rename_i e o z
     simp only [PR.one,PR.ok.injEq] at c
     obtain ⟨rfl,rfl⟩:=c
     exact Wz z G
    ·cases c
   have F:∀q,(match Uk op a b with | some b=>PR.one (.bool b) | none=>.no)=PR.ok v gN->q=op->(binOp q t ((SW.one (.int k a)).den ρ ν) ((SW.one (.int k b)).den ρ ν)).run P w=.ok (v.den ρ ν) w:=by
    intro q c e
    subst e
    split at c
    ·rename_i e z
     simp only [PR.one,PR.ok.injEq] at c
     obtain ⟨rfl,rfl⟩:=c
     exact ad4 z
    ·cases c
   split at h
   all_goals first
    | exact E _ h rfl
    | exact F _ h rfl
    | cases h
  ·cases h
 ·rename_i j
  split at h
  ·rename_i l m i H
   have u:=Ol i
   have n:=Ol H
   subst u n
   have r:(eqGuard op t X Y ((SW.one (.str l)).den ρ ν) ((SW.one (.str m)).den ρ ν)).run P w=.ok () w :=
    uG (by simp [SW.den,SC.den]) (by simp [SW.den,SC.den,nU])
   simp only [Sem.run_bind,r,Result.andThen_ok]
   split at h
   ·simp only [PR.one,PR.ok.injEq] at h
    obtain ⟨rfl,rfl⟩:=h
    simp [SW.den,SV.den,SC.den,BE.den,binOp,Op.stringOp,ByteArray.toList_eq]
   ·simp only [PR.one,PR.ok.injEq] at h
    obtain ⟨rfl,rfl⟩:=h
    simp [SW.den,SV.den,SC.den,BE.den,binOp,Op.stringOp,ByteArray.toList_eq]
   ·cases h
  ·rename_i A
   have C:isStr x=none\/isStr y=none:=by
    cases f:isStr x with
    | none=>exact .inl rfl
    | some l =>
     cases d:isStr y with
     | none=>exact .inr rfl
     | some m=>exact (A l m f d).elim
   have D:rE (.w x)=none\/rE (.w y)=none:=by
    cases f:rE (.w x) with
    | none=>exact .inl rfl
    | some p =>
     cases d:rE (.w y) with
     | none=>exact .inr rfl
     | some q =>
      unfold rE at f d
      split at f
      ·rename_i k a g
       split at d
       ·rename_i l b i
        simp only [SV.w.injEq] at g i
        exact (j k a l b g i).elim
       ·cases d
      ·cases f
   split at h
   ·exact Om (neg:=false) B h D C
   ·exact Om (neg:=true) B h D C
   ·cases h
def Kq (a:SA) (e:IE) (b:Nat):Option (SA × List BE) :=
 if a.s1 == b && decide (0<b) then some ({a with i1:=a.i1.jL e},[.ah (.lit 0) a.i1])
 else match e.dM with
  | some n=>some ({a with j:=a.j+n.toNat * b},[])
  | none =>
   if a.s1 == 0 then some ({a with i1:=e,s1:=b},[])
   else if a.s2 == 0 then some ({a with i2:=e,s2:=b},[])
   else none
theorem EN {ρ:Env} {a b:SA} {e:IE} {d:Nat} {gN:List BE} (h:Kq a e d=some (b,gN)) (i:∀o∈gN,o.den ρ=true) (j:0<=e.den ρ) :
  b.ak=a.ak/\b.off ρ=a.off ρ+(e.den ρ).toNat * d:=by
 unfold Kq at h
 split at h
 ·rename_i g
  simp only [Bool.and_eq_true,beq_iff_eq,decide_eq_true_eq] at g
  simp only [Option.some.injEq,Prod.mk.injEq] at h
  obtain ⟨rfl,rfl⟩:=h
  have f:=of_decide_eq_true (i _ (List.mem_singleton.2 rfl))
  simp only [IE.den] at f
  refine ⟨rfl,?_⟩
  simp only [SA.off,IE.nG,g.1]
  rw [Int.toNat_add f j,Nat.add_mul]
  omega
 ·split at h
  ·rename_i n k
   simp only [Option.some.injEq,Prod.mk.injEq] at h
   obtain ⟨rfl,rfl⟩:=h
   refine ⟨rfl,?_⟩
   simp only [SA.off,IE.df k]
   omega
  ·split at h
   ·rename_i c
    simp only [beq_iff_eq] at c
    simp only [Option.some.injEq,Prod.mk.injEq] at h
    obtain ⟨rfl,rfl⟩:=h
    refine ⟨rfl,?_⟩
    simp only [SA.off,c]
    omega
   ·split at h
    ·rename_i c
     simp only [beq_iff_eq] at c
     simp only [Option.some.injEq,Prod.mk.injEq] at h
     obtain ⟨rfl,rfl⟩:=h
     refine ⟨rfl,?_⟩
     simp only [SA.off,c]
     omega
    ·cases h
def vK (kn:Kn) (sb:SB) (a:SA):Nat->Nat->Rd (List SC × List BE)
 | 0,_=>.ok ([],[])
 | n+1,k =>
  match sb.loc a k with
  | none=>.no
  | some l =>
   match sb.read kn l with
   | .no=>.no
   | .br c=>.br c
   | .ok c =>
    match vK kn sb a n (k+1) with
    | .no=>.no
    | .br d=>.br d
    | .ok (e,b)=>.ok (c :: e,l.gN ++ b)
theorem Ao {ρ:Env} {ν:Nat->Addr} {kn:Kn} (p:Kn.ok ρ kn) {sb:SB} {a:SA} {arr:Array Value} (m:sb.has ρ ν arr) :
  ∀{n k:Nat} {cs:List SC} {os:List BE},vK kn sb a n k=.ok (cs,os)->(∀o∈os,o.den ρ=true) ->
   cs.length=n/\∀j c,cs[j]?=some c->arr[a.off ρ+k+j]?=some (c.den ρ ν)
 | 0,k,cs,os,h,_=>by
  simp only [vK,Rd.ok.injEq,Prod.mk.injEq] at h
  obtain ⟨rfl,rfl⟩:=h
  exact ⟨rfl,λj c g=>by simp at g⟩
 | n+1,k,cs,os,h,q=>by
  unfold vK at h
  split at h
  ·cases h
  ·rename_i l s
   split at h
   ·cases h
   ·cases h
   ·rename_i c x
    split at h
    ·cases h
    ·cases h
    ·rename_i t r u
     simp only [Rd.ok.injEq,Prod.mk.injEq] at h
     obtain ⟨rfl,rfl⟩:=h
     obtain ⟨w,f⟩:=SB.Wv (ρ:=ρ) s
     have b:=SB.ad2 p m w (λo i=>q o (by simp [i])) x
     obtain ⟨hlen,e⟩:=Ao p m u (λo i=>q o (by simp [i]))
     refine ⟨by simp [hlen],λj d g=>?_⟩
     cases j with
     | zero=>simp at g;subst g;rw [<-f];exact b
     | succ j =>
      have:=e j d (by simpa using g)
      rw [<-this]
      congr 1
      omega
def Iz (T:bf) (kn:Kn) (f:List SB) (t:TypeId) (a:SA):PR :=
 match T.ty t,f[a.ak]? with
 | some b,some sb =>
  if sb.gone || sb.lY then .no else
  match vK kn sb a b.size 0 with
  | .no=>.no
  | .br c=>.br c
  | .ok (e,d)=>if b.d.isAgg then .ok (.w (.agg e)) (sb.Gl ++ d) else match e with | [c]=>.ok (.w (.one c)) (sb.Gl ++ d) | _=>.no
 | _,_=>.no
theorem LY {P:Program} {T:bf} (D:dI P T) {ρ:Env} {ν:Nat->Addr} {kn:Kn} (C:Kn.ok ρ kn) {y:List SB} {w:World} (F:aD ρ ν y w)
  {t:TypeId} {a:SA} {v:SV} {os:List BE} (h:Iz T kn y t a=.ok v os) (z:∀o∈os,o.den ρ=true) :
  (loadVar t (a.den ρ ν)).run P w=.ok (v.den ρ ν) w:=by
 unfold Iz at h
 split at h
 ·rename_i G sb u s
  split at h
  ·cases h
  rename_i p
  have l:=D.ty u
  split at h
  ·cases h
  ·cases h
  ·rename_i r q E
   have b:∀(d:List BE),d=sb.Gl ++ q->(∀o∈d,o.den ρ=true)->r.length=G.size/\∀j c,r[j]?=some c->w.cell? ((a.den ρ ν).add j)=some (c.den ρ ν):=by
    intro d e k
    subst e
    obtain ⟨arr,B,i⟩:=F.cells s (SB.Kk (by simp at p;exact p.1) λo x=>k o (List.mem_append_left _ x)) (λ_=>by simp at p;exact p.2)
    obtain ⟨n,g⟩:=Ao C B E λo x=>k o (List.mem_append_right _ x)
    refine ⟨n,λj c m=>?_⟩
    have:=g j c m
    unfold SA.den
    rw [Addr.add_add]
    exact i _ _ (by simpa using this)
   unfold loadVar
   simp only [Sem.run_bind,l.isAgg,Result.andThen_ok]
   split at h
   ·rename_i f
    simp only [PR.ok.injEq] at h
    obtain ⟨rfl,rfl⟩:=h
    obtain ⟨n,g⟩:=b _ rfl z
    simp only [f,if_true,Sem.run_bind,l.size,Result.andThen_ok]
    have:=run_loadCells_list (P:=P) (w:=w) (a.den ρ ν) (r.map (·.den ρ ν)) (λj v m=>by
      rw [List.getElem?_map] at m
      simp only [Option.map_eq_some_iff] at m
      obtain ⟨c,H,rfl⟩:=m
      exact g j c H)
    rw [List.length_map,n] at this
    simp [this,SV.den,SW.den]
   ·rename_i f
    split at h
    ·rename_i c
     simp only [PR.ok.injEq] at h
     obtain ⟨rfl,rfl⟩:=h
     obtain ⟨n,g⟩:=b _ rfl z
     have:=g 0 c rfl
     have A:(a.den ρ ν).add 0=a.den ρ ν:=by simp [Addr.add]
     rw [A] at this
     simp [f,this,SV.den,SW.den]
    ·cases h
 ·cases h
def Gn:SV->Option Nat
 | .w (.one (.ptr a))=>match a.dM with | some 0=>some a.ak | _=>none
 | _=>none
def qU:List (Option SV)->Option (List Nat)
 | []=>some []
 | some v :: r=>match Gn v,qU r with | some b,some a=>some (b :: a) | _,_=>none
 | none :: _=>none
def dP (c:BE) (len:IE):BE:=.or c.oI (.ag len (.lit 0))
theorem Ap {ρ:Env} {c:BE} {len:IE} (h:(dP c len).den ρ=true):c.den ρ=true->len.den ρ=0:=by
 intro a
 simp only [dP,BE.den,BE.jW,a,IE.den] at h
 simpa using h
def putAt:List SC->Nat->List SC->List SC
 | a,_,[]=>a
 | a,p,c :: r=>putAt (a.set p c) (p+1) r
def Ul (T:bf) (src dst:TypeId) (x:SW):PR :=
 match T.ty src,T.ty dst,x with
 | some b,some a,.one (.int _ e) =>
  match b.d,a.d with
  | .int _,.int k=>match qJ T.wr k e with | (d,c)=>PR.one (.int k d) c
  | _,_=>.no
 | some _,some a,.one (.str l)=>match a.d with | .str=>PR.one (.str l) | _=>.no
 | _,_,_=>.no
def Zz (T:bf) (t:TypeId) (x:SW):PR :=
 match T.ty t with
 | none=>.no
 | some a =>
  match a.d,x with
  | .sl _,.one (.sl _ len _)=>PR.one (.int .i64 len) [.ah (.lit 0) len]
  | .sl _,.one .dA=>PR.one (.int .i64 (.lit 0))
  | .sl _,.one (.eu c _ len _)=>PR.one (.int .i64 len) [dP c len,.ah (.lit 0) len]
  | .str,.one (.str l)=>PR.one (.int .i64 (.lit l.length))
  | .arr n _,_=>PR.one (.int .i64 (.lit n))
  | _,_=>.no
def Aq (T:bf) (s:TypeId) (x:SW) (f:Nat):PR :=
 match T.ty s,x with
 | some b,.one (.ptr a) =>
  match b.d with
  | .struct d=>match d[f]? with
   | some (off,c)=>match T.ty c with
    | some e=>if e.size == 0 then .no else PR.one (.ptr {a with j:=a.j+off})
    | none=>.no
   | none=>.no
  | _=>.no
 | _,_=>.no
def Oo (T:bf) (s:TypeId) (x:SW) (f:Nat):PR :=
 match T.ty s,x with
 | some a,.agg c =>
  match a.d with
  | .struct d=>match d[f]? with
   | some (off,b)=>match xA T b c off with | some y=>.ok (.w y) [] | none=>.no
   | none=>.no
  | _=>.no
 | _,_=>.no
def Oq (T:bf) (t:TypeId) (x i:SW):PR :=
 match T.ty t,x,i with
 | some b,.agg d,.one (.int _ (.lit n)) =>
  match b.d with
  | .arr len a=>if decide (0<=n/\n<(len:Int)) then
    match T.ty a with
    | some c=>match xA T a d (n.toNat * c.size) with | some y=>.ok (.w y) [] | none=>.no
    | none=>.no
   else .no
  | _=>.no
 | _,_,_=>.no
def Ar (T:bf) (t:TypeId) (x i:SW):PR :=
 match T.ty t,i with
 | some h,.one (.int _ e) =>
  match h.d,x with
  | .sl g,.one (.sl a len _) =>
   match T.ty g with
   | some d=>match Kq a e d.size with
    | some (b,f)=>PR.one (.ptr b) (.ah (.lit 0) e :: .aY e len :: f)
    | none=>.no
   | none=>.no
  | .sl g,.one (.eu c a len _) =>
   match T.ty g with
   | some d=>match Kq a e d.size with
    | some (b,f)=>PR.one (.ptr b) (c.oI :: .ah (.lit 0) e :: .aY e len :: f)
    | none=>.no
   | none=>.no
  | .arr n g,.one (.ptr a) =>
   match T.ty g with
   | some d=>match Kq a e d.size with
    | some (b,f)=>PR.one (.ptr b) (.ah (.lit 0) e :: .aY e (.lit n) :: f)
    | none=>.no
   | none=>.no
  | _,_=>.no
 | _,_=>.no
def IA (T:bf) (kn:Kn) (t:TypeId) (x:SW) (lo i:Option SW):PR :=
 match T.ty t,x with
 | some k,.one (.sl a len cap) =>
  match k.d with
  | .sl f =>
   match T.ty f with
   | some g =>
    let h?:Option IE:=match i with | none=>some len | some (.one (.int _ e))=>some e | _=>none
    let j:Option IE:=match lo with | none=>some (.lit 0) | some (.one (.int _ e))=>some e | _=>none
    match h?,j with
    | some h,some l =>
     let d:List BE:=[.ah (.lit 0) l,.ah l h,.ah h cap,.ah (.lit 0) len]
     if (match lo with | none=>true | _=>false) then
      PR.one (.sl a h cap) d
     else
      match (BE.ag l cap).decide kn with
      | some true=>PR.one (.sl a (h.rF l) (cap.rF l)) d
      | some false=>match Kq a l g.size with
       | some (b,c)=>PR.one (.sl b (h.rF l) (cap.rF l)) (d ++ c)
       | none=>.no
      | none=>.br (.ag l cap)
    | _,_=>.no
   | none=>.no
  | _=>.no
 | _,_=>.no
def ui (place:Nat->Option (Nat × Nat)) (cs:List SC):List (Nat × SW)->Option (List SC)
 | []=>some cs
 | (i,x) :: r =>
  match place i with
  | none=>none
  | some (off,size)=>if x.cells.length == size && decide (off+size<=cs.length) then ui place (putAt cs off x.cells) r else none
theorem CQ:∀(a cs:List SC) (p:Nat),(putAt cs p a).length=cs.length
 | [],_,_=>rfl
 | c :: r,cs,p=>by simp [putAt,CQ r]
theorem SW.xB (ρ:Env) (ν:Nat->Addr) (x:SW):(x.den ρ ν).cells=(x.cells.map (·.den ρ ν)).toArray:=by
 cases x with
 | agg a=>rfl
 | one c =>
  simp only [SW.den,SW.cells,List.map_cons,List.map_nil]
  unfold Value.cells
  split
  ·rename_i a h
   exact (Am (ρ:=ρ) (ν:=ν) c (by rw [h];rfl)).elim
  ·rfl
theorem FE {ρ:Env} {ν:Nat->Addr} (off:Nat):∀(a:List SC) (k:Nat) (cs:List SC),
  ((a.map (·.den ρ ν)).zipIdx k).foldl (λ(acc:Array Value) (p:Value × Nat)=>acc.setIfInBounds (off+p.2) p.1) (cs.map (·.den ρ ν)).toArray =
   ((putAt cs (off+k) a).map (·.den ρ ν)).toArray
 | [],_,_=>rfl
 | c :: r,k,cs=>by
  simp only [List.map_cons,List.zipIdx_cons,List.foldl_cons,putAt]
  have:=FE (ρ:=ρ) (ν:=ν) off r (k+1) (cs.set (off+k) c)
  rw [Nat.add_assoc,<-this]
  congr 1
  simp [List.map_set]
theorem Au {ρ:Env} {ν:Nat->Addr} {place Ot:Nat->Option (Nat × Nat)} (c:∀i p,place i=some p->Ot i=some p) :
  ∀{parts:List (Nat × SW)} {cs a:List SC},ui place cs parts=some a ->
   Instr.fill Ot (cs.map (·.den ρ ν)).toArray (parts.map λp=>(p.1,p.2.den ρ ν))=some (a.map (·.den ρ ν)).toArray
 | [],cs,a,h=>by simp [ui] at h;subst h;rfl
 | (i,x) :: r,cs,a,h=>by
  unfold ui at h
  split at h
  ·cases h
  ·rename_i off size b
   split at h
   ·rename_i d
    simp only [Bool.and_eq_true,beq_iff_eq,decide_eq_true_eq] at d
    have e:=Au (ρ:=ρ) (ν:=ν) c h
    simp only [List.map_cons,Instr.fill,c _ _ b,SW.xB]
    rw [if_neg]
    ·rw [<-e]
     congr 1
     have:=FE (ρ:=ρ) (ν:=ν) off x.cells 0 cs
     rw [Nat.add_zero] at this
     rw [<-this]
     simp
    ·simp [d.1]
     omega
   ·cases h
def Nj (T:bf):List (Nat × TypeId)->Bool
 | []=>true
 | (_,t) :: r=>(T.ty t).isSome && Nj T r
def placeOf (T:bf) (fs:List (Nat × TypeId)) (i:Nat):Option (Nat × Nat) :=
 match fs[i]? with
 | some (off,t)=>(T.ty t).map λa=>(off,a.size)
 | none=>none
def LZ:List (Nat × Option SV)->Option (List (Nat × SW))
 | []=>some []
 | (i,some (.w x)) :: r=>(LZ r).map ((i,x) :: ·)
 | _=>none
def Ou (T:bf) (t:TypeId) (parts:List (Nat × SW)):PR :=
 match T.ty t with
 | none=>.no
 | some a =>
  match a.d with
  | .struct d=>if Nj T d then match ui (placeOf T d) a.zero parts with | some b=>.ok (.w (.agg b)) [] | none=>.no else .no
  | .arr _ e=>match T.ty e with
   | some c=>match ui (λi=>some (i * c.size,c.size)) a.zero parts with | some b=>.ok (.w (.agg b)) [] | none=>.no
   | none=>.no
  | _=>.no
theorem L6 {P:Program} {T:bf} (c:dI P T):∀{fs:List Field},Nj T (fs.map λf=>(f.offset,f.type))=true ->
  ∃places,fs.mapM (λf=>(P.info? f.type).map λi=>(f.offset,i.size))=some places /\
   ∀i p,placeOf T (fs.map λf=>(f.offset,f.type)) i=some p->places[i]?=some p
 | [],_=>⟨[],rfl,λi p h=>by simp [placeOf] at h⟩
 | f :: fs,h=>by
  simp only [List.map_cons,Nj,Bool.and_eq_true] at h
  obtain ⟨places,e,d⟩:=L6 c h.2
  obtain ⟨l,a⟩:=Option.isSome_iff_exists.1 h.1
  obtain ⟨i,z,j,g,_⟩:=(c.ty a).info
  refine ⟨(f.offset,i.size) :: places,by simp [List.mapM_cons,j,e],λk p b=>?_⟩
  cases k with
  | zero =>
   simp [placeOf,a] at b
   simp [<-b,g]
  | succ k =>
   have:=d k p (by simpa [placeOf] using b)
   simpa using this
theorem WB {P:Program} {T:bf} (o:dI P T) {ρ:Env} {ν:Nat->Addr} {w:World} {t:TypeId} {parts:List (Nat × SW)} {v:SV} {os:List BE}
  (h:Ou T t parts=.ok v os):(Instr.build t (parts.map λp=>(p.1,p.2.den ρ ν)).toArray).run P w=.ok (v.den ρ ν) w:=by
 unfold Ou at h
 split at h
 ·cases h
 rename_i H s
 have g:=o.ty s
 obtain ⟨d,hd,c,_⟩:=g.und
 obtain ⟨i,z,B,J,y,u,F,_⟩:=g.info
 have r:=qR (ρ:=ρ) (ν:=ν) u
 have f:z.cells=(H.zero.map (·.den ρ ν)).toArray:=by rw [<-r]
 split at h
 ·rename_i G b
  rw [b] at c
  cases d <;> simp [fI] at c
  rename_i I
  split at h
  ·rename_i a
   rw [c] at a
   obtain ⟨places,E,C⟩:=L6 o a
   split at h
   ·rename_i D l
    simp only [PR.ok.injEq] at h
    obtain ⟨rfl,_⟩:=h
    refine run_build w t _ _ ?_
    simp only [Program.built,B,hd,y,E]
    rw [f]
    refine Au (place:=placeOf T G) (λk p j=>?_) l
    rw [c] at j
    simpa using C k p j
   ·cases h
  ·cases h
 ·rename_i n e b
  rw [b] at c
  cases d <;> simp [fI] at c
  obtain ⟨rfl,rfl⟩:=c
  split at h
  ·rename_i A q
   obtain ⟨ie,K,x,m,_⟩:=(o.ty q).info
   split at h
   ·rename_i D l
    simp only [PR.ok.injEq] at h
    obtain ⟨rfl,_⟩:=h
    refine run_build w t _ _ ?_
    simp only [Program.built,B,hd,y,x]
    rw [f,m]
    exact Au (place:=λi=>some (i * A.size,A.size)) (λk p j=>j) l
   ·cases h
  ·cases h
 ·cases h
def Ay (T:bf) (t:TypeId) (lo b:Option SW):PR :=
 match T.ty t with
 | some a=>match a.d with
  | .sl c=>match T.ty c with
   | some _ =>
    match (match b with | none=>some (IE.lit 0) | some (.one (.int _ e))=>some e | _=>none),(match lo with | none=>some (IE.lit 0) | some (.one (.int _ e))=>some e | _=>none) with
    | some h,some l=>PR.one .dA [.ah (.lit 0) l,.ah l h,.ah h (.lit 0)]
    | _,_=>.no
   | none=>.no
  | _=>.no
 | none=>.no
def wy (T:bf) (kn:Kn) (t:TypeId) (x:SW) (lo d:Option SW):PR :=
 match x with
 | .one .dA=>Ay T t lo d
 | .one (.eu c a len cap)=>match c.decide kn with
  | none=>.br c
  | some true=>Ay T t lo d
  | some false=>match IA T kn t (.one (.sl a len cap)) lo d with
   | .ok (.w (.one (.sl b l m))) e=>.ok (.w (.one (.eu c b l m))) e
   | r=>r
 | x=>IA T kn t x lo d
def zk (T:bf) (g:List (Nat × Nat)) (kn:Kn) (fr:Fr) (w:List SB) (o:Oper):PR :=
 match o.op with
 | .move x | .assign x=>match eQ g kn fr x with | some v=>.ok v [] | none=>.no
 | .pick c a b =>
  match (eQ g kn fr c).bind wu with
  | none=>.no
  | some m =>
   match m.decide kn with
   | some true=>match eQ g kn fr a with | some v=>.ok v [] | none=>.no
   | some false=>match eQ g kn fr b with | some v=>.ok v [] | none=>.no
   | none =>
    match (eQ g ((m,true) :: kn) fr a).bind wu,(eQ g ((m,false) :: kn) fr b).bind wu with
    | some x,some y=>PR.one (.bool (m.Zp x y))
    | _,_=>.br m
 | .load t a=>match eQ g kn fr a with | some (.w (.one (.ptr D)))=>Iz T kn w t D | _=>.no
 | .nilCheck x =>
  match eQ g kn fr x with
  | some (.w (.one (.ptr a)))=>PR.one (.ptr a)
  | some (.w (.one (.fn f c)))=>PR.one (.fn f c)
  | _=>.no
 | .binOp op t x y _=>match eQ g kn fr x,eQ g kn fr y with | some (.w a),some (.w b)=>Zx T op t (CP x || CP y) a b | _,_=>.no
 | .unOp op _ x =>
  match op,eQ g kn fr x with
  | .not,some (.w (.one (.bool b)))=>PR.one (.bool b.oI)
  | .neg,some (.w (.one (.int k e)))=>match qJ T.wr k (IE.rF (.lit 0) e) with | (u,r)=>PR.one (.int k u) r
  | _,_=>.no
 | .convert s d x=>match eQ g kn fr x with | some (.w y)=>Ul T s d y | _=>.no
 | .makeInterface t x =>
  match eQ g kn fr x,T.ty t with
  | some (.w (.one c)),some C=>match C.d with | .Iu | .other=>.no | _=>PR.one (.iface t c)
  | _,_=>.no
 | .makeFunc (.func f) first A =>
  if first.isEmpty then match qU (A.toList.map (eQ g kn fr)) with | some n=>PR.one (.fn f n) | none=>.no else .no
 | .slice t x E B none =>
  match eQ g kn fr x,E.map (eQ g kn fr),B.map (eQ g kn fr) with
  | some (.w y),none,none=>wy T kn t y none none
  | some (.w y),some (some (.w l)),none=>wy T kn t y (some l) none
  | some (.w y),none,some (some (.w h))=>wy T kn t y none (some h)
  | some (.w y),some (some (.w l)),some (some (.w h))=>wy T kn t y (some l) (some h)
  | _,_,_=>.no
 | .fieldAddr s x f=>match eQ g kn fr x with | some (.w y)=>Aq T s y f | _=>.no
 | .field s x f=>match eQ g kn fr x with | some (.w y)=>Oo T s y f | _=>.no
 | .indexAddr t x i=>match eQ g kn fr x,eQ g kn fr i with | some (.w y),some (.w j)=>Ar T t y j | _,_=>.no
 | .extract x i=>match eQ g kn fr x with | some (.iB z)=>(match z[i]? with | some y=>.ok (.w y) [] | none=>.no) | _=>.no
 | .build t parts=>match LZ (parts.toList.map λp=>(p.1,eQ g kn fr p.2)) with | some q=>Ou T t q | none=>.no
 | .call {callee:=.builtin .len,args,argTypes} =>
  match args.toList,argTypes.toList with
  | [x],[t]=>match eQ g kn fr x with | some (.w y)=>Zz T t y | _=>.no
  | _,_=>.no
 | .call {callee:=.builtin .min,args,..} =>
  match args.toList.map (eQ g kn fr) with
  | [some (.w (.one (.int k a))),some (.w (.one (.int _ b)))]=>PR.one (.int k (.sK a b))
  | _=>.no
 | .call {callee:=.builtin .max,args,..} =>
  match args.toList.map (eQ g kn fr) with
  | [some (.w (.one (.int k a))),some (.w (.one (.int _ b)))]=>PR.one (.int k (.imax a b))
  | _=>.no
 | .index t x i=>match eQ g kn fr x,eQ g kn fr i with | some (.w y),some (.w j)=>Oq T t y j | _,_=>.no
 | _=>.no
section
variable {P:Program} {T:bf} {ρ:Env} {ν:Nat->Addr} {w:World}
theorem ZA (a:dI P T) {src dst:TypeId} {x:SW} {v:SV} {os:List BE} (h:Ul T src dst x=.ok v os) (j:∀o∈os,o.den ρ=true) :
  (convert src dst (x.den ρ ν)).run P w=.ok (v.den ρ ν) w:=by
 unfold Ul at h
 split at h
 ·rename_i r g k e f hd
  obtain ⟨d1,c,c1,-⟩:=(a.ty f).und
  obtain ⟨d2,b,c2,-⟩:=(a.ty hd).und
  split at h
  ·rename_i q n p d
   rw [p] at c1;rw [d] at c2
   cases d1 <;> simp [fI] at c1
   cases d2 <;> simp [fI] at c2
   have:=jK c2
   subst this
   simp only [PR.one,PR.ok.injEq] at h
   obtain ⟨rfl,i⟩:=h
   have:=sO (wr:=T.wr) (ρ:=ρ) (k:=n) (e:=e) (by rw [i];exact j)
   simp [convert,run_underlying c,run_underlying b,SW.den,SC.den,SV.den,Conv.intToInt,this]
  ·cases h
 ·rename_i m g l f hd
  obtain ⟨d1,c,c1,-⟩:=(a.ty f).und
  obtain ⟨d2,b,c2,-⟩:=(a.ty hd).und
  split at h
  ·rename_i d
   rw [d] at c2
   cases d2 <;> simp [fI] at c2
   simp only [PR.one,PR.ok.injEq] at h
   obtain ⟨rfl,_⟩:=h
   cases d1 <;> simp [convert,run_underlying c,run_underlying b,SW.den,SC.den,SV.den]
  ·cases h
 ·cases h
theorem ad6 (g:dI P T) {t ty:TypeId} {x:SW} {v:SV} {os:List BE} (h:Zz T t x=.ok v os) (d:∀o∈os,o.den ρ=true) :
  (Builtin.len_ #[t] ty #[x.den ρ ν]).run P w=.ok (v.den ρ ν) w:=by
 unfold Zz at h
 split at h
 ·cases h
 rename_i m j
 obtain ⟨d1,b,c1,-⟩:=(g.ty j).und
 split at h
 all_goals try cases h
 all_goals rename_i k
 all_goals rw [k] at c1
 all_goals cases d1 <;> simp [fI] at c1
 ·have:=d _ (List.mem_singleton.2 rfl)
  simp only [BE.den,IE.den] at this
  have:=of_decide_eq_true this
  simp [Builtin.len_,run_underlying b,SW.den,SC.den,SV.den,goInt]
  omega
 ·simp [Builtin.len_,run_underlying b,SW.den,SC.den,SV.den,goInt,IE.den]
 ·rename_i c a len cap _
  have f:=Ap (d _ (List.mem_cons_self ..))
  have:=d (.ah (.lit 0) len) (by simp)
  simp only [BE.den,IE.den] at this
  have:=of_decide_eq_true this
  cases e:c.den ρ with
  | true=>simp [Builtin.len_,run_underlying b,SW.den,SC.den,SV.den,goInt,e,f e]
  | false =>
   simp [Builtin.len_,run_underlying b,SW.den,SC.den,SV.den,goInt,e]
   omega
 ·rename_i l
  have i:(ByteArray.mk l.toArray).size=l.length:=List.size_toArray
  simp [Builtin.len_,run_underlying b,SW.den,SC.den,SV.den,goInt,IE.den,i]
 ·obtain ⟨rfl,rfl⟩:=c1
  simp [Builtin.len_,run_underlying b,SW.den,SC.den,SV.den,goInt,IE.den]
theorem Nc (i:dI P T) {s:TypeId} {x:SW} {f:Nat} {v:SV} {os:List BE} (h:Aq T s x f=.ok v os) :
  (Instr.fieldAt s (x.den ρ ν) f).run P w=.ok (v.den ρ ν) w:=by
 unfold Aq at h
 split at h
 ·rename_i u a p
  obtain ⟨d1,m,c1,-⟩:=(i.ty p).und
  split at h
  ·rename_i t q
   rw [q] at c1
   cases d1 <;> simp [fI] at c1
   rename_i l
   split at h
   ·rename_i off r g
    split at h
    ·rename_i o d
     split at h
     ·cases h
     ·rename_i e
      simp only [PR.one,PR.ok.injEq] at h
      obtain ⟨rfl,_⟩:=h
      rw [c1,List.getElem?_map] at g
      simp only [Option.map_eq_some_iff] at g
      obtain ⟨j,n,c⟩:=g
      simp only [Prod.mk.injEq] at c
      obtain ⟨rfl,rfl⟩:=c
      have b:o.size≠0:=by simpa using e
      have k:l[f]?=some j:=by simpa using n
      simp [Instr.fieldAt,run_underlying m,k,SW.den,SC.den,SV.den,Instr.sureAddr,fieldPlace,(i.ty d).size,b,ad1]
    ·cases h
   ·cases h
  ·cases h
 ·cases h
theorem WC (c:dI P T) {s:TypeId} {x:SW} {f:Nat} {v:SV} {os:List BE} (h:Oo T s x f=.ok v os) :
  (Instr.field s (x.den ρ ν) f).run P w=.ok (v.den ρ ν) w:=by
 unfold Oo at h
 split at h
 ·rename_i q o l
  obtain ⟨d1,i,c1,-⟩:=(c.ty l).und
  split at h
  ·rename_i p m
   rw [m] at c1
   cases d1 <;> simp [fI] at c1
   rename_i g
   split at h
   ·rename_i off n b
    split at h
    ·rename_i y k
     simp only [PR.ok.injEq] at h
     obtain ⟨rfl,_⟩:=h
     rw [c1,List.getElem?_map] at b
     simp only [Option.map_eq_some_iff] at b
     obtain ⟨d,j,a⟩:=b
     simp only [Prod.mk.injEq] at a
     obtain ⟨rfl,rfl⟩:=a
     have e:g[f]?=some d:=by simpa using j
     have:=sN (w:=w) (ρ:=ρ) (ν:=ν) c k
     simp [Instr.field,run_underlying i,e,SW.den,asAgg,SV.den,this]
    ·cases h
   ·cases h
  ·cases h
 ·cases h
theorem WE (a:dI P T) {t:TypeId} {x i:SW} {v:SV} {os:List BE} (h:Oq T t x i=.ok v os) :
  (Instr.index t (x.den ρ ν) (i.den ρ ν)).run P w=.ok (v.den ρ ν) w:=by
 unfold Oq at h
 split at h
 ·rename_i o j k n f
  obtain ⟨d1,d,c1,-⟩:=(a.ty f).und
  split at h
  ·rename_i len l g
   rw [g] at c1
   cases d1 <;> simp [fI] at c1
   obtain ⟨rfl,rfl⟩:=c1
   split at h
   ·rename_i c
    replace c:=of_decide_eq_true c
    split at h
    ·rename_i m b
     split at h
     ·rename_i y e
      simp only [PR.ok.injEq] at h
      obtain ⟨rfl,_⟩:=h
      have:=sN (w:=w) (ρ:=ρ) (ν:=ν) a e
      simp only [Instr.index,SW.den,SC.den,SV.den,asIntOf,Sem.run_bind,Sem.run_pure,Result.andThen_ok,run_underlying d,IE.den]
      rw [if_pos c]
      simp [(a.ty b).size,this]
      cases y <;> rfl
     ·cases h
    ·cases h
   ·cases h
  ·cases h
 ·cases h
theorem den_add {a b:SA} {n:Nat} (d:b.ak=a.ak) (c:b.off ρ=a.off ρ+n):(a.den ρ ν).add n=b.den ρ ν:=by
 unfold SA.den
 rw [d,c,Addr.add_add]
theorem Nf (s:dI P T) {t:TypeId} {x i:SW} {v:SV} {os:List BE} (h:Ar T t x i=.ok v os) (g:∀o∈os,o.den ρ=true) :
  (Instr.indexAt t (x.den ρ ν) (i.den ρ ν)).run P w=.ok (v.den ρ ν) w:=by
 unfold Ar at h
 split at h
 ·rename_i E k e C
  obtain ⟨d1,y,c1,-⟩:=(s.ty C).und
  split at h
  ·rename_i z a len cap r
   rw [r] at c1
   cases d1 <;> simp [fI] at c1
   subst c1
   split at h
   ·rename_i A d
    split at h
    ·rename_i b m l
     simp only [PR.one,PR.ok.injEq] at h
     obtain ⟨rfl,rfl⟩:=h
     have f:=of_decide_eq_true (g (.ah (.lit 0) e) (by simp))
     have u:=of_decide_eq_true (g (.aY e len) (by simp))
     simp only [IE.den] at f
     obtain ⟨p,g2⟩:=EN l (λo q=>g o (by simp [q])) f
     have j:e.den ρ<((len.den ρ).toNat:Int):=by omega
     simp only [Instr.indexAt,SW.den,SC.den,SV.den,asIntOf,Sem.run_bind,Sem.run_pure,Result.andThen_ok,run_underlying y]
     rw [if_pos ⟨f,j⟩]
     simp [(s.ty d).size,den_add (ν:=ν) p g2]
    ·cases h
   ·cases h
  ·rename_i z c a len cap r
   rw [r] at c1
   cases d1 <;> simp [fI] at c1
   subst c1
   split at h
   ·rename_i A d
    split at h
    ·rename_i b m l
     simp only [PR.one,PR.ok.injEq] at h
     obtain ⟨rfl,rfl⟩:=h
     have B:=g c.oI (by simp)
     rw [BE.jW] at B
     have f:=of_decide_eq_true (g (.ah (.lit 0) e) (by simp))
     have u:=of_decide_eq_true (g (.aY e len) (by simp))
     simp only [IE.den] at f
     obtain ⟨p,g2⟩:=EN l (λo q=>g o (by simp [q])) f
     have j:e.den ρ<((len.den ρ).toNat:Int):=by omega
     have D:c.den ρ=false:=by simpa using B
     simp only [Instr.indexAt,SW.den,SC.den,SV.den,D,Bool.false_eq_true,if_false,asIntOf,Sem.run_bind,Sem.run_pure,Result.andThen_ok,run_underlying y]
     rw [if_pos ⟨f,j⟩]
     simp [(s.ty d).size,den_add (ν:=ν) p g2]
    ·cases h
   ·cases h
  ·rename_i n z a r
   rw [r] at c1
   cases d1 <;> simp [fI] at c1
   obtain ⟨rfl,rfl⟩:=c1
   split at h
   ·rename_i A d
    split at h
    ·rename_i b m l
     simp only [PR.one,PR.ok.injEq] at h
     obtain ⟨rfl,rfl⟩:=h
     have f:=of_decide_eq_true (g (.ah (.lit 0) e) (by simp))
     have u:=of_decide_eq_true (g (.aY e (.lit n)) (by simp))
     simp only [IE.den] at f u
     obtain ⟨p,g2⟩:=EN l (λo q=>g o (by simp [q])) f
     simp only [Instr.indexAt,SW.den,SC.den,SV.den,asIntOf,Sem.run_bind,Sem.run_pure,Result.andThen_ok,run_underlying y,Instr.sureAddr]
     rw [if_pos ⟨f,u⟩]
     simp [(s.ty d).size,den_add (ν:=ν) p g2]
    ·cases h
   ·cases h
  ·cases h
 ·cases h
theorem uH {k:IntKind} {n:Int} {y:Nat} {code:BoundsCode} (b:0<=n) (a:n<=y):(Instr.sliceBound (.int k n) y code).run P w=.ok n.toNat w:=by
 simp only [Instr.sliceBound,asIntOf,Sem.run_bind,Sem.run_pure,Result.andThen_ok]
 rw [if_pos ⟨b,a⟩]
 rfl
theorem CR (E:dI P T) {kn:Kn} (D:Kn.ok ρ kn) {t:TypeId} {x:SW} {lo j:Option SW} {v:SV} {os:List BE} (h:IA T kn t x lo j=.ok v os) (n:∀o∈os,o.den ρ=true) :
  (Instr.sliceAt t (x.den ρ ν) (lo.map (·.den ρ ν)) (j.map (·.den ρ ν)) none).run P w=.ok (v.den ρ ν) w:=by
 unfold IA at h
 split at h
 case h_2=>cases h
 rename_i V a len cap K
 obtain ⟨d1,H,c1,-⟩:=(E.ty K).und
 split at h
 case h_2=>cases h
 rename_i S M
 rw [M] at c1
 cases d1 <;> simp [fI] at c1
 subst c1
 split at h
 case h_2=>cases h
 rename_i I y
 simp only at h
 split at h
 case h_2=>cases h
 rename_i d c i g
 have z:(j=none/\d=len)\/∃k,j=some (.one (.int k d)):=by
  split at i
  ·simp at i;exact .inl ⟨rfl,i.symm⟩
  ·rename_i k e;simp at i;subst i;exact .inr ⟨k,rfl⟩
  ·cases i
 have p:(lo=none/\c=.lit 0)\/∃k,lo=some (.one (.int k c)):=by
  split at g
  ·simp at g;exact .inl ⟨rfl,g.symm⟩
  ·rename_i k e;simp at g;subst g;exact .inr ⟨k,rfl⟩
  ·cases g
 clear i g
 have key:∀(b:SA),(∀o∈([.ah (.lit 0) c,.ah c d,.ah d cap,.ah (.lit 0) len]:List BE),o.den ρ=true) ->
   (c.den ρ=cap.den ρ->b=a)->(¬c.den ρ=cap.den ρ->(a.den ρ ν).add ((c.den ρ).toNat * I.size)=b.den ρ ν) ->
   (Instr.sliceAt t ((SW.one (.sl a len cap)).den ρ ν) (lo.map (·.den ρ ν)) (j.map (·.den ρ ν)) none).run P w =
    .ok ((SW.one (.sl b (d.rF c) (cap.rF c))).den ρ ν) w:=by
  intro b q C A
  have r:=of_decide_eq_true (q (.ah (.lit 0) c) (by simp))
  have R:=of_decide_eq_true (q (.ah c d) (by simp))
  have U:=of_decide_eq_true (q (.ah d cap) (by simp))
  have L:=of_decide_eq_true (q (.ah (.lit 0) len) (by simp))
  simp only [IE.den] at r L
  have u:(Instr.sliceBounds true (len.den ρ).toNat (cap.den ρ).toNat (lo.map (·.den ρ ν)) (j.map (·.den ρ ν)) none).run P w =
    .ok ((c.den ρ).toNat,(d.den ρ).toNat,(cap.den ρ).toNat) w:=by
   have s1:∀k code,(Instr.sliceBound (.int k (d.den ρ)) (cap.den ρ).toNat code).run P w=.ok (d.den ρ).toNat w:=λk code=>uH (by omega) (by omega)
   have s2:∀k code,(Instr.sliceBound (.int k (c.den ρ)) (d.den ρ).toNat code).run P w=.ok (c.den ρ).toNat w:=λk code=>uH (by omega) (by omega)
   rcases z with ⟨rfl,rfl⟩ | ⟨k,rfl⟩ <;> rcases p with ⟨rfl,rfl⟩ | ⟨Q,rfl⟩ <;>
    simp [Instr.sliceBounds,SW.den,SC.den,s1,s2,IE.den]
  have N:(d.den ρ).toNat-(c.den ρ).toNat=(d.den ρ-c.den ρ).toNat:=by omega
  have O:(cap.den ρ).toNat-(c.den ρ).toNat=(cap.den ρ-c.den ρ).toNat:=by omega
  generalize lo.map (·.den ρ ν)=lv at u ⊢
  generalize j.map (·.den ρ ν)=hv at u ⊢
  simp only [Instr.sliceAt,Instr.slice,SW.den,SC.den,Sem.run_bind,run_underlying H,Result.andThen_ok,u,(E.ty y).size,Sem.run_pure,IE.Ak,N,O]
  by_cases l:c.den ρ=cap.den ρ
  ·rw [if_pos (by rw [l]),C l]
  ·rw [iN]
   simp only [Option.map_some,A l]
 rcases p with ⟨rfl,rfl⟩ | ⟨k,rfl⟩
 ·simp only [if_true,PR.one,PR.ok.injEq] at h
  obtain ⟨rfl,rfl⟩:=h
  have:=key a n (λ_=>rfl) (λ_=>by simp [IE.den,Addr.add])
  rw [this]
  simp [SV.den,SW.den,SC.den,IE.Ak,IE.den]
 ·simp only [Bool.false_eq_true,if_false] at h
  split at h
  ·rename_i hd
   simp only [PR.one,PR.ok.injEq] at h
   obtain ⟨rfl,rfl⟩:=h
   have f:=BE.dR D hd
   simp [BE.den] at f
   exact key a n (λ_=>rfl) (λs=>absurd f s)
  ·rename_i hd
   have f:=BE.dR D hd
   simp [BE.den] at f
   split at h
   ·rename_i b G F
    simp only [PR.one,PR.ok.injEq] at h
    obtain ⟨rfl,rfl⟩:=h
    have r:=of_decide_eq_true (n (.ah (.lit 0) c) (by simp))
    simp only [IE.den] at r
    obtain ⟨J,g2⟩:=EN F (λo B=>n o (List.mem_append_right _ B)) r
    have m:=den_add (ν:=ν) J g2
    exact key b (λo B=>n o (List.mem_append_left _ B)) (λl=>absurd l f) (λ_=>m)
   ·cases h
  ·cases h
theorem FH (n:dI P T) {t:TypeId} {lo c:Option SW} {v:SV} {os:List BE} (h:Ay T t lo c=.ok v os) (l:∀o∈os,o.den ρ=true) :
  (Instr.sliceAt t (.slice none 0 0) (lo.map (·.den ρ ν)) (c.map (·.den ρ ν)) none).run P w=.ok (v.den ρ ν) w:=by
 unfold Ay at h
 split at h
 case h_2=>cases h
 rename_i D x
 obtain ⟨d1,r,c1,-⟩:=(n.ty x).und
 split at h
 case h_2=>cases h
 rename_i B y
 rw [y] at c1
 cases d1 <;> simp [fI] at c1
 subst c1
 split at h
 case h_2=>cases h
 rename_i C i
 split at h
 case h_2=>cases h
 rename_i f d b a
 have j:(c=none/\f=.lit 0)\/∃k,c=some (.one (.int k f)):=by
  split at b
  ·simp at b;exact .inl ⟨rfl,b.symm⟩
  ·rename_i k e;simp at b;subst b;exact .inr ⟨k,rfl⟩
  ·cases b
 have m:(lo=none/\d=.lit 0)\/∃k,lo=some (.one (.int k d)):=by
  split at a
  ·simp at a;exact .inl ⟨rfl,a.symm⟩
  ·rename_i k e;simp at a;subst a;exact .inr ⟨k,rfl⟩
  ·cases a
 clear b a
 simp only [PR.one,PR.ok.injEq] at h
 obtain ⟨rfl,rfl⟩:=h
 have s:=of_decide_eq_true (l (.ah (.lit 0) d) (by simp))
 have z:=of_decide_eq_true (l (.ah d f) (by simp))
 have u:=of_decide_eq_true (l (.ah f (.lit 0)) (by simp))
 simp only [IE.den] at s u
 have q:f.den ρ=0:=by omega
 have p:d.den ρ=0:=by omega
 have g:(Instr.sliceBounds true 0 0 (lo.map (·.den ρ ν)) (c.map (·.den ρ ν)) none).run P w=.ok (0,0,0) w:=by
  have s1:∀k code,(Instr.sliceBound (.int k 0) 0 code).run P w=.ok 0 w:=λk code=>uH (by omega) (by omega)
  rcases j with ⟨rfl,rfl⟩ | ⟨k,rfl⟩ <;> rcases m with ⟨rfl,rfl⟩ | ⟨A,rfl⟩ <;>
   simp [Instr.sliceBounds,SW.den,SC.den,q,p,s1]
 generalize lo.map (·.den ρ ν)=lv at g ⊢
 generalize c.map (·.den ρ ν)=hv at g ⊢
 simp only [Instr.sliceAt,Instr.slice,Sem.run_bind,run_underlying r,Result.andThen_ok,g,(n.ty i).size,Sem.run_pure]
 rfl
theorem WH (e:dI P T) {kn:Kn} (d:Kn.ok ρ kn) {t:TypeId} {x:SW} {lo g:Option SW} {v:SV} {os:List BE} (h:wy T kn t x lo g=.ok v os) (f:∀o∈os,o.den ρ=true) :
  (Instr.sliceAt t (x.den ρ ν) (lo.map (·.den ρ ν)) (g.map (·.den ρ ν)) none).run P w=.ok (v.den ρ ν) w:=by
 unfold wy at h
 split at h
 ·exact FH e h f
 ·rename_i c a len cap
  split at h
  ·cases h
  ·rename_i hd
   have:(SW.one (.eu c a len cap)).den ρ ν=.slice none 0 0:=by simp [SW.den,SC.den,BE.dR d hd]
   rw [this]
   exact FH e h f
  ·rename_i hd
   have:(SW.one (.eu c a len cap)).den ρ ν=(SW.one (.sl a len cap)).den ρ ν:=by simp [SW.den,SC.den,BE.dR d hd]
   rw [this]
   split at h
   ·rename_i b l m i k
    simp only [PR.ok.injEq] at h
    obtain ⟨rfl,rfl⟩:=h
    have j:(SV.w (.one (.eu c b l m))).den ρ ν=(SV.w (.one (.sl b l m))).den ρ ν:=by simp [SV.den,SW.den,SC.den,BE.dR d hd]
    rw [j]
    exact CR e d k f
   ·exact CR e d h f
 ·exact CR e d h f
end
theorem WI {ρ:Env} {ν:Nat->Addr} {c:List (Nat × Nat)} {kn:Kn} {fr:Fr} {a:Act} (d:iU ν c) (e:Kn.ok ρ kn) (f:qI ρ ν fr a) :
  ∀{l:List (Nat × Operand)} {ps:List (Nat × SW)},LZ (l.map λp=>(p.1,eQ c kn fr p.2))=some ps->l.map (λp=>(p.1,a.eval p.2))=ps.map λp=>(p.1,p.2.den ρ ν)
 | [],ps,h=>by simp [LZ] at h;subst h;rfl
 | (i,x) :: r,ps,h=>by
  simp only [List.map_cons] at h
  unfold LZ at h
  split at h
  ·rename_i heq;cases heq
  ·rename_i j y k heq
   simp only [List.cons.injEq,Prod.mk.injEq] at heq
   obtain ⟨⟨rfl,g⟩,rfl⟩:=heq
   simp only [Option.map_eq_some_iff] at h
   obtain ⟨m,b,rfl⟩:=h
   have:=nV d e f g
   simp only [List.map_cons,WI d e f b,this]
   rfl
  ·cases h
theorem Rx {ρ:Env} {ν:Nat->Addr} {v:SV} {b:Nat} (h:Gn v=some b):v.den ρ ν=.pointer (some (ν b)):=by
 unfold Gn at h
 split at h
 ·rename_i a
  split at h
  ·rename_i c
   simp at h
   subst h
   have:=SA.df (ρ:=ρ) c
   simp [SV.den,SW.den,SC.den,SA.den,this,Addr.add_zero]
  ·cases h
 ·cases h
theorem CS {ρ:Env} {ν:Nat->Addr} {d:List (Nat × Nat)} {kn:Kn} {fr:Fr} {a:Act} (g:iU ν d) (i:Kn.ok ρ kn) (j:qI ρ ν fr a) :
  ∀{l:List Operand} {c:List Nat},qU (l.map (eQ d kn fr))=some c->l.map a.eval=c.map λb=>Value.pointer (some (ν b))
 | [],c,h=>by simp [qU] at h;subst h;rfl
 | x :: r,c,h=>by
  simp only [List.map_cons] at h
  cases f:eQ d kn fr x with
  | none=>simp [f,qU] at h
  | some v =>
   simp only [f,qU] at h
   split at h
   ·rename_i b m k e
    simp at h
    subst h
    simp only [List.map_cons,CS g i j e,nV g i j f,Rx k]
   ·cases h
theorem CU {v:SV} {b:BE} (h:wu v=some b):v=.w (.one (.bool b)):=by
 unfold wu at h
 split at h
 ·simp at h;rw [h]
 ·cases h
set_option maxHeartbeats 1000000 in
theorem xC {P:Program} {T:bf} (B:dI P T) {ρ:Env} {ν:Nat->Addr} {S:List (Nat × Nat)} {kn:Kn} {fr:Fr} {hp:List SB} {a:Act} {w:World}
  (L:iU ν S) (E:Kn.ok ρ kn) (M:qI ρ ν fr a) (hh:aD ρ ν hp w) {o:Oper} {v:SV} {os:List BE}
  (h:zk T S kn fr hp o=.ok v os) (H:∀b∈os,b.den ρ=true):(execOp a.eval o).run P w=.ok (.value (v.den ρ ν)) w:=by
 have n:∀{x v},eQ S kn fr x=some v->a.eval x=v.den ρ ν:=λm=>nV L E M m
 unfold zk at h
 unfold execOp
 split at h
 case h_1 x g =>
  split at h
  ·rename_i v' m
   simp only [PR.ok.injEq] at h
   obtain ⟨rfl,rfl⟩:=h
   simp [g,n m]
  ·cases h
 case h_2 x g =>
  split at h
  ·rename_i v' m
   simp only [PR.ok.injEq] at h
   obtain ⟨rfl,rfl⟩:=h
   simp [g,n m]
  ·cases h
 case h_3 c x y g =>
  simp only [g]
  split at h
  ·cases h
  rename_i cb R
  simp only [Option.bind_eq_some_iff] at R
  obtain ⟨vc,hvc,hvb⟩:=R
  have J:=n hvc
  rw [CU hvb] at J
  simp only [SV.den,SW.den,SC.den] at J
  simp only [J,asBool,Sem.run_bind,Sem.run_pure,Result.andThen_ok]
  split at h
  ·rename_i hd
   have A:=BE.dR E hd
   split at h
   ·rename_i v' m
    simp only [PR.ok.injEq] at h
    obtain ⟨rfl,rfl⟩:=h
    simp [A,n m]
   ·cases h
  ·rename_i hd
   have A:=BE.dR E hd
   split at h
   ·rename_i v' m
    simp only [PR.ok.injEq] at h
    obtain ⟨rfl,rfl⟩:=h
    simp [A,n m]
   ·cases h
  ·split at h
   ·rename_i p q K Q
    simp only [Option.bind_eq_some_iff] at K Q
    obtain ⟨vx,V,W⟩:=K
    obtain ⟨vy,hvy,X⟩:=Q
    simp only [PR.one,PR.ok.injEq] at h
    obtain ⟨rfl,rfl⟩:=h
    cases F:cb.den ρ
    ·have G:Kn.ok ρ ((cb,false) :: kn):=by
      intro r u
      rcases List.mem_cons.1 u with rfl | u
      ·exact F
      ·exact E r u
     have:=nV L G M hvy
     rw [CU X] at this
     simp [this,SV.den,SW.den,SC.den,BE.Ob,F]
    ·have G:Kn.ok ρ ((cb,true) :: kn):=by
      intro r u
      rcases List.mem_cons.1 u with rfl | u
      ·exact F
      ·exact E r u
     have:=nV L G M V
     rw [CU W] at this
     simp [this,SV.den,SW.den,SC.den,BE.Ob,F]
   ·cases h
 case h_4 t x g =>
  simp only [g]
  split at h
  ·rename_i sa m
   have:=LY B E hh h H
   simp [n m,SV.den,SW.den,SC.den,Instr.loadAt,Instr.sureAddr,this]
  ·cases h
 case h_5 x g =>
  simp only [g]
  split at h
  ·rename_i sa m
   simp only [PR.one,PR.ok.injEq] at h
   obtain ⟨rfl,rfl⟩:=h
   simp [n m,SV.den,SW.den,SC.den]
  ·rename_i f c m
   simp only [PR.one,PR.ok.injEq] at h
   obtain ⟨rfl,rfl⟩:=h
   simp [n m,SV.den,SW.den,SC.den]
  ·cases h
 case h_6 op t x y ty g =>
  simp only [g]
  split at h
  ·rename_i p q m N
   have:=ad5 B h H (ρ:=ρ) (ν:=ν) (w:=w)
   simp only [n m,n N,SV.den]
   simp only [Sem.run_bind] at this ⊢
   rw [this]
   rfl
  ·cases h
 case h_7 op t x g =>
  simp only [g]
  split at h
  ·rename_i b m
   simp only [PR.one,PR.ok.injEq] at h
   obtain ⟨rfl,rfl⟩:=h
   simp [n m,SV.den,SW.den,SC.den,Op.unary,BE.jW]
  ·rename_i k e m
   simp only [PR.one,PR.ok.injEq] at h
   obtain ⟨rfl,ZB⟩:=h
   have:=sO (wr:=T.wr) (ρ:=ρ) (k:=k) (e:=IE.rF (.lit 0) e) (by rw [ZB];exact H)
   simp [n m,SV.den,SW.den,SC.den,Op.unary,Op.intArith,this,IE.Ak,IE.den]
  ·cases h
 case h_8 s d x g =>
  simp only [g]
  split at h
  ·rename_i y m
   have:=ZA B h H (ρ:=ρ) (ν:=ν) (w:=w)
   simp [n m,SV.den,this]
  ·cases h
 case h_9 t x g =>
  simp only [g]
  split at h
  ·rename_i c ti m hti
   obtain ⟨d,hd,J,-⟩:=(B.ty hti).und
   have O:P.concrete t=true:=by
    unfold Program.concrete
    rw [hd]
    cases A:ti.d <;> rw [A] at h J <;> simp only at h <;> first | (cases h;done) | (cases d <;> simp [fI] at J <;> rfl)
   have hv:v=.w (.one (.iface t c))/\os=[]:=by
    split at h
    ·cases h
    ·cases h
    ·simp only [PR.one,PR.ok.injEq] at h;exact ⟨h.1.symm,h.2.symm⟩
   obtain ⟨rfl,rfl⟩:=hv
   simp [n m,SV.den,SW.den,SC.den,run_makeInterface w t _ O]
  ·cases h
 case h_10 f first lh g =>
  simp only [g]
  split at h
  ·rename_i hfe
   split at h
   ·rename_i bs U
    simp only [PR.one,PR.ok.injEq] at h
    obtain ⟨rfl,rfl⟩:=h
    have h1:=CS L E M U
    have Z:first=#[]:=by simpa using hfe
    subst Z
    have h3:lh.map a.eval=(bs.map λb=>Value.pointer (some (ν b))).toArray:=by
     rw [<-h1]
     obtain ⟨l⟩:=lh
     simp
    simp [Instr.makeFunc,h3,SV.den,SW.den,SC.den]
   ·cases h
  ·cases h
 case h_11 t x I D g =>
  simp only [g]
  have go:∀y l r,eQ S kn fr x=some (.w y)->I.map a.eval=l.map (·.den ρ ν)->D.map a.eval=r.map (·.den ρ ν)->wy T kn t y l r=.ok v os ->
    (do pure (.value (<-Instr.sliceAt t (a.eval x) (I.map a.eval) (D.map a.eval) ((none:Option Operand).map a.eval))):Sem Next).run P w=.ok (.value (v.den ρ ν)) w:=by
   intro y l r m C u hs
   have:=WH B E hs H (ρ:=ρ) (ν:=ν) (w:=w)
   rw [C,u,n m]
   simp [SV.den,this]
  split at h
  ·rename_i y m C u
   refine go y none none m ?_ ?_ h
   ·cases I <;> simp at C ⊢
   ·cases D <;> simp at u ⊢
  ·rename_i y l m C u
   refine go y (some l) none m ?_ ?_ h
   ·cases I <;> simp at C ⊢
    rw [n C];rfl
   ·cases D <;> simp at u ⊢
  ·rename_i y r m C u
   refine go y none (some r) m ?_ ?_ h
   ·cases I <;> simp at C ⊢
   ·cases D <;> simp at u ⊢
    rw [n u];rfl
  ·rename_i y l r m C u
   refine go y (some l) (some r) m ?_ ?_ h
   ·cases I <;> simp at C ⊢
    rw [n C];rfl
   ·cases D <;> simp at u ⊢
    rw [n u];rfl
  ·cases h
 case h_12 s x f g =>
  simp only [g]
  split at h
  ·rename_i y m
   have:=Nc B h (ρ:=ρ) (ν:=ν) (w:=w)
   simp [n m,SV.den,this]
  ·cases h
 case h_13 s x f g =>
  simp only [g]
  split at h
  ·rename_i y m
   have:=WC B h (ρ:=ρ) (ν:=ν) (w:=w)
   simp [n m,SV.den,this]
  ·cases h
 case h_14 t x i g =>
  simp only [g]
  split at h
  ·rename_i y j m D
   have:=Nf B h H (ρ:=ρ) (ν:=ν) (w:=w)
   simp [n m,n D,SV.den,this]
  ·cases h
 case h_15 x i g =>
  simp only [g]
  split at h
  ·rename_i xs m
   split at h
   ·rename_i y N
    simp only [PR.ok.injEq] at h
    obtain ⟨rfl,rfl⟩:=h
    simp [n m,SV.den,Instr.extract,N]
   ·cases h
  ·cases h
 case h_16 t parts g =>
  simp only [g]
  split at h
  ·rename_i ps Y
   have h1:=WI L E M Y
   have:=WB B h (ρ:=ρ) (ν:=ν) (w:=w)
   have Z:(parts.map λ(p:Nat × Operand)=>(p.1,a.eval p.2))=(ps.map λp=>(p.1,p.2.den ρ ν)).toArray:=by
    rw [<-h1]
    obtain ⟨l⟩:=parts
    simp
   simp only [Z,Sem.run_bind,this,Result.andThen_ok]
   rfl
  ·cases h
 case h_17 args argTypes g =>
  simp only [g]
  split at h
  ·rename_i x t m ht
   split at h
   ·rename_i y N
    have e1:args=#[x]:=by obtain ⟨l⟩:=args;simp at m;rw [m]
    have e2:argTypes=#[t]:=by obtain ⟨l⟩:=argTypes;simp at ht;rw [ht]
    subst e1 e2
    have:=ad6 (ty:=o.type) B h H (ρ:=ρ) (ν:=ν) (w:=w)
    simp [resolve,invoke,builtin,n N,SV.den,this]
   ·cases h
  ·cases h
 case h_18 args argTypes g =>
  simp only [g]
  split at h
  ·rename_i k p k' q m
   obtain ⟨l⟩:=args
   simp only [PR.one,PR.ok.injEq] at h
   obtain ⟨rfl,rfl⟩:=h
   rcases l with _ | ⟨x,_ | ⟨y,_ | ⟨z,r⟩⟩⟩ <;> simp only [List.map_cons,List.map_nil,List.cons.injEq,and_true,reduceCtorEq,and_false] at m
   have e:(if (q.den ρ)<(p.den ρ) then q.den ρ else p.den ρ)=min (p.den ρ) (q.den ρ):=by split <;> omega
   simp [resolve,invoke,builtin,n m.1,n m.2,SV.den,SW.den,SC.den,Builtin.min_,Builtin.min2,IE.den,e]
  ·cases h
 case h_19 args argTypes g =>
  simp only [g]
  split at h
  ·rename_i k p k' q m
   obtain ⟨l⟩:=args
   simp only [PR.one,PR.ok.injEq] at h
   obtain ⟨rfl,rfl⟩:=h
   rcases l with _ | ⟨x,_ | ⟨y,_ | ⟨z,r⟩⟩⟩ <;> simp only [List.map_cons,List.map_nil,List.cons.injEq,and_true,reduceCtorEq,and_false] at m
   have e:(if (p.den ρ)<(q.den ρ) then q.den ρ else p.den ρ)=max (p.den ρ) (q.den ρ):=by split <;> omega
   simp [resolve,invoke,builtin,n m.1,n m.2,SV.den,SW.den,SC.den,Builtin.max_,Builtin.max2,IE.den,e]
  ·cases h
 case h_20 t x i g =>
  simp only [g]
  split at h
  ·rename_i y j m D
   have:=WE B h (ρ:=ρ) (ν:=ν) (w:=w)
   simp [n m,n D,SV.den,this]
  ·cases h
 case h_21=>cases h
section
variable {P:Program} {ops:Array Oper} {Q:Exit->Act->World->Prop} {md:Region.Mode} {S:World->Prop} {m:Option Nat}
def asked (m:Option Nat) (listed:Array Bool):Prop:=∀c,m=some c->listed.getD c true=false
def jm (P:Program) (md:Region.Mode) (ops:Array Oper) (Q:Exit->Act->World->Prop) (S:World->Prop) (m:Option Nat):Nat->Array Bool->Act->World->Prop
 | 0,listed,a,w=>Region.ready md ops listed=[]/\Q .normal a w
 | fuel+1,listed,a,w =>
  (Region.ready md ops listed=[]->Q .normal a w) /\
  ∀i∈Region.ready md ops listed,wpOp P ops Q i (λc b=>(asked m (listed.setIfInBounds i true)->S b)/\jm P md ops Q S m fuel (listed.setIfInBounds i true) c b) a w
theorem IB:∀(fuel:Nat) (listed:Array Bool) (a:Act) (w:World),jm P md ops Q S m fuel listed a w->wpAny P md ops Q fuel listed a w
 | 0,_,_,_,h=>h
 | fuel+1,_,_,_,h=>⟨h.1,λi e=>wpOp_mono (λd c b=>IB fuel _ d c b.2) (h.2 i e)⟩
theorem FI {S':World->Prop} (h:∀w,S' w->S w):∀{fuel:Nat} {listed:Array Bool} {a:Act} {w:World},jm P md ops Q S' m fuel listed a w->jm P md ops Q S m fuel listed a w
 | 0,_,_,_,b=>b
 | _+1,_,_,_,b=>⟨b.1,λi e=>wpOp_mono (λ_ _ c=>⟨λd=>h _ (c.1 d),FI h c.2⟩) (b.2 i e)⟩
theorem Az {listed:Array Bool} {i:Nat} (h:asked m (listed.setIfInBounds i true)):asked m listed:=by
 intro c e
 have d:=h c e
 by_cases a:i=c
 ·subst a
  rcases Nat.lt_or_ge i listed.size with b | b
  ·simp [Array.getD_eq_getD_getElem?,Array.getElem?_setIfInBounds,b] at d
  all_goals grind
 ·rwa [getD_set_ne true a] at d
theorem Gq (i j c:Nat) (listed:Array Bool) (h:i≠c):((listed.setIfInBounds i true).setIfInBounds j true).getD c true=(listed.setIfInBounds j true).getD c true:=by
 by_cases a:j=c
 ·subst a
  simp only [Array.getD_eq_getD_getElem?,Array.getElem?_setIfInBounds,Array.size_setIfInBounds]
  simp [h]
 ·rw [getD_set_ne true a,getD_set_ne true h,getD_set_ne true a]
theorem FJ {S':World->Prop}:∀{fuel:Nat} {listed:Array Bool} {a:Act} {w:World},¬asked m listed->jm P md ops Q S' m fuel listed a w->jm P md ops Q S m fuel listed a w
 | 0,_,_,_,_,b=>b
 | n+1,_,_,_,d,b=>⟨b.1,λi f=>wpOp_mono (λ_ _ e=>⟨λc=>absurd (Az c) d,FJ (λc=>d (Az c)) e.2⟩) (b.2 i f)⟩
structure AA (md:Region.Mode) (ops:Array Oper) (listed:Array Bool) (i:Nat) (l:List Nat):Prop where
 un:∀j∈l,listed.getD j true=false/\j≠i
 on:∀j∈l,∃o e,ops[j]?=some o/\e∈o.after/\Region.binds md e=true/\(e.on=i\/e.on∈l)
theorem Ov {i:Nat} {s:Oper} {v:Value} {S1:World->Prop} {l:List Nat} (T:ops[i]?=some s) (p:∀(j:Nat) (o:Oper) cs b,ops[j]?=some o->o.op≠.select cs b)
  (hQ:∀c a w,Q (.panic c) (a.put s.dst v) w->Q (.panic c) a w) (N:m≠some i) (O:(∀w,S1 w)\/(S1=S/\∀c,m=some c->c∈l)) :
  ∀(fuel:Nat) (listed:Array Bool) (a:Act) (w:World),
   (∀j u,ops[j]?=some u->j≠i->listed.getD j true=false->(∀e∈u.after,Region.binds md e=true->e.on≠i)->s.apart ops u=true) ->
   i∈Region.ready md ops listed->YieldsIf P ops S1 s v a->S1 w->(asked m (listed.setIfInBounds i true)->S w)->AA md ops listed i l ->
   jm P md ops Q S m fuel (listed.setIfInBounds i true) (a.put s.dst v) w->jm P md ops Q S m (fuel+1) listed a w:=by
 intro fuel
 induction fuel with
 | zero =>
  intro listed a w _ t G U r _ H
  refine ⟨λh=>(by rw [h] at t;cases t),λj I=>?_⟩
  by_cases d:j=i
  ·subst d;exact G.wpOp T U ⟨r,H⟩
  ·have:=ready_mono I d
   rw [H.1] at this
   cases this
 | succ fuel ih =>
  intro listed a w f t G U r V H
  refine ⟨λh=>(by rw [h] at t;cases t),λj I=>?_⟩
  by_cases d:j=i
  ·subst d;exact G.wpOp T U ⟨r,H⟩
  ·have W:=H.2 j (ready_mono I d)
   obtain ⟨n,u,q,D⟩:=mem_ready.1 I
   have z:∀e∈u.after,Region.binds md e=true->e.on≠i:=λe he Z heq=>by
    have W:=D e he Z
    have h0:=(mem_ready.1 t).1
    all_goals grind
   have y:j ∉ l:=λy=>by
    grind [AA.on,AA.un,SB.has.un,Nat.lt_or_ge,Array.getElem?_eq_none]
   have Y:=wpOp_putIf q (f j u q d n z) (λcs b=>p i s cs b T) (λcs b=>p j u cs b q) hQ G W
   have g:∀k ok,ops[k]?=some ok->k≠i->(listed.setIfInBounds j true).getD k true=false ->
     (∀e∈ok.after,Region.binds md e=true->e.on≠i)->s.apart ops ok=true:=λk ok F M B K=>by
    refine f k ok F M ?_ K
    by_cases x:j=k
    ·subst x;exact n
    ·rw [getD_set_ne true x] at B;exact B
   have A:AA md ops (listed.setIfInBounds j true) i l:=⟨λk F=>by
     obtain ⟨a2,a3⟩:=V.un k F
     refine ⟨?_,a3⟩
     rw [getD_set_ne true λe=>y (by rw [e];exact F)]
     exact a2,V.on⟩
   refine wpOp_mono (λa' E X=>?_) Y
   have L:asked m (listed.setIfInBounds j true)->S E:=λC=>X.2.1 λc J=>by
    rw [Gq i j c listed (λe=>N (e ▸ J))]
    exact C c J
   have R:S1 E:=by
    rcases O with h | ⟨h,C⟩
    ·exact h E
    ·rw [h]
     exact L λc J=>(A.un c (C c J)).1
   refine ⟨L,ih (listed.setIfInBounds j true) a' E g (ready_mono t (Ne.symm d)) X.1 R (λC=>L (Az C)) A ?_⟩
   all_goals grind [Array.setIfInBounds_comm]
theorem Ry {listed:Array Bool} {a:Act} {w:World} (b:Region.ready md ops listed=[]) (h:Q .normal a w):∀fuel,jm P md ops Q S m fuel listed a w
 | 0=>⟨b,h⟩
 | _+1=>⟨λ_=>h,by rw [b];simp⟩
theorem Rz {b:Nat} {a:Act} {w:World} (c:P.follows .mixedOrders=true)
  (h:jm P .any ops Q S m ops.size (Array.replicate ops.size false) a {w with drawn:=w.drawn+1}):(Code.region b ops true).wp P Q a w :=
 wp_region_any c (IB _ _ _ _ h)
end
def Reach (P:Program) (f:FuncId) (R:Ending->World->Prop) (a:Act) (k:List Item) (w:World):Prop :=
 ∀(b:Frame),b.fn=f->b.kind=.normal->∀d,∃e c fr,R e c/\Comes P (lone (b.at a k) d w) (lone fr d c) e/\fr.fn=f/\fr.leaving P c e
section
variable {P:Program} {f:FuncId} {R:Ending->World->Prop} {a s:Act} {k k':List Item} {w w':World}
theorem Reach.steps (h:∀(b:Frame) (cs:List Frame),Steps P (lone (b.at a k) cs w) (lone (b.at s k') cs w')) (j:Reach P f R s k' w'):Reach P f R a k w:=by
 intro b m c cs
 obtain ⟨e,l,fr,g,n,i,d⟩:=j b m c cs
 exact ⟨e,l,fr,g,Comes.of_steps (h b cs) n,i,d⟩
theorem Reach.step (h:∀(b:Frame) (cs:List Frame),Go.step P (lone (b.at a k) cs w)=.next (lone (b.at s k') cs w')) (c:Reach P f R s k' w'):Reach P f R a k w :=
 Reach.steps (λb cs=>.one (h b cs)) c
theorem Reach.mono {c:Ending->World->Prop} (j:Reach P f R a k w) (h:∀e w,R e w->c e w):Reach P f c a k w:=by
 intro b m d i
 obtain ⟨e,l,fr,g,r⟩:=j b m d i
 exact ⟨e,l,fr,h _ _ g,r⟩
def lZ (P:Program) (f:FuncId) (R:Ending->World->Prop) (k:List Item):Exit->Act->World->Prop:=λe a w=>e=.normal/\Reach P f R a k w
theorem Reach.wp {c:Code} (h:c.wp P (lZ P f R k) a w):Reach P f R a (.code c :: k) w:=by
 intro b p i g
 obtain ⟨e,s,w',⟨rfl,m⟩,d⟩:=h b k g
 obtain ⟨r,o,fr,l,q,n,j⟩:=m b p i g
 exact ⟨r,o,fr,l,Comes.of_steps d q,n,j⟩
theorem Reach.ops {ops:Array Oper} {l:List Nat} (h:wpOps P ops (lZ P f R k) l a w):Reach P f R a (.inRegion ops l :: k) w:=by
 intro b i j d
 obtain ⟨e,s,w',⟨rfl,o⟩,c⟩:=wp_ops l a w h b k d
 obtain ⟨n,q,fr,p,r,m,g⟩:=o b i j d
 exact ⟨n,q,fr,p,Comes.of_steps c r,m,g⟩
theorem Reach.region {ops:Array Oper} {b:Nat} (h:wpOps P ops (lZ P f R k) (List.range ops.size) a w):Reach P f R a (.code (.region b ops false) :: k) w :=
 Reach.wp (wp_region h)
theorem Reach.draw {ops:Array Oper} {c:Nat} {S:World->Prop} {m:Option Nat} (b:P.follows .mixedOrders=true)
  (h:jm P .any ops (lZ P f R k) S m ops.size (Array.replicate ops.size false) a {w with drawn:=w.drawn+1}):Reach P f R a (.code (.region c ops true) :: k) w :=
 Reach.wp (Rz b h)
theorem Reach.ret {fn:Func} {v:Value} (d:P.funcs[f]?=some fn) (hd:a.defers=[]) (g:(results fn a.tmps).run P w=.ok v w) (e:R (.returned v) w) :
  Reach P f R a (.code .ret :: k) w:=by
 intro b h c i
 subst h
 exact ⟨.returned v,w,{b.at a (.code .ret :: k) with mode:=.returning},e,.one step_ret,rfl,rfl,hd,c,fn,d,g⟩
theorem Reach.end {fn:Func} {v:Value} (d:P.funcs[f]?=some fn) (hd:a.defers=[]) (g:(results fn a.tmps).run P w=.ok v w) (e:R (.returned v) w) :
  Reach P f R a [] w:=by
 intro b h c i
 subst h
 exact ⟨.returned v,w,{b.at a [] with mode:=.returning},e,.one step_end,rfl,rfl,hd,c,fn,d,g⟩
theorem Reach.calls {fn:Func} {c:Code} {args:Array Value} (g:P.funcs[f]?=some fn) (j:fn.body=some c)
  (h:Reach P f R {tmps:=args ++ Array.replicate (fn.ntmps-args.size) undef,defers:=[]} [.code c] w):Calls P f args w R:=by
 intro i
 let b:Frame:={(default:Frame) with fn:=f,kind:=.normal}
 have d:Frame.enter P f args .normal=b.at {tmps:=args ++ Array.replicate (fn.ntmps-args.size) undef,defers:=[]} [.code c]:=by
  simp [Frame.enter,Frame.at,g,j,b]
 obtain ⟨e,w',fr,m,o,n,l⟩:=h b rfl rfl i
 all_goals grind
end
def Code.at:Code->List Nat->Option Code
 | c,[]=>some c
 | .seq a _,0 :: p=>Code.at a p
 | .seq _ b,1 :: p=>Code.at b p
 | .cond _ t _,0 :: p=>Code.at t p
 | .cond _ _ e,1 :: p=>Code.at e p
 | .block _ b,0 :: p=>Code.at b p
 | .loop b,0 :: p=>Code.at b p
 | .scope b,0 :: p=>Code.at b p
 | _,_=>none
theorem Code.ad7:∀(c:Code) (p:List Nat) (i:Nat),Code.at c (p ++ [i])=(Code.at c p).bind λd=>Code.at d [i]:=by
 intro c p
 induction p generalizing c with
 | nil=>intro i;simp [Code.at]
 | cons q p a =>
  intro i
  cases c <;> simp only [List.cons_append]
  all_goals first
   | (rcases q with _ | _ | q <;> simp [Code.at,a];done)
   | (simp [Code.at];done)
inductive SI where
 | code (p:List Nat)
 | ak (id:Nat)
 | IC (p:List Nat)
 | scp (p:List Nat)
 deriving Inhabited
def SI.j6 (body:Code):SI->Item
 | .code p=>.code ((Code.at body p).getD .skip)
 | .ak a=>.inBlock a
 | .IC p=>.inLoop ((Code.at body p).getD .skip)
 | .scp p=>.inScope ((Code.at body p).getD .skip)
def vL (a:Nat):List SI->Option (List SI)
 | .ak b :: k=>if b == a then some k else vL a k
 | _ :: k=>vL a k
 | []=>none
theorem rG (body:Code) (a:Nat):∀{k k':List SI},vL a k=some k'->exitTo a (k.map (SI.j6 body))=some (k'.map (SI.j6 body))
 | [],_,h=>by simp [vL] at h
 | x :: k,k',h=>by
  cases x <;> simp only [vL,List.map_cons,SI.j6,exitTo] at h ⊢
  ·exact rG body a h
  ·split at h
   ·rename_i b;rw [if_pos b];simp at h;rw [h]
   ·rename_i b;rw [if_neg b];exact rG body a h
  ·exact rG body a h
  ·exact rG body a h
def IE.sc (n:Nat):IE->Bool
 | .lit _=>true
 | .var i=>Nat.blt i n
 | .add a b | .sub a b | .mul a b | .div a b | .mod a b | .sK a b | .imax a b=>a.sc n && b.sc n
 | .wrap _ a=>a.sc n
 | .cell r a b _=>Nat.blt r n && a.sc n && b.sc n
def BE.sc (n:Nat):BE->Bool
 | .lit _=>true
 | .var i=>Nat.blt i n
 | .not a=>a.sc n
 | .and a b | .or a b | .beq a b=>a.sc n && b.sc n
 | .ite a b c=>a.sc n && b.sc n && c.sc n
 | .ag a b | .ah a b | .aY a b=>IE.sc n a && IE.sc n b
 | .inr _ a=>IE.sc n a
 | .cell r a b _=>Nat.blt r n && IE.sc n a && IE.sc n b
def SA.sc (nv n:Nat) (a:SA):Bool:=Nat.blt a.ak n && a.i1.sc nv && a.i2.sc nv
def SC.sc (nv n:Nat):SC->Bool
 | .int _ e=>e.sc nv
 | .bool b=>b.sc nv
 | .val i=>Nat.blt i nv
 | .kV r a b _=>Nat.blt r nv && a.sc nv && b.sc nv
 | .ptr a=>a.sc nv n
 | .sl a l c=>a.sc nv n && l.sc nv && c.sc nv
 | .eu k a l c=>k.sc nv && a.sc nv n && l.sc nv && c.sc nv
 | .fn _ d=>d.all (Nat.blt · n)
 | .iface _ c=>c.sc nv n
 | .jH k c=>k.sc nv && c.sc nv n
 | .mp b=>Nat.blt b n
 | _=>true
def rH (nv n:Nat):List SC->Bool
 | []=>true
 | c :: r=>c.sc nv n && rH nv n r
def SW.sc (nv n:Nat) (x:SW):Bool:=rH nv n x.cells
def Nk (nv n:Nat):List SW->Bool
 | []=>true
 | c :: r=>c.sc nv n && Nk nv n r
def SV.sc (nv n:Nat):SV->Bool
 | .w x=>x.sc nv n
 | .iB a=>Nk nv n a
 | .gd c x=>c.sc nv && x.sc nv n
def Ow (nv:Nat):List BE->Bool
 | []=>true
 | b :: r=>b.sc nv && Ow nv r
def Gr (nv:Nat):Kn->Bool
 | []=>true
 | b :: r=>b.1.sc nv && Gr nv r
def IG (nv:Nat):List aU->Bool
 | []=>true
 | g :: r=>Nat.blt g.r nv && g.n1.sc nv && IG nv r
def uY (nv n:Nat):List Up->Bool
 | []=>true
 | u :: r=>u.i1.sc nv && u.i2.sc nv && u.c.sc nv n && uY nv n r
def SB.sc (nv n:Nat) (b:SB):Bool:=b.gone || (rH nv n b.cs && IG nv b.bz && uY nv n b.ups && (match b.cap with | some (e,_)=>e.sc nv | none=>true) && b.nl.sc nv)
def sP (nv n:Nat):List SB->Bool
 | []=>true
 | b :: r=>b.sc nv n && sP nv n r
def Ox (nv n:Nat):Fr->Bool
 | []=>true
 | x :: r=>x.2.sc nv n && Ox nv n r
structure bY (nv n:Nat) (ρ ρ':Env) (ν aI:Nat->Addr):Prop where
 iv:∀i,i<nv->ρ'.iv i=ρ.iv i
 bv:∀i,i<nv->ρ'.bv i=ρ.bv i
 vv:∀i,i<nv->ρ'.vv i=ρ.vv i
 ic:∀i,i<nv->ρ'.ic i=ρ.ic i
 bc:∀i,i<nv->ρ'.bc i=ρ.bc i
 vc:∀i,i<nv->ρ'.vc i=ρ.vc i
 bl:∀i,i<n->aI i=ν i
theorem bY.refl (nv n:Nat) (ρ:Env) (ν:Nat->Addr):bY nv n ρ ρ ν ν:=⟨λ_ _=>rfl,λ_ _=>rfl,λ_ _=>rfl,λ_ _=>rfl,λ_ _=>rfl,λ_ _=>rfl,λ_ _=>rfl⟩
theorem bY.trans {nv n g d:Nat} {ρ ρ' e:Env} {ν f c:Nat->Addr} (h:bY nv n ρ ρ' ν f) (h':bY g d ρ' e f c) (b:nv<=g) (j:n<=d):bY nv n ρ e ν c :=
 ⟨λi a=>(h'.iv i (Nat.lt_of_lt_of_le a b)).trans (h.iv i a),λi a=>(h'.bv i (Nat.lt_of_lt_of_le a b)).trans (h.bv i a),λi a=>(h'.vv i (Nat.lt_of_lt_of_le a b)).trans (h.vv i a),
  λi a=>(h'.ic i (Nat.lt_of_lt_of_le a b)).trans (h.ic i a),λi a=>(h'.bc i (Nat.lt_of_lt_of_le a b)).trans (h.bc i a),λi a=>(h'.vc i (Nat.lt_of_lt_of_le a b)).trans (h.vc i a),
  λi a=>(h'.bl i (Nat.lt_of_lt_of_le a j)).trans (h.bl i a)⟩
theorem bY.symm {nv n:Nat} {ρ ρ':Env} {ν c:Nat->Addr} (b:bY nv n ρ ρ' ν c):bY nv n ρ' ρ c ν :=
 ⟨λi a=>(b.iv i a).symm,λi a=>(b.bv i a).symm,λi a=>(b.vv i a).symm,λi a=>(b.ic i a).symm,λi a=>(b.bc i a).symm,λi a=>(b.vc i a).symm,λi a=>(b.bl i a).symm⟩
theorem bY.join {nv n:Nat} {ρ ρ':Env} {ν j:Nat->Addr} (h:bY nv n ρ ρ' ν j):ρ.join nv ρ'=ρ':=by
 obtain ⟨a,b,c,d,e,f⟩:=ρ'
 simp only [Env.join,Env.mk.injEq]
 refine ⟨?_,?_,?_,?_,?_,?_⟩ <;> funext i <;> split
 ·rename_i g;exact (h.iv i g).symm
 ·rfl
 ·rename_i g;exact (h.bv i g).symm
 ·rfl
 ·rename_i g;exact (h.vv i g).symm
 ·rfl
 ·rename_i g;exact (h.ic i g).symm
 ·rfl
 ·rename_i g;exact (h.bc i g).symm
 ·rfl
 ·rename_i g;exact (h.vc i g).symm
 ·rfl
theorem jR {nv n:Nat}:∀{c:List SB},sP nv n c=true->∀(k:Nat) (sb:SB),c[k]?=some sb->sb.sc nv n=true
 | [],_,k,sb,h=>by simp at h
 | b :: r,a,k,sb,h=>by
  simp only [sP,Bool.and_eq_true] at a
  cases k with
  | zero=>simp at h;rw [<-h];exact a.1
  | succ k=>exact jR a.2 k sb (by simpa using h)
section
variable {nv n:Nat} {ρ ρ':Env} {ν B:Nat->Addr} (C:bY nv n ρ ρ' ν B)
include C
theorem IE.aT:∀{e:IE},e.sc nv=true->e.den ρ'=e.den ρ:=by
 intro e
 induction e with
 | lit n=>intro _;rfl
 | var i=>intro h;exact C.iv i (by simpa [IE.sc] using h)
 | add a b c d | sub a b c d | mul a b c d | div a b c d | mod a b c d | sK a b c d | imax a b c d =>
  intro h
  simp only [IE.sc,Bool.and_eq_true] at h
  simp only [IE.den,c h.1,d h.2]
 | wrap k a f=>intro h;simp only [IE.den,f (by simpa [IE.sc] using h)]
 | cell r a b j c d =>
  intro h
  simp only [IE.sc,Bool.and_eq_true,Nat.blt_eq] at h
  all_goals grind [IE.den,bY.ic]
theorem BE.aT:∀{e:BE},e.sc nv=true->e.den ρ'=e.den ρ:=by
 intro e
 induction e with
 | lit n=>intro _;rfl
 | var i=>intro h;exact C.bv i (by simpa [BE.sc] using h)
 | not a l=>intro h;simp only [BE.den,l (by simpa [BE.sc] using h)]
 | and a b d f | or a b d f | beq a b d f =>
  intro h
  simp only [BE.sc,Bool.and_eq_true] at h
  simp only [BE.den,d h.1,f h.2]
 | ite a b c d f g =>
  intro h
  simp only [BE.sc,Bool.and_eq_true] at h
  all_goals grind [BE.den]
 | ag a b | ah a b | aY a b =>
  intro h
  simp only [BE.sc,Bool.and_eq_true] at h
  all_goals grind [BE.den,IE.aT]
 | inr k a=>intro h;simp only [BE.den,IE.aT C (show a.sc nv=true by simpa [BE.sc] using h)]
 | cell r a b j =>
  intro h
  simp only [BE.sc,Bool.and_eq_true,Nat.blt_eq] at h
  all_goals grind [BE.den,IE.aT,bY.bc]
theorem SA.aT {a:SA} (h:a.sc nv n=true):a.den ρ' B=a.den ρ ν:=by
 simp only [SA.sc,Bool.and_eq_true,Nat.blt_eq] at h
 all_goals grind [SA.den,SA.off,bY.bl,IE.aT]
theorem SC.aT:∀{c:SC},c.sc nv n=true->c.den ρ' B=c.den ρ ν:=by
 intro c
 induction c with
 | int k e=>intro h;simp only [SC.den,IE.aT C (show e.sc nv=true by simpa [SC.sc] using h)]
 | bool e=>intro h;simp only [SC.den,BE.aT C (show e.sc nv=true by simpa [SC.sc] using h)]
 | val i=>intro h;simp only [SC.sc,Nat.blt_eq] at h;simp only [SC.den,C.vv i h]
 | kV r a b j =>
  intro h
  simp only [SC.sc,Bool.and_eq_true,Nat.blt_eq] at h
  all_goals grind [SC.den,IE.aT,bY.vc]
 | eu k a l c =>
  intro h
  simp only [SC.sc,Bool.and_eq_true] at h
  all_goals grind [SC.den,BE.aT,SA.aT,IE.aT]
 | ptr a=>intro h;simp only [SC.den,SA.aT C (show a.sc nv n=true by simpa [SC.sc] using h)]
 | sl a l c =>
  intro h
  simp only [SC.sc,Bool.and_eq_true] at h
  all_goals grind [SC.den,SA.aT,IE.aT]
 | fn f g =>
  grind [SC.sc,List.all_eq_true,Nat.blt_eq,SC.den,List.map_congr_left,bY.bl]
 | iface t c d=>intro h;simp only [SC.den,d (by simpa [SC.sc] using h)]
 | jH k c d =>
  intro h
  simp only [SC.sc,Bool.and_eq_true] at h
  all_goals grind [SC.den,BE.aT]
 | mp b=>intro h;simp only [SC.sc,Nat.blt_eq] at h;simp only [SC.den,C.bl b h]
 | _=>intro _;rfl
theorem sQ:∀{cs:List SC},rH nv n cs=true->∀c∈cs,c.den ρ' B=c.den ρ ν
 | [],_,_,h=>by cases h
 | c :: r,a,d,h=>by
  simp only [rH,Bool.and_eq_true] at a
  rcases List.mem_cons.1 h with rfl | h
  ·exact SC.aT C a.1
  ·exact sQ a.2 d h
theorem SW.aT {x:SW} (h:x.sc nv n=true):x.den ρ' B=x.den ρ ν:=by
 cases x with
 | one c=>exact sQ C h c (by simp [SW.cells])
 | agg a =>
  simp only [SW.den]
  congr 2
  exact List.map_congr_left (sQ C h)
theorem RI:∀{cs:List SW},Nk nv n cs=true->∀c∈cs,c.den ρ' B=c.den ρ ν
 | [],_,_,h=>by cases h
 | c :: r,a,d,h=>by
  simp only [Nk,Bool.and_eq_true] at a
  rcases List.mem_cons.1 h with rfl | h
  ·exact SW.aT C a.1
  ·exact RI a.2 d h
theorem SV.aT {x:SV} (h:x.sc nv n=true):x.den ρ' B=x.den ρ ν:=by
 cases x with
 | w x=>exact SW.aT C h
 | iB a =>
  simp only [SV.den]
  congr 2
  exact List.map_congr_left (RI C h)
 | gd c x =>
  simp only [SV.sc,Bool.and_eq_true] at h
  all_goals grind [SV.den,BE.aT,SW.aT]
theorem Oz:∀{cs:List BE},Ow nv cs=true->∀c∈cs,c.den ρ'=c.den ρ
 | [],_,_,h=>by cases h
 | c :: r,a,d,h=>by
  simp only [Ow,Bool.and_eq_true] at a
  rcases List.mem_cons.1 h with rfl | h
  ·exact BE.aT C a.1
  ·exact Oz a.2 d h
theorem II:∀{kn:Kn},Gr nv kn=true->Kn.ok ρ kn->Kn.ok ρ' kn
 | [],_,_=>λp a=>by cases a
 | c :: r,b,d=>λp a=>by
  simp only [Gr,Bool.and_eq_true] at b
  rcases List.mem_cons.1 a with rfl | a
  ·rw [BE.aT C b.1];exact d _ (by simp)
  ·exact II b.2 (λq e=>d q (by simp [e])) p a
theorem OA:∀{gs:List aU},IG nv gs=true->∀g∈gs,g.r<nv/\g.n1.den ρ'=g.n1.den ρ
 | [],_,_,h=>by cases h
 | c :: r,a,d,h=>by
  simp only [IG,Bool.and_eq_true,Nat.blt_eq] at a
  rcases List.mem_cons.1 h with rfl | h
  ·exact ⟨a.1.1,IE.aT C a.1.2⟩
  ·exact OA a.2 d h
theorem EO:∀{us:List Up},uY nv n us=true->∀u∈us,u.i1.den ρ'=u.i1.den ρ/\u.i2.den ρ'=u.i2.den ρ/\u.c.den ρ' B=u.c.den ρ ν
 | [],_,_,h=>by cases h
 | c :: r,a,d,h=>by
  simp only [uY,Bool.and_eq_true] at a
  rcases List.mem_cons.1 h with rfl | h
  ·exact ⟨IE.aT C a.1.1.1,IE.aT C a.1.1.2,SC.aT C a.1.2⟩
  ·exact EO a.2 d h
theorem AB:∀{us:List Up},uY nv n us=true->∀g a c j b,dD ρ' B us g a c j b=dD ρ ν us g a c j b
 | [],_=>λ_ _ _ _ _=>rfl
 | u :: r,d=>λg a c j b=>by
  obtain ⟨f,e,h⟩:=EO C d u (by simp)
  simp only [uY,Bool.and_eq_true] at d
  simp only [dD,f,e,h,AB d.2]
theorem aU.Gs (g:aU) (c:g.r<nv) (a b j:Nat):g.base ρ' a b j=g.base ρ a b j:=by
 grind [aU.base,bY.ic,bY.bc,bY.vc]
theorem SB.abU {sb:SB} (a:sb.sc nv n=true) (b:sb.gone=false):sb.nl.den ρ'=sb.nl.den ρ:=by
 simp only [SB.sc,b,Bool.false_or,Bool.and_eq_true] at a
 exact BE.aT C a.2
theorem SB.pG {sb:SB} (a:sb.sc nv n=true):sb.dead ρ'=sb.dead ρ:=by
 grind [SB.dead,SB.abU]
theorem SB.CX {sb:SB} (k:sb.sc nv n=true) (a:sb.gone=false) {cs:Array Value} (h:sb.has ρ ν cs):sb.has ρ' B cs:=by
 simp only [SB.sc,a,Bool.false_or,Bool.and_eq_true] at k
 obtain ⟨⟨⟨⟨r,o⟩,i⟩,b⟩,-⟩:=k
 refine ⟨λu f=>?_,h.size,λe m l=>?_,λp c d t=>?_,λA g a y q j a1 a2 a3=>?_⟩
 ·obtain ⟨z,s,-⟩:=EO C i u f
  rw [z,s];exact h.un u f
 ·rw [l] at b
  rw [IE.aT C b];exact h.cap e m l
 ·rw [sQ C r c (List.mem_of_getElem? d)];exact h.ex p c d t
 ·obtain ⟨w,x⟩:=OA C o g (List.mem_of_getElem? a)
  rw [x] at a1
  rw [AB C i,aU.Gs C g w]
  exact h.sg A g a y q j a1 a2 a3
theorem aD.ext {c:List SB} {w:World} (x:sP nv n c=true) (y:c.length<=n) (h:aD ρ ν c w):aD ρ' B c w:=by
 have e:∀(k:Nat) (sb:SB),c[k]?=some sb->k<n:=by grind
 have hd:∀(k:Nat) (sb:SB),c[k]?=some sb->sb.dead ρ'=false->sb.dead ρ=false:=by grind [SB.pG,jR]
 refine ⟨λi j a b l m o r q z=>h.inj i j a b l m (hd i a l o) (hd j b m r) q ?_,λk sb d f g=>?_,λk sb d f g=>?_⟩
 ·grind [bY.bl]
 ·grind [aD.ak,bY.bl,SB.CX,jR,SB.dZ]
 ·obtain ⟨s,t,u,p⟩:=h.rd k sb d (hd k sb d f) g
  rw [C.bl k (e k sb d)]
  exact ⟨s,t,SB.CX C (jR x k sb d) (SB.dZ f) u,p⟩
end
theorem aD.ext_iff {nv n:Nat} {ρ ρ':Env} {ν c:Nat->Addr} (e:bY nv n ρ ρ' ν c) {a:List SB} {w:World} (d:sP nv n a=true) (b:a.length<=n) :
  aD ρ ν a w↔aD ρ' c a w:=⟨aD.ext e d b,aD.ext e.symm d b⟩
theorem RJ {nv n:Nat}:∀{fr:Fr},Ox nv n fr=true->∀t v,assoc t fr=some v->v.sc nv n=true
 | [],_,t,v,h=>by simp [assoc] at h
 | (k,x) :: r,a,t,v,h=>by
  simp only [Ox,Bool.and_eq_true] at a
  unfold assoc at h
  split at h
  ·simp at h;rw [<-h];exact a.1
  ·exact RJ a.2 t v h
theorem qI.ext {nv n:Nat} {ρ ρ':Env} {ν c:Nat->Addr} (e:bY nv n ρ ρ' ν c) {fr:Fr} {a:Act} (d:Ox nv n fr=true) (h:qI ρ ν fr a):qI ρ' c fr a:=by
 intro t v b
 rw [SV.aT e (RJ d t v b)]
 exact h t v b
def dummy:aU:={r:=0,n1:=.lit 0,ks:=[]}
def IJ:Kd->Kd->Bool
 | .int a,.int b=>lX a b
 | .bool,.bool=>true
 | .val,.val=>true
 | _,_=>false
def mM:List Kd->List Kd->Bool
 | [],[]=>true
 | a :: r,b :: s=>IJ a b && mM r s
 | _,_=>false
def aU.same (a b:aU):Bool:=a.r == b.r && a.n1.same b.n1 && a.s1 == b.s1 && a.n2 == b.n2 && a.s2 == b.s2 && a.lo == b.lo && a.z == b.z && mM a.ks b.ks
def mi:List aU->List aU->Bool
 | [],[]=>true
 | a :: r,b :: s=>a.same b && mi r s
 | _,_=>false
def Up.same (a b:Up):Bool:=a.g == b.g && a.i1.same b.i1 && a.i2.same b.i2 && a.j == b.j && a.c.same b.c
def nZ:List Up->List Up->Bool
 | [],[]=>true
 | a :: r,b :: s=>a.same b && nZ r s
 | _,_=>false
def oq:List SC->List SC->Bool
 | [],[]=>true
 | a :: r,b :: s=>(a.isHole || a.same b) && oq r s
 | _,_=>false
def vM:Option (IE × Nat)->Option (IE × Nat)->Bool
 | none,none=>true
 | some (a,n),some (b,m)=>a.same b && n == m
 | _,_=>false
def SB.wk (a b:SB):Bool :=
 a.gone || (!b.gone && (a.ro == b.ro && ((!a.own || b.own) && (a.nl.same b.nl && (a.t == b.t && ((a.opn || !b.opn) && (vM a.cap b.cap && (oq a.cs b.cs && ((mi a.bz b.bz && nZ a.ups b.ups) || (mi a.bz [dummy] && a.ups.isEmpty))))))))))
def fZ:List SB->List SB->Bool
 | [],_=>true
 | a :: r,b :: s=>a.wk b && fZ r s
 | _ :: _,[]=>false
section
variable {ρ:Env} {ν:Nat->Addr}
theorem RL:∀{a b:List SC},oq a b=true->a.length=b.length/\∀(p:Nat) (c:SC),a[p]?=some c->c.isHole=false->b[p]?=some c
 | [],[],_=>⟨rfl,λp c h=>by simp at h⟩
 | [],_ :: _,h=>by simp [oq] at h
 | _ :: _,[],h=>by simp [oq] at h
 | x :: a,y :: b,h=>by
  simp only [oq,Bool.and_eq_true,Bool.or_eq_true] at h
  obtain ⟨g,f⟩:=RL h.2
  refine ⟨by simp [g],λp c d e=>?_⟩
  cases p with
  | zero =>
   simp at d
   subst d
   rcases h.1 with h | h
   ·rw [e] at h;cases h
   ·rw [SC.aA h];rfl
  | succ p=>exact f p c (by simpa using d) e
theorem WJ {a b:Kd} (h:IJ a b=true):a=b:=by
 cases a <;> cases b <;> simp [IJ] at h
 ·rw [jK h]
 ·rfl
 ·rfl
theorem rJ:∀{a b:List Kd},mM a b=true->a=b
 | [],[],_=>rfl
 | [],_ :: _,h=>by simp [mM] at h
 | _ :: _,[],h=>by simp [mM] at h
 | x :: a,y :: b,h=>by
  simp only [mM,Bool.and_eq_true] at h
  rw [WJ h.1,rJ h.2]
theorem aU.aA {a b:aU} (h:a.same b=true):a=b:=by
 obtain ⟨_,_,_,_,_,_,_,_⟩:=a
 obtain ⟨_,_,_,_,_,_,_,_⟩:=b
 simp only [aU.same,Bool.and_eq_true,beq_iff_eq] at h
 all_goals grind [IE.aA,rJ]
theorem qf:∀{a b:List aU},mi a b=true->a=b
 | [],[],_=>rfl
 | [],_ :: _,h=>by simp [mi] at h
 | _ :: _,[],h=>by simp [mi] at h
 | x :: a,y :: b,h=>by
  simp only [mi,Bool.and_eq_true] at h
  rw [aU.aA h.1,qf h.2]
theorem Up.aA {a b:Up} (h:a.same b=true):a=b:=by
 obtain ⟨_,_,_,_,_⟩:=a
 obtain ⟨_,_,_,_,_⟩:=b
 simp only [Up.same,Bool.and_eq_true,beq_iff_eq] at h
 all_goals grind [IE.aA,SC.aA]
theorem uZ:∀{a b:List Up},nZ a b=true->a=b
 | [],[],_=>rfl
 | [],_ :: _,h=>by simp [nZ] at h
 | _ :: _,[],h=>by simp [nZ] at h
 | x :: a,y :: b,h=>by
  simp only [nZ,Bool.and_eq_true] at h
  rw [Up.aA h.1,uZ h.2]
theorem AJ {a b:Option (IE × Nat)} (h:vM a b=true):a=b:=by
 unfold vM at h
 split at h
 ·rfl
 ·simp only [Bool.and_eq_true,beq_iff_eq] at h
  rw [IE.aA h.1,h.2]
 ·cases h
theorem SB.IL {a b:SB} (h:a.wk b=true) (C:a.gone=false):b.gone=false/\a.nl=b.nl/\a.ro=b.ro/\(a.own=true->b.own=true)/\a.t=b.t/\∀arr,b.has ρ ν arr->a.has ρ ν arr:=by
 simp only [SB.wk,C,Bool.false_or,Bool.and_eq_true,Bool.not_eq_true',Bool.or_eq_true,beq_iff_eq] at h
 obtain ⟨D,q,d,w,B,J,z,E,k⟩:=h
 obtain ⟨F,A⟩:=RL E
 refine ⟨D,BE.aA w,q,λh=>by rcases d with d | d <;> simp_all,B,λarr f=>?_⟩
 rcases k with ⟨k,r⟩ | ⟨k,r⟩
 ·have x:=qf k
  have s:=uZ r
  refine ⟨λu l=>f.un u (s ▸ l),λm I=>?_,λe n y=>f.cap e n (AJ z ▸ y),λp c t i=>f.ex p c (A p c t i) i,λG g o=>?_⟩
  ·rw [F]
   refine f.size (x ▸ m) ?_
   all_goals grind
  all_goals grind [SB.has.sg]
 ·have x:=qf k
  have s:a.ups=[]:=by simpa using r
  refine ⟨λu l=>(by rw [s] at l;cases l),λm=>(by rw [x] at m;cases m),λe n y=>f.cap e n (AJ z ▸ y),λp c t i=>f.ex p c (A p c t i) i,λG g o K H j a1 a2 a3=>?_⟩
  all_goals grind [dummy]
theorem zm:∀{sc c:List SB},fZ sc c=true->∀(k:Nat) (a:SB),sc[k]?=some a->∃b,c[k]?=some b/\a.wk b=true
 | [],_,_,k,a,h=>by simp at h
 | _ :: _,[],h,_,_,_=>by simp [fZ] at h
 | x :: sc,y :: c,h,k,a,d=>by
  simp only [fZ,Bool.and_eq_true] at h
  cases k with
  | zero=>simp at d;subst d;exact ⟨y,rfl,h.1⟩
  | succ k =>
   obtain ⟨b,f,e⟩:=zm h.2 k a (by simpa using d)
   exact ⟨b,by simpa using f,e⟩
theorem SB.RN {a b:SB} (h:a.wk b=true) (c:a.gone=false):a.bz=[]->b.bz=[]:=by
 simp only [SB.wk,c,Bool.false_or,Bool.and_eq_true,Bool.not_eq_true',Bool.or_eq_true,beq_iff_eq] at h
 all_goals grind [qf]
theorem SB.EP {a b:SB} (h:a.wk b=true) (c:a.dead ρ=false):b.dead ρ=false:=by
 obtain ⟨e,d,-⟩:=SB.IL (ρ:=ρ) (ν:=λ_=>⟨0,0,none⟩) h (SB.dZ c)
 all_goals grind [SB.dead]
theorem ES {sc f:List SB} {w:World} (h:fZ sc f=true) (t:aD ρ ν f w):aD ρ ν sc w:=by
 refine ⟨λi j a b u x n z y E=>?_,λk a e c g=>?_,λk a e c g=>?_⟩
 ·obtain ⟨B,F,r⟩:=zm h i a u
  obtain ⟨A,d,wb⟩:=zm h j b x
  obtain ⟨D,-,C,-⟩:=SB.IL (ρ:=ρ) (ν:=ν) r (SB.dZ n)
  all_goals grind [aD.inj,aU.inj,SB.EP]
 ·obtain ⟨b,d,wb⟩:=zm h k a e
  obtain ⟨s,-,l,-,g2,m⟩:=SB.IL (ρ:=ρ) (ν:=ν) wb (SB.dZ c)
  all_goals grind [aD.ak,SB.EP]
 ·obtain ⟨b,d,wb⟩:=zm h k a e
  obtain ⟨s,-,l,-,g2,m⟩:=SB.IL (ρ:=ρ) (ν:=ν) wb (SB.dZ c)
  obtain ⟨p,arr,q,o⟩:=t.rd k b d (SB.EP wb c) (l ▸ g)
  refine ⟨p.of (SB.RN wb (SB.dZ c)) g2 (Nat.le_refl _) rfl,arr,m arr q,o⟩
end
theorem uj (k:IntKind):lX k k=true:=by cases k <;> rfl
theorem IE.fF:∀e:IE,e.same e=true:=by
 intro e
 induction e <;> simp_all [IE.same,uj]
theorem BE.fF:∀e:BE,e.same e=true:=by
 intro e
 induction e <;> simp_all [BE.same,IE.fF,uj]
theorem SA.fF (a:SA):a.same a=true:=by simp [SA.same,IE.fF]
theorem SC.fF:∀e:SC,e.same e=true:=by
 intro e
 induction e <;> simp_all [SC.same,IE.fF,BE.fF,SA.fF,uj]
theorem L8:∀l:List SC,oq l l=true
 | []=>rfl
 | c :: r=>by simp [oq,SC.fF,L8 r]
theorem CY:∀l:List Kd,mM l l=true
 | []=>rfl
 | c :: r=>by cases c <;> simp [mM,IJ,uj,CY r]
theorem Ci:∀l:List aU,mi l l=true
 | []=>rfl
 | c :: r=>by simp [mi,aU.same,IE.fF,CY,Ci r]
theorem CZ:∀l:List Up,nZ l l=true
 | []=>rfl
 | c :: r=>by simp [nZ,Up.same,IE.fF,SC.fF,CZ r]
theorem OB (c:Option (IE × Nat)):vM c c=true:=by
 cases c with
 | none=>rfl
 | some p=>simp [vM,IE.fF]
theorem SB.qV (a:SB):a.wk a=true:=by
 simp [SB.wk,L8,Ci,CZ,OB,BE.fF]
theorem Kr:∀{sc c:List SB},sc.length<=c.length->(∀(k:Nat) (a b:SB),sc[k]?=some a->c[k]?=some b->a.wk b=true)->fZ sc c=true
 | [],_,_,_=>by simp [fZ]
 | _ :: _,[],h,_=>by simp at h
 | x :: sc,y :: c,e,h=>by
  simp only [fZ,Bool.and_eq_true]
  exact ⟨h 0 x y rfl rfl,Kr (by simpa using e) λk a b d f=>h (k+1) a b (by simpa using d) (by simpa using f)⟩
def dS:SB:={t:=0,gone:=true}
theorem L9 (b:SB):dS.wk b=true:=rfl
def rM (lo n:Nat):List SC->List SC->Nat->List SC
 | _,[],_=>[]
 | [],b :: d,i=>(if Nat.ble lo i && Nat.blt i (lo+n) then b else .hole) :: rM lo n [] d (i+1)
 | a :: c,b :: d,i=>(if (Nat.ble lo i && Nat.blt i (lo+n)) || !a.isHole then b else .hole) :: rM lo n c d (i+1)
theorem C8 {lo n:Nat}:∀{aS0 c:List SC} {i:Nat},oq (rM lo n aS0 c i) c=true
 | _,[],_=>by simp [rM,oq]
 | [],b :: c,i=>by
  simp only [rM,oq,Bool.and_eq_true]
  refine ⟨?_,C8⟩
  split
  ·simp [SC.fF]
  ·rfl
 | a :: aS0,b :: c,i=>by
  simp only [rM,oq,Bool.and_eq_true]
  refine ⟨?_,C8⟩
  split
  ·simp [SC.fF]
  ·rfl
theorem Ma {lo n:Nat}:∀{aS0 c:List SC} {i:Nat},oq aS0 c=true->oq aS0 (rM lo n aS0 c i)=true
 | [],[],_,_=>rfl
 | [],b :: c,_,h=>by simp [oq] at h
 | a :: aS0,[],_,h=>by simp [oq] at h
 | a :: aS0,b :: c,i,h=>by
  simp only [oq,Bool.and_eq_true] at h
  simp only [rM,oq,Bool.and_eq_true]
  refine ⟨?_,Ma h.2⟩
  cases d:a.isHole with
  | true=>rfl
  | false =>
   have:=h.1
   rw [d] at this
   simpa using this
def SB.mask (m:Option (Nat × Nat)) (a b:SB):SB :=
 match m with
 | some (c,n)=>if b.bz.isEmpty then {b with cs:=rM c n (if a.gone then [] else a.cs) b.cs 0} else if a.gone then b else a
 | none=>if a.gone then b else a
theorem SB.RO {m:Option (Nat × Nat)} {a b:SB} (h:a.wk b=true):(a.mask m b).wk b=true:=by
 unfold SB.mask
 split
 ·split
  ·have c:=SB.qV b
   unfold SB.wk at c ⊢
   simp only [Bool.or_eq_true,Bool.and_eq_true] at c ⊢
   all_goals grind [C8]
  all_goals grind [SB.qV]
 all_goals grind [SB.qV]
theorem SB.ad8 {m:Option (Nat × Nat)} {a b:SB} (h:a.wk b=true):a.wk (a.mask m b)=true:=by
 unfold SB.mask
 cases c:a.gone with
 | true=>simp [SB.wk,c]
 | false =>
  simp only [Bool.false_eq_true,if_false]
  split
  ·split
   ·unfold SB.wk at h ⊢
    simp only [c,Bool.false_or,Bool.and_eq_true] at h ⊢
    all_goals grind [Ma]
   ·exact SB.qV a
  ·exact SB.qV a
def hold (m:Option (Nat × Nat)):List SB->List SB->Nat->List SB
 | [],b :: _,0=>[dS.mask m b]
 | [],_ :: c,k+1=>dS :: hold m [] c k
 | a :: sc,b :: c,0=>a.mask m b :: sc
 | a :: sc,_ :: c,k+1=>a :: hold m sc c k
 | sc,[],_=>sc
theorem Kt {m:Option (Nat × Nat)}:∀{sc c:List SB} {k:Nat},fZ sc c=true->fZ (hold m sc c k) c=true
 | [],b :: c,0,_=>by simp [hold,fZ,SB.RO (L9 b)]
 | [],b :: c,k+1,_=>by simp only [hold,fZ,L9,Bool.true_and];exact Kt (sc:=[]) (by simp [fZ])
 | a :: sc,b :: c,0,h=>by
  simp only [fZ,Bool.and_eq_true] at h
  simp [hold,fZ,SB.RO h.1,h.2]
 | a :: sc,b :: c,k+1,h=>by
  simp only [fZ,Bool.and_eq_true] at h
  simp only [hold,fZ,Bool.and_eq_true]
  exact ⟨h.1,Kt h.2⟩
 | [],[],_,_=>by simp [hold,fZ]
 | _ :: _,[],_,h=>by simp [fZ] at h
theorem Mc {m:Option (Nat × Nat)}:∀{sc c:List SB} {k:Nat},fZ sc c=true->fZ sc (hold m sc c k)=true
 | [],_,_,_=>by simp [fZ]
 | a :: sc,b :: c,0,h=>by
  simp only [fZ,Bool.and_eq_true] at h
  simp only [hold,fZ,Bool.and_eq_true]
  exact ⟨SB.ad8 h.1,Kr (Nat.le_refl _) λk x y e d=>by rw [e] at d;cases d;exact SB.qV x⟩
 | a :: sc,b :: c,k+1,h=>by
  simp only [fZ,Bool.and_eq_true] at h
  simp only [hold,fZ,Bool.and_eq_true]
  exact ⟨SB.qV a,Mc h.2⟩
 | a :: sc,[],_,h=>by simp [fZ] at h
end Go.Rex
