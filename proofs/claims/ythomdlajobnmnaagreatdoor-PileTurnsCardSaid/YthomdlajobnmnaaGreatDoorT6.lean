/- part 6 of the proof -/
import Derived.Test.YthomdlajobnmnaaGreatDoorT4
set_option linter.unusedSimpArgs false
set_option linter.unusedVariables false
namespace Go.Rex
structure bU (w0:World) (W:Nat→Prop) (w:World):Prop where
 os:w.os=w0.os
 tape:w.tape=w0.tape
 output:w.output=w0.output
 size:w0.heap.size≤w.heap.size
 block:∀k,k<w0.heap.size→¬W k→w.heap[k]?=w0.heap[k]?
theorem bU.refl (w:World) (W:Nat→Prop):bU w W w:=⟨rfl,rfl,rfl,Nat.le_refl _,fun _ _ _=>rfl⟩
theorem bU.step {w0 w w':World} {W:Nat→Prop} (h:bU w0 W w) (h1:w'.os=w.os) (h2:w'.tape=w.tape) (h3:w'.output=w.output) (h4:w.heap.size≤w'.heap.size)
  (h5:∀k,k<w0.heap.size→¬W k→w'.heap[k]?=w.heap[k]?):bU w0 W w' :=
 ⟨h1.trans h.os,h2.trans h.tape,h3.trans h.output,Nat.le_trans h.size h4,fun k hk hn=>(h5 k hk hn).trans (h.block k hk hn)⟩
def jR (z:Nat) (W:Nat→Prop) (ρ:Env) (ν:Nat→Addr) (hp:List SB):Prop :=
 ∀(k:Nat) (sb:SB),hp[k]?=some sb→sb.own=true→sb.dead ρ=false→z≤(ν k).block∨W (ν k).block
def iN (ρ:Env) (ν:Nat→Addr) (hp:List SB) (b:Nat):Prop:=∃(k:Nat) (sb:SB),hp[k]?=some sb∧sb.own=true∧sb.dead ρ=false∧b=(ν k).block
structure bf (P:Program) (k:dX) (pre post:Env→Prop):Prop where
 fn:∃fn,P.funcs[k.f]?=some fn∧fn.body.isSome=true∧(fn.name == "runtime.NumGoroutine")=false
 run:∀ρ ν w,aK ρ ν k.hp w→jm ν k.gl→pre ρ.num→Calls P k.f (k.args.map (·.den ρ ν)).toArray w fun e w' =>
  ∃ρ' aI,di k.nv k.hp.length ρ ρ' ν aI∧e=.returned (k.ret.den ρ' aI)∧aK ρ' aI k.hp' w'∧bU w (iN ρ ν k.hp) w'∧jR w.heap.size (iN ρ ν k.hp) ρ' aI k.hp'∧post ρ'.num
def yF:List SB→List SB→Bool
 | [],_=>true
 | T :: r,[]=>!T.own && yF r []
 | T :: r,U :: s=>(!T.own || U.gone || (!T.ro && !U.ro && T.nl.same U.nl)) && yF r s
def Dw:List SB→Bool
 | []=>true
 | T :: r=>(T.gone || (T.own && !T.ro)) && Dw r
def jG (k:dX):Bool:=Nat.ble k.nv k.jc && Nat.ble k.hp.length k.hp'.length && nR k.nv k.hp.length k.hp && yF k.hp k.hp' && Dw (k.hp'.drop k.hp.length)
structure wu where
 w:World
 W:Nat→Prop
 ρ:Env
 ν:Nat→Addr
 nv:Nat
 n:Nat
structure pY (T:aX) (ρ:Env) (ν:Nat→Addr) (F:aY) (a:Act) (S:World→Prop):Prop where
 fr:mY ρ ν F.fr a
 tmps:T.ntmps F.f≤a.tmps.size
 defers:a.defers=[]
 held:∀p k sc d,F.cur=.dr p k sc d→∀w,S w↔aK ρ ν sc w
abbrev AS:=Act × (World→Prop)
def yG (T:aX) (ρ:Env) (ν:Nat→Addr):List (aY × Nat)→List AS→Prop
 | [],[]=>True
 | x :: r,y :: s=>pY T ρ ν x.1 y.1 y.2∧yG T ρ ν r s
 | _,_=>False
structure Rel (T:aX) (B:wu) (ρ:Env) (ν:Nat→Addr) (c:bY) (a:AS) (aS0:List AS) (w:World):Prop where
 nv:B.nv≤c.nv
 n:B.n≤c.hp.length
 gM:di B.nv B.n B.ρ ρ B.ν ν
 kn:Kn.ok ρ c.kn
 gl:jm ν c.gl
 hp:aK ρ ν c.hp w
 wr:bU B.w B.W w
 own:jR B.w.heap.size B.W ρ ν c.hp
 top:pY T ρ ν c.top a.1 a.2
 dz:yG T ρ ν c.dz aS0
 held:∀p k sc,c.top.cur=.dr p k sc false→fO sc c.hp=true
theorem jR.ext {z:Nat} {W:Nat→Prop} {nv n:Nat} {ρ ρ':Env} {ν aI:Nat→Addr} {hp:List SB} (h:jR z W ρ ν hp) (hA:di nv n ρ ρ' ν aI) (hs:nR nv n hp=true) (hl:hp.length≤n):jR z W ρ' aI hp:=by
 intro k sb hk ho hd
 rw [hA.bl k (Nat.lt_of_lt_of_le (List.getElem?_eq_some_iff.1 hk).1 hl)]
 exact h k sb hk ho (by rwa [SB.jY hA (gQ hs k sb hk)] at hd)
theorem pY.ext {T:aX} {nv n:Nat} {ρ ρ':Env} {ν aI:Nat→Addr} (hA:di nv n ρ ρ' ν aI) {F:aY} {a:Act} {S:World→Prop} (hs:F.sc nv n=true) (h:pY T ρ ν F a S) :
  pY T ρ' aI F a S:=by
 simp only [aY.sc,Bool.and_eq_true] at hs
 refine ⟨mY.ext hA hs.1 h.fr,h.tmps,h.defers,fun p k sc d hc w=>?_⟩
 have h2:=hs.2
 rw [hc] at h2
 simp only [Bool.and_eq_true,Nat.ble_eq] at h2
 rw [h.held p k sc d hc w]
 exact aK.ext_iff hA h2.1 h2.2
theorem yG.ext {T:aX} {nv n:Nat} {ρ ρ':Env} {ν aI:Nat→Addr} (hA:di nv n ρ ρ' ν aI):∀{st:List (aY × Nat)} {aS0:List AS},wh nv n st=true→yG T ρ ν st aS0→yG T ρ' aI st aS0
 | [],[],_,_=>trivial
 | [],_ :: _,_,h=>h
 | _ :: _,[],_,h=>h
 | x :: r,y :: s,hs,h=>by
  simp only [wh,Bool.and_eq_true] at hs
  exact ⟨pY.ext hA hs.1 h.1,yG.ext hA hs.2 h.2⟩
theorem jm.ext {nv n:Nat} {ρ ρ':Env} {ν aI:Nat→Addr} (hA:di nv n ρ ρ' ν aI) {gl:List (Nat × Nat)} (hs:Bu n gl=true) (h:jm ν gl):jm aI gl:=by
 have lt:∀g k,assoc g gl=some k→k<n:=by
  intro g k hk
  have hm:=jC hk
  clear h hk
  induction gl with
  | nil=>cases hm
  | cons x r ih =>
   simp only [Bu,Bool.and_eq_true,Nat.blt_eq] at hs
   rcases List.mem_cons.1 hm with rfl | hm
   ·exact hs.1
   ·exact ih hs.2 hm
 refine ⟨fun g k hg hk=>?_,fun g g' k k' h1 h2 h3 h4 hne=>?_⟩
 ·rw [hA.bl k (lt g k hk)]
  exact h.at_ g k hg hk
 ·rw [hA.bl k (lt g k h3),hA.bl k' (lt g' k' h4)]
  exact h.ne g g' k k' h1 h2 h3 h4 hne
theorem Rel.ext {T:aX} {B:wu} {ρ ρ':Env} {ν aI:Nat→Addr} {c:bY} {a:AS} {aS0:List AS} {w:World} (h:Rel T B ρ ν c a aS0 w) (hs:c.sc=true)
  (hA:di c.nv c.hp.length ρ ρ' ν aI):Rel T B ρ' aI c a aS0 w:=by
 simp only [bY.sc,Bool.and_eq_true] at hs
 obtain ⟨⟨⟨⟨h1,h2⟩,h3⟩,h4⟩,h5⟩:=hs
 exact ⟨h.nv,h.n,h.gM.trans hA h.nv h.n,CZ hA h1 h.kn,h.gl.ext hA h5,aK.ext hA h2 (Nat.le_refl _) h.hp,h.wr,h.own.ext hA h2 (Nat.le_refl _),h.top.ext hA h3,h.dz.ext hA h4,h.held⟩
def yH (P:Program) (ops:Array Oper) (Q:Exit→Act→World→Prop) (S:World→Prop):eT→Array Bool→Act→World→Prop
 | .go i k,listed,a,w=>wpOp P ops Q i (fun a' w'=>(asked k.kr (listed.setIfInBounds i true)→S w')∧iP P .any ops Q S k.kr k.size (listed.setIfInBounds i true) a' w') a w
 | s,listed,a,w=>iP P .any ops Q S s.kr s.size listed a w
theorem lI {P:Program} {ops:Array Oper} {Q:Exit→Act→World→Prop} {S:World→Prop} {s:eT} (h:s.lG=false) {listed:Array Bool} {a:Act} {w:World} :
  yH P ops Q S s listed a w↔iP P .any ops Q S s.kr s.size listed a w:=by
 cases s <;> first | exact Iff.rfl | (cases h)
def dV (P:Program) (T:aX) (R:Ending→World→Prop) (F:aY) (a:AS) (w:World):Prop :=
 let k:=F.todo.map (SI.iT (T.body F.f))
 match F.cur with
 | .none=>Reach P F.f R a.1 k w
 | .reg p i=>wpOps P (T.ops F.f p) (jE P F.f R k) (List.range' i ((T.ops F.f p).size-i)) a.1 w
 | .dr p s _ _=>(s.ym=false→a.2 w)∧∀listed:Array Bool,Region.noSelect (T.ops F.f p)=true→oV (T.ops F.f p) listed s→yH P (T.ops F.f p) (jE P F.f R k) a.2 s listed a.1 w
def RK (P:Program) (T:aX) (R:Ending→World→Prop):List (aY × Nat)→List AS→Ending→World→Prop
 | [],_,e,w=>R e w
 | (G,i) :: st,a :: aS0,e,w=>∃v,e=.returned v∧dV P T (RK P T R st aS0) (G.eu i) (a.1.put (((T.ops G.f G.yz)[i]?).bind (·.dst)) v,a.2) w
 | _ :: _,[],_,_=>False
def Goal (P:Program) (T:aX) (R:Ending→World→Prop) (c:bY) (a:AS) (aS0:List AS) (w:World):Prop :=
 dV P T (RK P T R c.dz aS0) c.top a w
def aZ (σ:Sub) (m d:Nat) (ρ ρ':Env):Env where
 iv:=fun i=>if i<m then (σ.ag ρ).iv i else ρ'.iv (i-m+d)
 bv:=fun i=>if i<m then (σ.ag ρ).bv i else ρ'.bv (i-m+d)
 ic:=fun i=>if i<m then (σ.ag ρ).ic i else ρ'.ic (i-m+d)
 bc:=fun i=>if i<m then (σ.ag ρ).bc i else ρ'.bc (i-m+d)
def Sat (post:Env→Prop) (cs:List (dX × (Env→Prop) × (Env→Prop))):List (Env→Prop)→Env→Out→Prop
 | _,ρ,.fin σ=>post (σ.ag ρ)
 | _,_,.stop _=>False
 | Γ,ρ,.br c t e=>(c.den ρ=true→Sat post cs Γ ρ t)∧(c.den ρ=false→Sat post cs Γ ρ e)
 | Γ,ρ,.ob b k=>b.den ρ=true∧(b.den ρ=true→Sat post cs Γ ρ k)
 | Γ,ρ,.alt a b=>Sat post cs Γ ρ a∧Sat post cs Γ ρ b
 | Γ,ρ,.new nv fs k=>∀e:Env,(∀f∈fs,f.den (ρ.join nv e))→Sat post cs Γ (ρ.join nv e) k
 | Γ,ρ,.loop nv σ k=>∃(Inv:Env→Prop) (m:Env→Nat),Inv (σ.ag ρ)∧∀e:Env,Inv (ρ.join nv e).num→Sat post cs ((fun ρ'=>Inv ρ'∧m ρ'<m (ρ.join nv e).num) :: Γ) (ρ.join nv e) k
 | Γ,ρ,.back i σ=>∃G,Γ[i]?=some G∧G (σ.ag ρ)
 | Γ,ρ,.call g σ nv k=>∃c pre post',cs[g]?=some (c,pre,post')∧pre (σ.ag ρ)∧∀e:Env,post' (aZ σ c.nv nv ρ (ρ.join nv e))→Sat post cs Γ (ρ.join nv e) k
 | _,_,.bad _=>False
end Go.Rex
