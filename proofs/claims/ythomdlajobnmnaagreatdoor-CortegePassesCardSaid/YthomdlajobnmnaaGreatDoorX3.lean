/- part 3 of the proof -/
import Derived.Test.YthomdlajobnmnaaGreatDoorX2
set_option linter.unusedSimpArgs false
set_option linter.unusedVariables false
namespace Go.Rex
inductive CV where
 | up (g:ae) (gi:Nat) (us:List Up) (sh:IE)
 | ex (cs:List SC) (s1 s2 lo:Nat)
 deriving Inhabited
def SC.I (ρ:Env):SC→Int
 | .int _ e=>e.den ρ
 | _=>0
def SC.B (ρ:Env):SC→Bool
 | .bool b=>b.den ρ
 | _=>false
def aj (ρ:Env):List Up→Nat→Nat→Nat→Nat→Int→Int
 | [],_,_,_,_,b=>b
 | u :: r,g,i1,i2,j,b =>
  if u.g=g∧(u.i1.den ρ).toNat=i1∧(u.i2.den ρ).toNat=i2∧u.j=j then u.c.I ρ else aj ρ r g i1 i2 j b
def ak (ρ:Env):List Up→Nat→Nat→Nat→Nat→Bool→Bool
 | [],_,_,_,_,b=>b
 | u :: r,g,i1,i2,j,b =>
  if u.g=g∧(u.i1.den ρ).toNat=i1∧(u.i2.den ρ).toNat=i2∧u.j=j then u.c.B ρ else ak ρ r g i1 i2 j b
def ae.I (ρ:Env) (g:ae) (i1 i2 j:Nat):Int:=if g.z then 0 else ρ.ic g.r i1 i2 j
def ae.B (ρ:Env) (g:ae) (i1 i2 j:Nat):Bool:=if g.z then false else ρ.bc g.r i1 i2 j
def CV.I (ρ:Env):CV→Nat→Nat→Nat→Int
 | .up g gi us sh,i1,i2,j=>aj ρ us gi ((sh.den ρ).toNat+i1) i2 j (g.I ρ ((sh.den ρ).toNat+i1) i2 j)
 | .ex cs s1 s2 lo,i1,i2,j=>(cs.getD (i1 * s1+i2 * s2+lo+j) .hole).I ρ
def CV.B (ρ:Env):CV→Nat→Nat→Nat→Bool
 | .up g gi us sh,i1,i2,j=>ak ρ us gi ((sh.den ρ).toNat+i1) i2 j (g.B ρ ((sh.den ρ).toNat+i1) i2 j)
 | .ex cs s1 s2 lo,i1,i2,j=>(cs.getD (i1 * s1+i2 * s2+lo+j) .hole).B ρ
def CV.V (ρ:Env) (ν:Nat→Addr):CV→Nat→Nat→Nat→Value
 | .up g gi us sh,i1,i2,j=>cK ρ ν us gi ((sh.den ρ).toNat+i1) i2 j (g.base ρ ((sh.den ρ).toNat+i1) i2 j)
 | .ex cs s1 s2 lo,i1,i2,j=>(cs.getD (i1 * s1+i2 * s2+lo+j) .hole).den ρ ν
def nC:Kd→SC→Bool
 | .int k,.int l _=>j4 k l
 | .bool,.bool _=>true
 | .val,c=>!c.isHole
 | _,_=>false
def mI (ks:List Kd) (gi:Nat):List Up→Bool
 | []=>true
 | u :: r=>(!(u.g == gi) || (match ks[u.j]? with | some k=>nC k u.c | none=>true)) && mI ks gi r
theorem Jy {k:IntKind} {c:SC} (h:nC (.int k) c=true) (ρ:Env) (ν:Nat→Addr):c.den ρ ν=.int k (c.I ρ):=by
 cases c <;> simp [nC] at h
 rw [iL h];rfl
theorem FN {c:SC} (h:nC .bool c=true) (ρ:Env) (ν:Nat→Addr):c.den ρ ν=.bool (c.B ρ):=by
 cases c <;> simp [nC] at h
 rfl
theorem Jz {c:SC} (h:nC .val c=true) (ρ:Env) (ν:Nat→Addr):(c.den ρ ν).oneCell'=true:=by
 refine SC.sI c ?_
 cases c <;> simp_all [nC,SC.isHole]
section
variable {ρ:Env} {ν:Nat→Addr} {ks:List Kd} {gi:Nat}
theorem FO {k:IntKind} {i1 i2 j:Nat} {b:Int} (hj:ks[j]?=some (.int k)):∀{us:List Up},mI ks gi us=true →
  cK ρ ν us gi i1 i2 j (.int k b)=.int k (aj ρ us gi i1 i2 j b)
 | [],_=>rfl
 | u :: r,h=>by
  simp only [mI,Bool.and_eq_true,Bool.or_eq_true,Bool.not_eq_true',beq_eq_false_iff_ne,ne_eq] at h
  unfold cK aj
  split
  ·rename_i hc
   obtain ⟨e1,-,-,e2⟩:=hc
   rcases h.1 with h1 | h1
   ·exact absurd e1 h1
   ·rw [e2,hj] at h1
    exact Jy h1 ρ ν
  ·exact FO hj h.2
theorem Dy {i1 i2 j:Nat} {b:Bool} (hj:ks[j]?=some .bool):∀{us:List Up},mI ks gi us=true →
  cK ρ ν us gi i1 i2 j (.bool b)=.bool (ak ρ us gi i1 i2 j b)
 | [],_=>rfl
 | u :: r,h=>by
  simp only [mI,Bool.and_eq_true,Bool.or_eq_true,Bool.not_eq_true',beq_eq_false_iff_ne,ne_eq] at h
  unfold cK ak
  split
  ·rename_i hc
   obtain ⟨e1,-,-,e2⟩:=hc
   rcases h.1 with h1 | h1
   ·exact absurd e1 h1
   ·rw [e2,hj] at h1
    exact FN h1 ρ ν
  ·exact Dy hj h.2
theorem FP {i1 i2 j:Nat} {b:Value} (hb:b.oneCell'=true) (hj:ks[j]?=some .val):∀{us:List Up},mI ks gi us=true →
  (cK ρ ν us gi i1 i2 j b).oneCell'=true
 | [],_=>hb
 | u :: r,h=>by
  simp only [mI,Bool.and_eq_true,Bool.or_eq_true,Bool.not_eq_true',beq_eq_false_iff_ne,ne_eq] at h
  unfold cK
  split
  ·rename_i hc
   obtain ⟨e1,-,-,e2⟩:=hc
   rcases h.1 with h1 | h1
   ·exact absurd e1 h1
   ·rw [e2,hj] at h1
    exact Jz h1 ρ ν
  ·exact FP hb hj h.2
def om (kd:Option Kd) (i:Int) (b:Bool) (v:Value):Value :=
 match kd with
 | some (.int k)=>.int k i
 | some .bool=>.bool b
 | _=>xS v
theorem ae.CJ (g:ae) (hz:g.z=false) (i1 i2 j:Nat):g.base ρ i1 i2 j=om g.ks[j]? (ρ.ic g.r i1 i2 j) (ρ.bc g.r i1 i2 j) (ρ.vc g.r i1 i2 j):=by
 unfold ae.base om
 rw [hz]
 rfl
theorem Rh {g:ae} {us:List Up} {i1 i2 j:Nat} (hj:j<g.ks.length) (hf:mI g.ks gi us=true) :
  cK ρ ν us gi i1 i2 j (g.base ρ i1 i2 j)=om g.ks[j]? (aj ρ us gi i1 i2 j (g.I ρ i1 i2 j)) (ak ρ us gi i1 i2 j (g.B ρ i1 i2 j)) (cK ρ ν us gi i1 i2 j (g.base ρ i1 i2 j)):=by
 have hjs:g.ks[j]?=some g.ks[j]:=List.getElem?_eq_getElem hj
 cases hk:g.ks[j] with
 | int k =>
  rw [hk] at hjs
  have hb:g.base ρ i1 i2 j=.int k (g.I ρ i1 i2 j):=by unfold ae.base;rw [hjs];rfl
  rw [hjs,hb,FO hjs hf]
  rfl
 | bool =>
  rw [hk] at hjs
  have hb:g.base ρ i1 i2 j=.bool (g.B ρ i1 i2 j):=by unfold ae.base;rw [hjs];rfl
  rw [hjs,hb,Dy hjs hf]
  rfl
 | val =>
  rw [hk] at hjs
  rw [hjs]
  have hb:(g.base ρ i1 i2 j).oneCell'=true:=by unfold ae.base;rw [hjs];exact DV _
  simp only [om]
  rw [Cw (FP hb hjs hf)]
theorem Us {kd:Kd} {c:SC} (h:nC kd c=true):c.den ρ ν=om (some kd) (c.I ρ) (c.B ρ) (c.den ρ ν):=by
 cases kd with
 | int k=>simpa [om] using Jy h ρ ν
 | bool=>simpa [om] using FN h ρ ν
 | val=>simp only [om];rw [Cw (Jz h ρ ν)]
end
structure Sub where
 lo:Nat
 ah:Nat
 iv:List (Nat × IE):=[]
 bv:List (Nat × BE):=[]
 vv:List (Nat × SC):=[]
 ct:List (Nat × CV):=[]
 bk:List (Nat × SA):=[]
 nb:List Nat:=[]
 deriving Inhabited
def Env.num (ρ:Env):Env:={ρ with vv:=fun _=>undef,vc:=fun _ _ _ _=>undef}
def Sub.ag (σ:Sub) (ρ:Env):Env where
 iv:=fun i=>if i<σ.lo then ρ.iv i else match assoc i σ.iv with | some e=>e.den ρ | none=>0
 bv:=fun i=>if i<σ.lo then ρ.bv i else match assoc i σ.bv with | some e=>e.den ρ | none=>false
 ic:=fun r=>if r<σ.lo then ρ.ic r else match assoc r σ.ct with | some c=>c.I ρ | none=>fun _ _ _=>0
 bc:=fun r=>if r<σ.lo then ρ.bc r else match assoc r σ.ct with | some c=>c.B ρ | none=>fun _ _ _=>false
def Sub.env (σ:Sub) (ρ:Env) (ν:Nat→Addr):Env :=
 {σ.ag ρ with
   vv:=fun i=>if i<σ.lo then ρ.vv i else match assoc i σ.vv with | some e=>e.den ρ ν | none=>undef
   vc:=fun r=>if r<σ.lo then ρ.vc r else match assoc r σ.ct with | some c=>c.V ρ ν | none=>fun _ _ _=>undef}
def Sub.fK (σ:Sub) (ρ:Env) (ν:Nat→Addr):Nat→Addr :=
 fun k=>if k<σ.ah then ν k else match assoc k σ.bk with | some a=>a.den ρ ν | none=>⟨0,0,none⟩
theorem Sub.iE (σ:Sub) (ρ:Env) (ν:Nat→Addr):dF σ.lo σ.ah ρ (σ.env ρ ν) ν (σ.fK ρ ν) :=
 ⟨fun i hi=>by simp [Sub.env,Sub.ag,hi],fun i hi=>by simp [Sub.env,Sub.ag,hi],fun i hi=>by simp [Sub.env,hi],fun i hi=>by simp [Sub.env,Sub.ag,hi],
  fun i hi=>by simp [Sub.env,Sub.ag,hi],fun i hi=>by simp [Sub.env,hi],fun i hi=>by simp [Sub.fK,hi]⟩
def Az (σ:Sub) (t e:IE):Bool :=
 match t with
 | .var i=>if Nat.blt i σ.lo then t.same e else match assoc i σ.iv with | some x=>x.same e | none=>false
 | _=>t.same e && t.sc σ.lo
def zQ (σ:Sub) (t e:BE):Bool :=
 match t with
 | .var i=>if Nat.blt i σ.lo then t.same e else match assoc i σ.bv with | some x=>x.same e | none=>false
 | _=>t.same e && t.sc σ.lo
def IE.Py:IE→Bool
 | .lit 0=>true
 | _=>false
theorem IE.FQ {ρ:Env} {a:IE} (h:a.Py=true):a.den ρ=0:=by
 unfold IE.Py at h
 split at h
 ·rfl
 ·cases h
def Pz (σ:Sub) (t a:SA):Bool :=
 if Nat.blt t.aC σ.ah then t.same a && t.sc σ.lo σ.ah
 else match t.i1 with
  | .var o=>Az σ (.var o) a.i1 && t.s1 == a.s1 && t.i2.Py && a.i2.Py && t.j == 0 && a.j == 0 && (match assoc t.aC σ.bk with | some x=>x.aC == a.aC && x.i1.Py && x.i2.Py && x.j == 0 | none=>false)
  | _=>(match t.dE with | some 0=>true | _=>false) && (match assoc t.aC σ.bk with | some x=>x.same a | none=>false)
def PD (σ:Sub) (t b:Nat):Bool :=
 if Nat.blt t σ.ah then t == b else match assoc t σ.bk with | some x=>x.same {aC:=b} | none=>false
def Ih (σ:Sub):List Nat→List Nat→Bool
 | [],[]=>true
 | a :: r,b :: s=>PD σ a b && Ih σ r s
 | _,_=>false
def jE (σ:Sub):SC→SC→Bool
 | .int k e,.int l f=>j4 k l && Az σ e f
 | .bool e,.bool f=>zQ σ e f
 | .val i,c=>if Nat.blt i σ.lo then (SC.val i).same c else match assoc i σ.vv with | some x=>x.same c && !c.isHole | none=>false
 | .ptr a,.ptr b=>Pz σ a b
 | .sl a l c,.sl b m d=>Pz σ a b && Az σ l m && Az σ c d
 | .fw k a l c,.sl b m d=>zQ σ k (.lit false) && Pz σ a b && Az σ l m && Az σ c d
 | .fw k a l c,.fw k' b m d=>zQ σ k k' && Pz σ a b && Az σ l m && Az σ c d
 | .fw k _ _ _,.bG=>zQ σ k (.lit true)
 | .fn f a,.fn g b=>f == g && Ih σ a b
 | .iface t c,.iface u d=>t == u && jE σ c d
 | .iY k c,.iY k' d=>zQ σ k k' && jE σ c d
 | .iY k _,.dI=>zQ σ k (.lit true)
 | .iY k c,.iface u d=>zQ σ k (.lit false) && jE σ c (.iface u d)
 | .mp a,.mp b=>PD σ a b
 | t,c=>t.same c && t.sc σ.lo σ.ah
def Ii (σ:Sub):List SC→List SC→Bool
 | [],[]=>true
 | a :: r,b :: s=>jE σ a b && Ii σ r s
 | _,_=>false
def Ut (σ:Sub):SW→SW→Bool
 | .one a,.one b=>jE σ a b
 | .agg a,.agg b=>Ii σ a b
 | _,_=>false
def Eb (σ:Sub):List SW→List SW→Bool
 | [],[]=>true
 | a :: r,b :: s=>Ut σ a b && Eb σ r s
 | _,_=>false
def ZM (σ:Sub):SV→SV→Bool
 | .w a,.w b=>Ut σ a b
 | .iF a,.iF b=>Eb σ a b
 | .gd c a,.gd d b=>zQ σ c d && Ut σ a b
 | _,_=>false
section
variable {ρ:Env} {ν:Nat→Addr} {σ:Sub}
theorem pJ {t e:IE} (h:Az σ t e=true):t.den (σ.env ρ ν)=e.den ρ:=by
 unfold Az at h
 split at h
 ·rename_i i
  split at h
  ·rename_i hi
   rw [←IE.aD h]
   exact IE.aL (σ.iE ρ ν) (e:=.var i) hi
  ·rename_i hi
   split at h
   ·rename_i x hx
    have hi':¬i<σ.lo:=by simpa using hi
    simp only [IE.den,Sub.env,Sub.ag,if_neg hi',hx,IE.aD h]
   ·cases h
 ·simp only [Bool.and_eq_true] at h
  rw [←IE.aD h.1]
  exact IE.aL (σ.iE ρ ν) h.2
theorem nR {t e:BE} (h:zQ σ t e=true):t.den (σ.env ρ ν)=e.den ρ:=by
 unfold zQ at h
 split at h
 ·rename_i i
  split at h
  ·rename_i hi
   rw [←BE.aD h]
   exact BE.aL (σ.iE ρ ν) (e:=.var i) hi
  ·rename_i hi
   split at h
   ·rename_i x hx
    have hi':¬i<σ.lo:=by simpa using hi
    simp only [BE.den,Sub.env,Sub.ag,if_neg hi',hx,BE.aD h]
   ·cases h
 ·simp only [Bool.and_eq_true] at h
  rw [←BE.aD h.1]
  exact BE.aL (σ.iE ρ ν) h.2
theorem FR {t a:SA} (h:Pz σ t a=true):t.den (σ.env ρ ν) (σ.fK ρ ν)=a.den ρ ν:=by
 unfold Pz at h
 split at h
 ·simp only [Bool.and_eq_true] at h
  rw [←SA.aD h.1]
  exact SA.aL (σ.iE ρ ν) h.2
 ·rename_i hb
  have hb':¬t.aC<σ.ah:=by simpa using hb
  split at h
  ·rename_i o ho
   simp only [Bool.and_eq_true,beq_iff_eq] at h
   obtain ⟨⟨⟨⟨⟨⟨h1,h2⟩,h3⟩,h4⟩,h5⟩,h6⟩,h7⟩:=h
   split at h7
   ·rename_i x hx
    simp only [Bool.and_eq_true,beq_iff_eq] at h7
    obtain ⟨⟨⟨g1,g2⟩,g3⟩,g4⟩:=h7
    have e1:=pJ (ρ:=ρ) (ν:=ν) h1
    have ha:σ.fK ρ ν t.aC=ν a.aC:=by
     simp only [Sub.fK,if_neg hb',hx]
     simp [SA.den,SA.off,IE.FQ g2,IE.FQ g3,g4,g1,Addr.add_zero]
    simp only [SA.den,SA.off,ho,e1,ha,h2,h5,h6,IE.FQ h3,IE.FQ h4,Int.toNat_zero,Nat.zero_mul]
   ·cases h7
  simp only [Bool.and_eq_true] at h
  obtain ⟨h1,h2⟩:=h
  split at h1
  ·rename_i hl
   split at h2
   ·rename_i x hx
    simp only [SA.den,SA.aN hl,Addr.add_zero]
    simp only [Sub.fK,if_neg hb',hx,SA.aD h2]
    rfl
   ·cases h2
  ·cases h1
theorem AA {t b:Nat} (h:PD σ t b=true):σ.fK ρ ν t=ν b:=by
 unfold PD at h
 split at h
 ·rename_i hb
  simp only [beq_iff_eq] at h
  subst h
  simp only [Sub.fK,if_pos (show t<σ.ah by simpa using hb)]
 ·rename_i hb
  have hb':¬t<σ.ah:=by simpa using hb
  split at h
  ·rename_i x hx
   simp only [Sub.fK,if_neg hb',hx,SA.aD h]
   simp [SA.den,SA.off,IE.den,Addr.add_zero]
  ·cases h
theorem PE:∀{t b:List Nat},Ih σ t b=true→(t.map fun k=>Value.pointer (some (σ.fK ρ ν k)))=b.map fun k=>Value.pointer (some (ν k))
 | [],[],_=>rfl
 | [],_ :: _,h=>by simp [Ih] at h
 | _ :: _,[],h=>by simp [Ih] at h
 | a :: r,b :: s,h=>by
  simp only [Ih,Bool.and_eq_true] at h
  simp only [List.map_cons,AA (ρ:=ρ) (ν:=ν) h.1,PE h.2]
theorem FU:∀{t c:SC},jE σ t c=true→t.den (σ.env ρ ν) (σ.fK ρ ν)=c.den ρ ν:=by
 intro t
 have dflt:∀{t c:SC},(t.same c && t.sc σ.lo σ.ah)=true→t.den (σ.env ρ ν) (σ.fK ρ ν)=c.den ρ ν:=by
  intro t c h
  simp only [Bool.and_eq_true] at h
  rw [←SC.aD h.1]
  exact SC.aL (σ.iE ρ ν) h.2
 induction t with
 | int k e =>
  intro c h
  cases c with
  | int l f =>
   simp only [jE,Bool.and_eq_true] at h
   simp only [SC.den,pJ (ν:=ν) h.2,iL h.1]
  | _=>exact dflt (by simpa [jE] using h)
 | bool e =>
  intro c h
  cases c with
  | bool f =>
   simp only [jE] at h
   simp only [SC.den,nR (ν:=ν) h]
  | _=>exact dflt (by simpa [jE] using h)
 | val i =>
  intro c h
  simp only [jE] at h
  split at h
  ·rename_i hi
   rw [←SC.aD h]
   exact SC.aL (σ.iE ρ ν) (c:=.val i) hi
  ·rename_i hi
   have hi':¬i<σ.lo:=by simpa using hi
   split at h
   ·rename_i x hx
    simp only [Bool.and_eq_true,Bool.not_eq_true'] at h
    simp only [SC.den,Sub.env,if_neg hi',hx,SC.aD h.1]
    exact Cw (SC.sI c h.2)
   ·cases h
 | ptr a =>
  intro c h
  cases c with
  | ptr b =>
   simp only [jE] at h
   simp only [SC.den,FR (ρ:=ρ) (ν:=ν) h]
  | _=>exact dflt (by simpa [jE] using h)
 | sl a l k =>
  intro c h
  cases c with
  | sl b m d =>
   simp only [jE,Bool.and_eq_true] at h
   simp only [SC.den,FR (ρ:=ρ) (ν:=ν) h.1.1,pJ (ν:=ν) h.1.2,pJ (ν:=ν) h.2]
  | _=>exact dflt (by simpa [jE] using h)
 | fw k a l x =>
  intro c h
  cases c with
  | sl b m d =>
   simp only [jE,Bool.and_eq_true] at h
   simp only [SC.den,nR (ν:=ν) h.1.1.1,BE.den,FR (ρ:=ρ) (ν:=ν) h.1.1.2,pJ (ν:=ν) h.1.2,pJ (ν:=ν) h.2]
   rfl
  | fw k' b m d =>
   simp only [jE,Bool.and_eq_true] at h
   simp only [SC.den,nR (ν:=ν) h.1.1.1,FR (ρ:=ρ) (ν:=ν) h.1.1.2,pJ (ν:=ν) h.1.2,pJ (ν:=ν) h.2]
  | bG =>
   simp only [jE] at h
   simp only [SC.den,nR (ν:=ν) h,BE.den,if_true]
  | _=>exact dflt (by simpa [jE] using h)
 | fn f a =>
  intro c h
  cases c with
  | fn g b =>
   simp only [jE,Bool.and_eq_true,beq_iff_eq] at h
   simp only [SC.den,h.1,PE (ρ:=ρ) (ν:=ν) h.2]
  | _=>exact dflt (by simpa [jE] using h)
 | iface t x ih =>
  intro c h
  cases c with
  | iface u d =>
   simp only [jE,Bool.and_eq_true,beq_iff_eq] at h
   simp only [SC.den,h.1,ih h.2]
  | _=>exact dflt (by simpa [jE] using h)
 | iY k x ih =>
  intro c h
  cases c with
  | iY k' d =>
   simp only [jE,Bool.and_eq_true] at h
   simp only [SC.den,nR (ν:=ν) h.1,ih h.2]
  | dI =>
   simp only [jE] at h
   simp only [SC.den,nR (ν:=ν) h,BE.den,if_true]
  | iface u d =>
   simp only [jE,Bool.and_eq_true] at h
   have h2:=ih h.2
   simp only [SC.den,nR (ν:=ν) h.1,BE.den,Bool.false_eq_true,if_false] at h2 ⊢
   exact h2
  | _=>exact dflt (by simpa [jE] using h)
 | mp a =>
  intro c h
  cases c with
  | mp b =>
   simp only [jE] at h
   simp only [SC.den,AA (ρ:=ρ) (ν:=ν) h]
  | _=>exact dflt (by simpa [jE] using h)
 | _ =>
  intro c h
  exact dflt (by simpa [jE] using h)
theorem PG:∀{t c:List SC},Ii σ t c=true→(t.map fun x=>x.den (σ.env ρ ν) (σ.fK ρ ν))=c.map fun x=>x.den ρ ν
 | [],[],_=>rfl
 | [],_ :: _,h=>by simp [Ii] at h
 | _ :: _,[],h=>by simp [Ii] at h
 | a :: r,b :: s,h=>by
  simp only [Ii,Bool.and_eq_true] at h
  simp only [List.map_cons,FU h.1,PG h.2]
theorem LP {t x:SW} (h:Ut σ t x=true):t.den (σ.env ρ ν) (σ.fK ρ ν)=x.den ρ ν:=by
 cases t <;> cases x <;> simp only [Ut] at h
 ·exact FU h
 ·cases h
 ·cases h
 ·simp only [SW.den,PG (ρ:=ρ) (ν:=ν) h]
theorem Ij:∀{t c:List SW},Eb σ t c=true→(t.map fun x=>x.den (σ.env ρ ν) (σ.fK ρ ν))=c.map fun x=>x.den ρ ν
 | [],[],_=>rfl
 | [],_ :: _,h=>by simp [Eb] at h
 | _ :: _,[],h=>by simp [Eb] at h
 | a :: r,b :: s,h=>by
  simp only [Eb,Bool.and_eq_true] at h
  simp only [List.map_cons,LP h.1,Ij h.2]
theorem Uu {t x:SV} (h:ZM σ t x=true):t.den (σ.env ρ ν) (σ.fK ρ ν)=x.den ρ ν:=by
 cases t <;> cases x <;> simp only [ZM] at h <;> try cases h
 ·exact LP h
 ·simp only [SV.den,Ij (ρ:=ρ) (ν:=ν) h]
 ·simp only [Bool.and_eq_true] at h
  simp only [SV.den,nR (ν:=ν) h.1,LP (ρ:=ρ) (ν:=ν) h.2]
end
def Sub.ie (σ:Sub) (t:IE):Option IE :=
 match t with
 | .var i=>if Nat.blt i σ.lo then some t else assoc i σ.iv
 | _=>if t.sc σ.lo then some t else none
theorem Sub.ZN {σ:Sub} {t e:IE} {ρ:Env} {ν:Nat→Addr} (h:σ.ie t=some e):t.den (σ.env ρ ν)=e.den ρ:=by
 unfold Sub.ie at h
 split at h
 ·rename_i i
  split at h
  ·rename_i hi
   simp at h
   subst h
   exact IE.aL (σ.iE ρ ν) (e:=.var i) hi
  ·rename_i hi
   have hi':¬i<σ.lo:=by simpa using hi
   simp only [IE.den,Sub.env,Sub.ag,if_neg hi',h]
 ·split at h
  ·rename_i hs
   simp at h
   subst h
   exact IE.aL (σ.iE ρ ν) hs
  ·cases h
def CK (cs:List SC):List Kd→Nat→Bool
 | [],_=>true
 | k :: r,p=>(match cs[p]? with | some c=>nC k c | none=>false) && CK cs r (p+1)
def FV (cs:List SC) (ks:List Kd) (s2:Nat):Nat→Nat→Bool
 | 0,_=>true
 | n+1,p=>CK cs ks p && FV cs ks s2 n (p+s2)
def FW (cs:List SC) (ks:List Kd) (s2 n2 s1:Nat):Nat→Nat→Bool
 | 0,_=>true
 | n+1,p=>FV cs ks s2 n2 p && FW cs ks s2 n2 s1 n (p+s1)
theorem Ec {cs:List SC}:∀{ks:List Kd} {p:Nat},CK cs ks p=true→∀(j:Nat) (k:Kd),ks[j]?=some k→∃c,cs[p+j]?=some c∧nC k c=true
 | [],p,_,j,k,hj=>by simp at hj
 | x :: r,p,h,j,k,hj=>by
  simp only [CK,Bool.and_eq_true] at h
  cases j with
  | zero =>
   simp at hj
   subst hj
   obtain ⟨h,-⟩:=h
   split at h
   ·rename_i c hc;exact ⟨c,hc,h⟩
   ·cases h
  | succ j =>
   obtain ⟨c,hc,hk⟩:=Ec h.2 j k (by simpa using hj)
   exact ⟨c,by rw [←hc];congr 1;omega,hk⟩
theorem Ed {cs:List SC} {ks:List Kd} {s2:Nat}:∀{n p:Nat},FV cs ks s2 n p=true→∀i,i<n→CK cs ks (p+i * s2)=true
 | 0,_,_,i,hi=>by omega
 | n+1,p,h,i,hi=>by
  simp only [FV,Bool.and_eq_true] at h
  cases i with
  | zero=>simpa using h.1
  | succ i =>
   have:=Ed h.2 i (by omega)
   rwa [show p+s2+i * s2=p+(i+1) * s2 by rw [Nat.add_mul];omega] at this
theorem Ee {cs:List SC} {ks:List Kd} {s2 n2 s1:Nat}:∀{n p:Nat},FW cs ks s2 n2 s1 n p=true→∀i,i<n→FV cs ks s2 n2 (p+i * s1)=true
 | 0,_,_,i,hi=>by omega
 | n+1,p,h,i,hi=>by
  simp only [FW,Bool.and_eq_true] at h
  cases i with
  | zero=>simpa using h.1
  | succ i =>
   have:=Ee h.2 i (by omega)
   rwa [show p+s1+i * s1=p+(i+1) * s1 by rw [Nat.add_mul];omega] at this
def CL (gi:Nat):List Up→Bool
 | []=>true
 | u :: r=>!(u.g == gi) && CL gi r
theorem FX {ρ:Env} {ν:Nat→Addr} {gi i1 i2 j:Nat} {b:Value}:∀{us:List Up},CL gi us=true→cK ρ ν us gi i1 i2 j b=b
 | [],_=>rfl
 | u :: r,h=>by
  simp only [CL,Bool.and_eq_true,Bool.not_eq_true',beq_eq_false_iff_ne,ne_eq] at h
  unfold cK
  rw [if_neg (fun hc=>h.1 hc.1),FX h.2]
def IE.Uv:IE→Bool
 | .lit 0=>true
 | _=>false
theorem IE.LQ {ρ:Env} {e:IE} (h:e.Uv=true):e.den ρ=0:=by
 unfold IE.Uv at h
 split at h
 ·rfl
 ·cases h
def SA.base (a:SA):Bool:=match a.dE with | some 0=>true | _=>false
theorem SA.CO {ρ:Env} {a:SA} (h:a.base=true):a.off ρ=0:=by
 unfold SA.base at h
 split at h
 ·rename_i hl;exact SA.aN hl
 ·cases h
def Ik (c:Option (IE × Nat)):Bool:=match c with | none=>true | _=>false
theorem FY {c:Option (IE × Nat)} (h:Ik c=true):c=none:=by
 cases c with
 | none=>rfl
 | some p=>cases h
def SA.shift (a:SA) (s1:Nat):Option IE :=
 if a.i2.Uv && a.j == 0 && (a.i1.Uv || a.s1 == s1) then some a.i1 else none
theorem SA.LU {ρ:Env} {a:SA} {s1:Nat} {sh:IE} (h:a.shift s1=some sh):a.off ρ=(sh.den ρ).toNat * s1:=by
 unfold SA.shift at h
 split at h
 ·rename_i hc
  simp only [Bool.and_eq_true,Bool.or_eq_true,beq_iff_eq] at hc
  obtain ⟨⟨h1,h2⟩,h3⟩:=hc
  simp at h
  subst h
  simp only [SA.off,IE.LQ h1,h2]
  rcases h3 with h3 | h3
  ·simp [IE.LQ h3]
  ·simp [h3]
 ·cases h
def Ri (σ:Sub) (A:SB) (a:SA) (gT:ae) (gi:Nat):Option (List BE) :=
 if Nat.blt gT.r σ.lo then
  match A.aX[gi]? with
  | some g=>if gT.same g && gT.n1.sc σ.lo && CL gi A.ups && a.base then some [] else none
  | none=>none
 else
 match assoc gT.r σ.ct,σ.ie gT.n1 with
 | some (.up g gj us sh),some n1 =>
  match A.aX[gj]?,a.shift gT.s1 with
  | some g',some sh' =>
   if g.same g' && l9 us A.ups && mI g.ks gj us && sh.same sh' && gT.s1 == g.s1 && gT.n2 == g.n2 && gT.s2 == g.s2 && gT.lo == g.lo && lq gT.ks g.ks && !gT.z then
    some (if sh.Uv && n1.same g.n1 then [] else [.ai (.lit 0) sh,.ai (sh.iO n1) g.n1])
   else none
  | _,_=>none
 | some (.ex cs s1 s2 lo),some (.lit n1) =>
  match a.dE with
  | some p=>if A.aX.isEmpty && uN cs (A.cs.drop p) && s1 == gT.s1 && s2 == gT.s2 && lo == gT.lo && !gT.z && FW cs gT.ks gT.s2 gT.n2 gT.s1 n1.toNat gT.lo then some [] else none
  | none=>none
 | _,_=>none
theorem PH {σ:Sub} {ρ:Env} {ν:Nat→Addr} {A:SB} {a:SA} {gT:ae} {gi:Nat} {os:List BE} {arr:Array Value} (h:Ri σ A a gT gi=some os)
  (ho:∀o∈os,o.den ρ=true) (hA:A.has ρ ν arr) (i1 i2 j:Nat) (h1:(i1:Int)<gT.n1.den (σ.env ρ ν)) (h2:i2<gT.n2) (h3:j<gT.ks.length) :
  arr[a.off ρ+(i1 * gT.s1+i2 * gT.s2+gT.lo+j)]?=some (gT.base (σ.env ρ ν) i1 i2 j):=by
 unfold Ri at h
 split at h
 ·rename_i hr
  split at h
  ·rename_i g hg
   split at h
   ·rename_i hc
    simp only [Bool.and_eq_true] at hc
    obtain ⟨⟨⟨c1,c2⟩,c3⟩,c4⟩:=hc
    have e1:=ae.aD c1
    subst e1
    have ha:a.off ρ=0:=SA.CO c4
    rw [IE.aL (σ.iE ρ ν) c2] at h1
    have:=hA.sg gi gT hg i1 i2 j h1 h2 h3
    rw [FX c3] at this
    rw [ha,Nat.zero_add,this,ae.Ea (σ.iE ρ ν) gT (by simpa using hr)]
   ·cases h
  ·cases h
 ·rename_i hr
  have hr':¬gT.r<σ.lo:=by simpa using hr
  split at h
  ·rename_i g gj us sh n1 hct hn1
   split at h
   ·rename_i g' sh' hg' hsh
    split at h
    ·rename_i hc
     simp only [Bool.and_eq_true,beq_iff_eq,Bool.not_eq_true'] at hc
     obtain ⟨⟨⟨⟨⟨⟨⟨⟨⟨c1,c2⟩,c3⟩,c4⟩,c5⟩,c6⟩,c7⟩,c8⟩,c9⟩,c10⟩:=hc
     have e1:=ae.aD c1
     have e2:=rW c2
     have e3:=IE.aD c4
     have e4:=pG c9
     subst e1 e2 e3
     have hoff:=SA.LU (ρ:=ρ) hsh
     rw [Sub.ZN hn1] at h1
     have hb:0≤sh.den ρ∧sh.den ρ+n1.den ρ≤g.n1.den ρ:=by
      simp only [Option.some.injEq] at h
      split at h
      ·rename_i hq
       simp only [Bool.and_eq_true] at hq
       rw [IE.LQ hq.1,IE.aD hq.2]
       simp
      ·subst h
       have b1:=of_decide_eq_true (ho (.ai (.lit 0) sh) (by simp))
       have b2:=of_decide_eq_true (ho (.ai (sh.iO n1) g.n1) (by simp))
       rw [IE.kL] at b2
       exact ⟨b1,b2⟩
     have hi:(((sh.den ρ).toNat+i1:Nat):Int)<g.n1.den ρ:=by omega
     have hg2:i2<g.n2:=by rw [←c6];exact h2
     have hj:j<g.ks.length:=by rw [←e4];exact h3
     have:=hA.sg gj g hg' ((sh.den ρ).toNat+i1) i2 j hi hg2 hj
     rw [hoff,c5,c7,c8]
     rw [show (sh.den ρ).toNat * g.s1+(i1 * g.s1+i2 * g.s2+g.lo+j)=((sh.den ρ).toNat+i1) * g.s1+i2 * g.s2+g.lo+j by rw [Nat.add_mul];omega]
     rw [this,Rh hj c3,ae.CJ gT c10,e4]
     simp only [Sub.env,Sub.ag,if_neg hr',hct,CV.I,CV.B,CV.V]
    ·cases h
   ·cases h
  ·rename_i cs s1 s2 lo n1 hct hn1
   split at h
   ·rename_i p hp
    split at h
    ·rename_i hc
     simp only [Bool.and_eq_true,beq_iff_eq,Bool.not_eq_true',List.isEmpty_iff] at hc
     obtain ⟨⟨⟨⟨⟨⟨c1,c2⟩,c3⟩,c4⟩,c5⟩,c6⟩,c7⟩:=hc
     have e1:=xU c2
     rw [Sub.ZN hn1] at h1
     simp only [IE.den] at h1
     have hf:=Ed (Ee c7 i1 (by omega)) i2 h2
     obtain ⟨c,hc,hk⟩:=Ec hf j gT.ks[j] (List.getElem?_eq_getElem h3)
     have hh:c.isHole=false:=by
      cases hkd:gT.ks[j] <;> rw [hkd] at hk <;> cases c <;> simp_all [nC,SC.isHole]
     have hpos:i1 * gT.s1+i2 * gT.s2+gT.lo+j=gT.lo+i1 * gT.s1+i2 * gT.s2+j:=by omega
     have hc':A.cs[p+(i1 * gT.s1+i2 * gT.s2+gT.lo+j)]?=some c:=by
      rw [←List.getElem?_drop,←e1,hpos];exact hc
     rw [SA.aN hp,hA.ex _ _ hc' hh,Us hk,ae.CJ gT c6,List.getElem?_eq_getElem h3]
     have hgd:cs.getD (i1 * gT.s1+i2 * gT.s2+gT.lo+j) .hole=c:=by
      rw [List.getD_eq_getElem?_getD,hpos,hc];rfl
     simp only [Sub.env,Sub.ag,if_neg hr',hct,CV.I,CV.B,CV.V,c3,c4,c5,hgd]
    ·cases h
   ·cases h
  ·cases h
def FZ (σ:Sub) (A:SB) (a:SA):List ae→Nat→Option (List BE)
 | [],_=>some []
 | g :: r,gi =>
  match Ri σ A a g gi,FZ σ A a r (gi+1) with
  | some os,some os'=>some (os ++ os')
  | _,_=>none
theorem Ef {σ:Sub} {A:SB} {a:SA}:∀{gs:List ae} {gi:Nat} {os:List BE},FZ σ A a gs gi=some os→∀k g,gs[k]?=some g →
  ∃os',Ri σ A a g (gi+k)=some os'∧∀o∈os',o∈os
 | [],_,_,_,k,g,hk=>by simp at hk
 | x :: r,gi,os,h,k,g,hk=>by
  unfold FZ at h
  split at h
  ·rename_i o1 o2 h1 h2
   simp at h
   subst h
   cases k with
   | zero=>simp at hk;subst hk;exact ⟨o1,h1,fun o ho=>List.mem_append_left _ ho⟩
   | succ k =>
    obtain ⟨os',h3,h4⟩:=Ef h2 k g (by simpa using hk)
    exact ⟨os',by rw [←h3];congr 1;omega,fun o ho=>List.mem_append_right _ (h4 o ho)⟩
  ·cases h
def wQ (σ:Sub):List SC→List SC→Bool
 | [],_=>true
 | _ :: _,[]=>false
 | a :: r,b :: s=>(a.isHole || (jE σ a b && !b.isHole)) && wQ σ r s
theorem AB {σ:Sub}:∀{t c:List SC},wQ σ t c=true→∀(p:Nat) (x:SC),t[p]?=some x→x.isHole=false→∃y,c[p]?=some y∧y.isHole=false∧jE σ x y=true
 | [],_,_,p,x,hx,_=>by simp at hx
 | _ :: _,[],h,_,_,_,_=>by simp [wQ] at h
 | a :: r,b :: s,h,p,x,hx,hh=>by
  simp only [wQ,Bool.and_eq_true,Bool.or_eq_true,Bool.not_eq_true'] at h
  cases p with
  | zero =>
   simp at hx
   subst hx
   rcases h.1 with h1 | h1
   ·rw [hh] at h1;cases h1
   ·exact ⟨b,rfl,h1.2,h1.1⟩
  | succ p =>
   obtain ⟨y,h1,h2⟩:=AB h.2 p x (by simpa using hx) hh
   exact ⟨y,by simpa using h1,h2⟩
def acK (σ:Sub) (t a:Option (IE × Nat)):Bool :=
 match t,a with
 | none,_=>true
 | some (e,n),some (f,m)=>Az σ e f && n == m
 | _,_=>false
def mRw (σ:Sub) (T A:SB) (a:SA):Option (List BE) :=
 if a.base && !A.ro && (T.opn || !T.aX.isEmpty || (A.aX.isEmpty && !A.opn && T.cs.length == A.cs.length)) && acK σ T.cap A.cap && wQ σ T.cs A.cs && T.ups.isEmpty then
  FZ σ A a T.aX 0
 else none
def mRo (σ:Sub) (T A:SB) (a:SA):Option (List BE) :=
 if T.cs.isEmpty && T.ups.isEmpty && Ik T.cap && !T.aX.isEmpty then FZ σ A a T.aX 0
 else if T.aX.isEmpty && T.ups.isEmpty && Ik T.cap && A.aX.isEmpty && !A.opn then
  match a.dE with
  | some o=>if Nat.ble (o+T.cs.length) A.cs.length && wQ σ T.cs (A.cs.drop o) then some [] else none
  | none=>none
 else none
def Eg (σ:Sub) (T A:SB) (a:SA):Option (List BE) :=
 if A.gone || !(T.t == A.t) || (T.own && (!A.own || T.ro)) || !zQ σ T.nl A.nl || (T.ro && T.iN) then none
 else if T.ro then mRo σ T A a else mRw σ T A a
def LV (σ:Sub) (hp:List SB) (k:Nat) (T:SB):Option (List BE) :=
 if T.gone then some []
 else if Nat.blt k σ.ah then
  match hp[k]? with
  | some A=>if T.wk A && T.sc σ.lo σ.ah then some [] else Eg σ T A {aC:=k}
  | none=>none
 else match assoc k σ.bk with
 | some a=>match hp[a.aC]? with | some A=>Eg σ T A a | none=>none
 | none=>if σ.nb.contains k && zQ σ T.nl (.lit true) then some [] else none
def KN (σ:Sub) (hp:List SB):List SB→Nat→Option (List BE)
 | [],_=>some []
 | T :: r,k =>
  match LV σ hp k T,KN σ hp r (k+1) with
  | some os,some os'=>some (os ++ os')
  | _,_=>none
theorem Eh {σ:Sub} {hp:List SB}:∀{Ts:List SB} {k0:Nat} {os:List BE},KN σ hp Ts k0=some os→∀k T,Ts[k]?=some T →
  ∃os',LV σ hp (k0+k) T=some os'∧∀o∈os',o∈os
 | [],_,_,_,k,g,hk=>by simp at hk
 | x :: r,gi,os,h,k,g,hk=>by
  unfold KN at h
  split at h
  ·rename_i o1 o2 h1 h2
   simp at h
   subst h
   cases k with
   | zero=>simp at hk;subst hk;exact ⟨o1,h1,fun o ho=>List.mem_append_left _ ho⟩
   | succ k =>
    obtain ⟨os',h3,h4⟩:=Eh h2 k g (by simpa using hk)
    exact ⟨os',by rw [←h3];congr 1;omega,fun o ho=>List.mem_append_right _ (h4 o ho)⟩
  ·cases h
def Sub.aC (σ:Sub) (k:Nat):Option Nat:=if Nat.blt k σ.ah then some k else (assoc k σ.bk).map (·.aC)
def qZ (σ:Sub) (i:Nat) (ro:Bool) (b:Option Nat):List SB→Nat→Bool
 | [],_=>true
 | T :: r,j=>(i == j || T.gone || (ro && T.ro) || (match b,σ.aC j with | some x,some y=>!(x == y) | _,_=>true)) && qZ σ i ro b r (j+1)
def yC (σ:Sub) (all:List SB):List SB→Nat→Bool
 | [],_=>true
 | T :: r,i=>(Nat.blt i σ.ah || T.gone || qZ σ i T.ro (σ.aC i) all 0) && yC σ all r (i+1)
theorem tL {σ:Sub} {i:Nat} {ro:Bool} {b:Option Nat}:∀{Ts:List SB} {j0:Nat},qZ σ i ro b Ts j0=true→∀j T,Ts[j]?=some T →
  i≠j0+j→T.gone=false→(ro && T.ro)=false→∀x y,b=some x→σ.aC (j0+j)=some y→x≠y
 | [],_,_,j,T,hj=>by simp at hj
 | T0 :: r,j0,h,j,T,hj=>by
  simp only [qZ,Bool.and_eq_true] at h
  cases j with
  | zero =>
   simp at hj
   subst hj
   intro hne hg hro x y hb hy
   rw [Nat.add_zero] at hne hy
   obtain ⟨h,-⟩:=h
   have hij:(i == j0)=false:=by simpa using hne
   rw [hij,hg,hro,hb,hy] at h
   simpa using h
  | succ j =>
   intro hne
   have:=tL h.2 j T (by simpa using hj)
   rw [show j0+1+j=j0+(j+1) by omega] at this
   exact this hne
theorem vU {σ:Sub} {all:List SB}:∀{Ts:List SB} {i0:Nat},yC σ all Ts i0=true→∀i T,Ts[i]?=some T→¬(i0+i<σ.ah)→T.gone=false →
  qZ σ (i0+i) T.ro (σ.aC (i0+i)) all 0=true
 | [],_,_,j,T,hj=>by simp at hj
 | T0 :: r,j0,h,j,T,hj=>by
  simp only [yC,Bool.and_eq_true] at h
  cases j with
  | zero =>
   simp at hj
   subst hj
   intro hl hg
   rw [Nat.add_zero] at hl ⊢
   have hb:Nat.blt j0 σ.ah=false:=by rw [←Bool.not_eq_true,Nat.blt_eq];exact hl
   simpa [hb,hg] using h.1
  | succ j =>
   have:=vU h.2 j T (by simpa using hj)
   rw [show j0+1+j=j0+(j+1) by omega] at this
   exact this
def nS (σ:Sub) (Ts hp:List SB):Option (List BE):=if yC σ Ts Ts 0 then KN σ hp Ts 0 else none
section
variable {ρ:Env} {ν:Nat→Addr} {σ:Sub}
structure ZO (ρ:Env) (ν:Nat→Addr) (σ:Sub) (hp:List SB) (k:Nat) (T:SB) (a:SA) (A:SB):Prop where
 aC:σ.aC k=some a.aC
 hp:hp[a.aC]?=some A
 fK:σ.fK ρ ν k=(ν a.aC).add (a.off ρ)
 live:A.dead ρ=false
 t:T.t=A.t
 own:T.own=true→A.own=true
 ro:T.ro=false→A.ro=false∧a.off ρ=0
 rw_:T.ro=false→∀arr,A.has ρ ν arr→T.has (σ.env ρ ν) (σ.fK ρ ν) arr
 rd:∀arr,A.has ρ ν arr→∃mq,T.has (σ.env ρ ν) (σ.fK ρ ν) mq∧∀p v,mq[p]?=some v→arr[a.off ρ+p]?=some v
 mp:T.ro=true→A.ro=false→A.iN=false
 sg:T.ro=true→T.aX=[]→A.aX=[]
theorem PI {T A:SB} {a:SA} {os:List BE} (h:Eg σ T A a=some os) (ho:∀o∈os,o.den ρ=true) (hd:T.dead (σ.env ρ ν)=false) :
  A.dead ρ=false∧T.t=A.t∧(T.own=true→A.own=true)∧(T.ro=false→A.ro=false∧a.off ρ=0)∧(T.ro=false→∀arr,A.has ρ ν arr→T.has (σ.env ρ ν) (σ.fK ρ ν) arr) ∧
  (∀arr,A.has ρ ν arr→∃mq,T.has (σ.env ρ ν) (σ.fK ρ ν) mq∧∀p v,mq[p]?=some v→arr[a.off ρ+p]?=some v)∧(T.ro=true→A.ro=false→A.iN=false):=by
 unfold Eg at h
 split at h
 ·cases h
 rename_i hc
 simp only [Bool.or_eq_true,Bool.not_eq_true',not_or,Bool.not_eq_true,beq_eq_false_iff_ne,ne_eq,Decidable.not_not,Bool.not_eq_false,Bool.and_eq_true,not_and] at hc
 obtain ⟨⟨⟨⟨c1,c2⟩,c3⟩,c4⟩,c5⟩:=hc
 have hlive:A.dead ρ=false:=by
  have:=nR (ρ:=ρ) (ν:=ν) c4
  unfold SB.dead at hd ⊢
  rw [c1,←this]
  simp at hd
  simp [hd.2]
 refine ⟨hlive,c2,fun h=>?_,?_⟩
 ·cases hA:A.own with
  | true=>rfl
  | false=>have:=c3 h;simp [hA] at this
 split at h
 ·rename_i hro
  refine ⟨fun h=>(by rw [hro] at h;cases h),fun h=>(by rw [hro] at h;cases h),fun arr hA=>?_,fun h _=>?_⟩
  rotate_left
  ·have:=c5 h
   unfold SB.iN at this ⊢
   rw [←c2]
   simpa using this
  unfold mRo at h
  split at h
  ·rename_i hc
   simp only [Bool.and_eq_true,List.isEmpty_iff,Bool.not_eq_true'] at hc
   obtain ⟨⟨⟨d1,d2⟩,d3⟩,d4⟩:=hc
   refine ⟨(arr.toList.drop (a.off ρ)).toArray,⟨fun u hu=>(by rw [d2] at hu;cases hu),fun hs=>(by rw [hs] at d4;cases d4),fun e n he=>(by rw [FY d3] at he;cases he),fun p c hp=>(by rw [d1] at hp;simp at hp),fun gi g hg i1 i2 j h1 h2 h3=>?_⟩,fun p v hp=>?_⟩
   ·obtain ⟨os',h4,h5⟩:=Ef h gi g hg
    rw [Nat.zero_add] at h4
    have:=PH h4 (fun o hm=>ho o (h5 o hm)) hA i1 i2 j h1 h2 h3
    rw [d2]
    simp only [cK,List.getElem?_toArray,List.getElem?_drop]
    simpa using this
   ·simpa [List.getElem?_drop] using hp
  ·split at h
   case isFalse=>cases h
   rename_i hc
   simp only [Bool.and_eq_true,List.isEmpty_iff,Bool.not_eq_true'] at hc
   obtain ⟨⟨⟨⟨d1,d2⟩,d3⟩,d4⟩,d5⟩:=hc
   split at h
   case h_2=>cases h
   rename_i o ahw
   have hoff:a.off ρ=o:=SA.aN ahw
   split at h
   case isFalse=>cases h
   rename_i hc2
   simp only [Bool.and_eq_true,Nat.ble_eq] at hc2
   have hsz:arr.size=A.cs.length:=hA.size d4 d5
   refine ⟨((arr.toList.drop o).take T.cs.length).toArray,⟨fun u hu=>(by rw [d2] at hu;cases hu),fun _ _=>(by simp;omega),fun e n he=>(by rw [FY d3] at he;cases he),fun p c hp hh=>?_,fun gi g hg=>(by rw [d1] at hg;simp at hg)⟩,fun p v hp=>?_⟩
   ·obtain ⟨y,h1,h2,h3⟩:=AB hc2.2 p c hp hh
    rw [List.getElem?_drop] at h1
    have:=hA.ex (o+p) y h1 h2
    have hpl:p<T.cs.length:=(List.getElem?_eq_some_iff.1 hp).1
    rw [FU (ρ:=ρ) (ν:=ν) h3,List.getElem?_toArray,List.getElem?_take_of_lt hpl,List.getElem?_drop,Array.getElem?_toList]
    exact this
   ·rw [hoff]
    rw [List.getElem?_toArray] at hp
    have hpl:p<T.cs.length:=by
     have:=(List.getElem?_eq_some_iff.1 hp).1
     simp at this
     omega
    rw [List.getElem?_take_of_lt hpl,List.getElem?_drop,Array.getElem?_toList] at hp
    exact hp
 ·rename_i hro
  unfold mRw at h
  split at h
  ·rename_i hc
   simp only [Bool.and_eq_true,List.isEmpty_iff,Bool.not_eq_true',Bool.or_eq_true] at hc
   obtain ⟨⟨⟨⟨⟨d1,d2⟩,d3⟩,d4⟩,d5⟩,d6⟩:=hc
   have hoff:a.off ρ=0:=SA.CO d1
   have key:∀arr,A.has ρ ν arr→T.has (σ.env ρ ν) (σ.fK ρ ν) arr:=by
    intro arr hA
    refine ⟨fun u hu=>(by rw [d6] at hu;cases hu),fun hs hop=>?_,fun e n he=>?_,fun p c hp hh=>?_,fun gi g hg i1 i2 j h1 h2 h3=>?_⟩
    ·rcases d3 with (d3 | d3) | d3
     ·rw [hop] at d3;cases d3
     ·rw [hs] at d3;cases d3
     ·simp only [beq_iff_eq] at d3
      rw [d3.2]
      exact hA.size d3.1.1 d3.1.2
    ·unfold acK at d4
     rw [he] at d4
     split at d4
     ·rename_i heq;cases heq
     ·rename_i e1 n1 f m heq hAc
      cases heq
      simp only [Bool.and_eq_true,beq_iff_eq] at d4
      rw [pJ (ν:=ν) d4.1,d4.2]
      exact hA.cap f m hAc
     ·cases d4
    ·obtain ⟨y,h1,h2,h3⟩:=AB d5 p c hp hh
     rw [FU (ρ:=ρ) (ν:=ν) h3]
     exact hA.ex p y h1 h2
    ·obtain ⟨os',h4,h5⟩:=Ef h gi g hg
     rw [Nat.zero_add] at h4
     have:=PH h4 (fun o hm=>ho o (h5 o hm)) hA i1 i2 j h1 h2 h3
     rw [d6]
     simp only [cK]
     rw [hoff,Nat.zero_add] at this
     exact this
   exact ⟨fun _=>⟨d2,hoff⟩,fun _=>key,fun arr hA=>⟨arr,key arr hA,fun p v hp=>by rw [hoff,Nat.zero_add];exact hp⟩,fun h=>(hro h).elim⟩
  ·cases h
theorem JA {T A:SB} {a:SA} {os:List BE} (h:Eg σ T A a=some os) (hr:T.ro=true) (hs:T.aX=[]):A.aX=[]:=by
 unfold Eg at h
 split at h
 ·cases h
 unfold mRo at h
 split at h
 ·rename_i hc
  simp [hs] at hc
 ·split at h
  ·rename_i hc
   simp only [Bool.and_eq_true,List.isEmpty_iff,Bool.not_eq_true'] at hc
   exact hc.1.2
  ·cases h
theorem abn {hp:List SB} {k:Nat} {T:SB} {os:List BE} (h:LV σ hp k T=some os) (ho:∀o∈os,o.den ρ=true) (hd:T.dead (σ.env ρ ν)=false):∃a A,ZO ρ ν σ hp k T a A:=by
 have hg:=SB.dP hd
 unfold LV at h
 rw [hg] at h
 simp only [Bool.false_eq_true,if_false] at h
 split at h
 ·rename_i hk
  have hk':k<σ.ah:=by simpa using hk
  have vV:σ.fK ρ ν k=(ν k).add (({aC:=k}:SA).off ρ):=by simp [Sub.fK,hk',SA.off,IE.den,Addr.add_zero]
  have hblk:σ.aC k=some k:=by simp [Sub.aC,hk]
  split at h
  ·rename_i A hA
   split at h
   ·rename_i hc
    simp only [Bool.and_eq_true] at hc
    obtain ⟨e1,e2,e3,e4,e5,e6⟩:=SB.FM (ρ:=ρ) (ν:=ν) hc.1 hg
    have hd':T.dead ρ=false:=by rwa [SB.nA (σ.iE ρ ν) hc.2] at hd
    have hh:∀arr,A.has ρ ν arr→T.has (σ.env ρ ν) (σ.fK ρ ν) arr:=fun arr ha=>SB.Au (σ.iE ρ ν) hc.2 hg (e6 arr ha)
    have h0:({aC:=k}:SA).off ρ=0:=by simp [SA.off,IE.den]
    exact ⟨{aC:=k},A,⟨hblk,hA,vV,SB.wP hc.1 hd',e5,e4,fun hr=>⟨e3 ▸ hr,h0⟩,fun _=>hh,fun arr ha=>⟨arr,hh arr ha,fun p v hp=>by rw [h0,Nat.zero_add];exact hp⟩,fun hr hr'=>(by rw [e3,hr'] at hr;cases hr),fun _=>SB.Pw hc.1 hg⟩⟩
   ·obtain ⟨h1,h2,h3,h4,h5,h6,h7⟩:=PI (ν:=ν) h ho hd
    exact ⟨{aC:=k},A,⟨hblk,hA,vV,h1,h2,h3,h4,h5,h6,h7,JA h⟩⟩
  ·cases h
 ·rename_i hk
  have hk':¬k<σ.ah:=by simpa using hk
  split at h
  ·rename_i a ha
   split at h
   ·rename_i A hA
    obtain ⟨h1,h2,h3,h4,h5,h6,h7⟩:=PI (ν:=ν) h ho hd
    exact ⟨a,A,⟨by simp [Sub.aC,hk,ha],hA,by simp [Sub.fK,hk',ha,SA.den],h1,h2,h3,h4,h5,h6,h7,JA h⟩⟩
   ·cases h
  ·split at h
   ·rename_i hc
    simp only [Bool.and_eq_true] at hc
    have:=nR (ρ:=ρ) (ν:=ν) hc.2
    simp only [SB.dead,hg,Bool.false_or] at hd
    rw [hd] at this
    cases this
   ·cases h
theorem block_add (a:Addr) (n:Nat):(a.add n).block=a.block:=by
 unfold Addr.add
 split <;> rfl
theorem oz {Ts hp:List SB} {os:List BE} (h:nS σ Ts hp=some os) (ho:∀o∈os,o.den ρ=true) {k:Nat} {T:SB} (hk:Ts[k]?=some T) (hd:T.dead (σ.env ρ ν)=false) :
  ∃a A,ZO ρ ν σ hp k T a A:=by
 unfold nS at h
 split at h
 ·obtain ⟨os',h1,h2⟩:=Eh h k T hk
  rw [Nat.zero_add] at h1
  exact abn h1 (fun o hm=>ho o (h2 o hm)) hd
 ·cases h
theorem Rj {Ts hp:List SB} {os:List BE} (h:nS σ Ts hp=some os) {i j:Nat} {T U:SB} (hi:Ts[i]?=some T) (hj:Ts[j]?=some U) (hne:i≠j) (hg:T.gone=false) (hg':U.gone=false)
  (hr:T.ro=false∨U.ro=false) {x y:Nat} (hx:σ.aC i=some x) (hy:σ.aC j=some y):x≠y:=by
 unfold nS at h
 split at h
 ·rename_i hap
  by_cases h1:i<σ.ah
  ·by_cases h2:j<σ.ah
   ·simp [Sub.aC,h1] at hx
    simp [Sub.aC,h2] at hy
    omega
   ·have:=vU hap j U hj (by omega) hg'
    rw [Nat.zero_add] at this
    have:=tL this i T hi (by omega) hg (by rcases hr with hr | hr <;> simp [hr]) y x hy (by rw [Nat.zero_add];exact hx)
    exact fun e=>this e.symm
  ·have:=vU hap i T hi (by omega) hg
   rw [Nat.zero_add] at this
   exact tL this j U hj (by omega) hg' (by rcases hr with hr | hr <;> simp [hr]) x y hx (by rw [Nat.zero_add];exact hy)
 ·cases h
theorem Il {Ts hp:List SB} {os:List BE} (h:nS σ Ts hp=some os) (ho:∀o∈os,o.den ρ=true) {w:World} (hh:aH ρ ν hp w):aH (σ.env ρ ν) (σ.fK ρ ν) Ts w:=by
 refine ⟨fun i j T U hi hj hT hU hr he=>?_,fun k T hk hT hr=>?_,fun k T hk hT hr=>?_⟩
 ·obtain ⟨a,A,hA⟩:=oz h ho hi hT
  obtain ⟨b,B,hB⟩:=oz h ho hj hU
  by_cases hne:i=j
  ·exact hne
  ·exfalso
   have hxy:=Rj h hi hj hne (SB.dP hT) (SB.dP hU) (.inl hr) hA.aC hB.aC
   rw [hA.fK,hB.fK,block_add,block_add] at he
   exact hxy (hh.inj _ _ A B hA.hp hB.hp hA.live hB.live (hA.ro hr).1 he)
 ·obtain ⟨a,A,hA⟩:=oz h ho hk hT
  obtain ⟨h1,h2⟩:=hA.ro hr
  obtain ⟨h0,arr,h3,h4⟩:=hh.aC _ A hA.hp hA.live h1
  rw [hA.fK,h2,Addr.add_zero]
  exact ⟨h0,arr,by rw [hA.t];exact h3,hA.rw_ hr arr h4⟩
 ·obtain ⟨a,A,hA⟩:=oz h ho hk hT
  obtain ⟨arr,h1,h2⟩:=hh.cells hA.hp hA.live (hA.mp hr)
  obtain ⟨mq,h3,h4⟩:=hA.rd arr h1
  rw [hA.fK]
  refine ⟨by rw [block_add];exact (hh.aht hA.hp hA.live (hA.mp hr)).of (hA.sg hr) hA.t (Nat.le_refl _) rfl,mq,h3,fun p v hp=>?_⟩
  rw [Addr.add_add]
  exact h2 _ _ (h4 p v hp)
end
def Sub.qx (σ:Sub) (t e:IE):Sub :=
 match t with
 | .var i=>if Nat.blt i σ.lo then σ else match assoc i σ.iv with | some _=>σ | none=>{σ with iv:=(i,e) :: σ.iv}
 | _=>σ
def Sub.yD (σ:Sub) (t e:BE):Sub :=
 match t with
 | .var i=>if Nat.blt i σ.lo then σ else match assoc i σ.bv with | some _=>σ | none=>{σ with bv:=(i,e) :: σ.bv}
 | _=>σ
def Sub.LW (σ:Sub) (t:Nat) (a:SA):Sub :=
 if Nat.blt t σ.ah then σ else match assoc t σ.bk with | some _=>σ | none=>{σ with bk:=(t,a) :: σ.bk}
def Sub.Rk (σ:Sub) (t a:SA):Sub :=
 match t.i1 with
 | .var o=>(σ.LW t.aC {a with i1:=.lit 0}).qx (.var o) a.i1
 | _=>σ.LW t.aC a
def acM (σ:Sub):List Nat→List Nat→Sub
 | a :: r,b :: s=>acM (σ.LW a {aC:=b}) r s
 | _,_=>σ
def Uw (σ:Sub):SC→SC→Sub
 | .int _ e,.int _ f=>σ.qx e f
 | .bool e,.bool f=>σ.yD e f
 | .val i,c=>if Nat.blt i σ.lo then σ else match assoc i σ.vv with | some _=>σ | none=>{σ with vv:=(i,c) :: σ.vv}
 | .ptr a,.ptr b=>σ.Rk a b
 | .sl a l c,.sl b m d=>((σ.Rk a b).qx l m).qx c d
 | .fw k a l c,.sl b m d=>(((σ.yD k (.lit false)).Rk a b).qx l m).qx c d
 | .fw k a l c,.fw k' b m d=>(((σ.yD k k').Rk a b).qx l m).qx c d
 | .fw k a l c,.bG=>let PK:=((σ.yD k (.lit true)).qx l (.lit 0)).qx c (.lit 0);{PK with nb:=a.aC :: PK.nb}
 | .fn _ a,.fn _ b=>acM σ a b
 | .iface _ c,.iface _ d=>Uw σ c d
 | .iY k c,.iY k' d=>Uw (σ.yD k k') c d
 | .iY k c,.dI=>let PK:=σ.yD k (.lit true);match c with | .iface _ (.ptr a)=>{PK with nb:=a.aC :: PK.nb} | _=>PK
 | .iY k (.iface _ c),.iface _ d=>Uw (σ.yD k (.lit false)) c d
 | .mp a,.mp b=>σ.LW a {aC:=b}
 | _,_=>σ
def XH (σ:Sub):List SC→List SC→Sub
 | a :: r,b :: s=>XH (Uw σ a b) r s
 | _,_=>σ
def uSW (σ:Sub):SW→SW→Sub
 | .one a,.one b=>Uw σ a b
 | .agg a,.agg b=>XH σ a b
 | _,_=>σ
def Rl (σ:Sub):List SW→List SW→Sub
 | a :: r,b :: s=>Rl (uSW σ a b) r s
 | _,_=>σ
def uSV (σ:Sub):SV→SV→Sub
 | .w a,.w b=>uSW σ a b
 | .iF a,.iF b=>Rl σ a b
 | .gd c a,.gd d b=>uSW (σ.yD c d) a b
 | _,_=>σ
def Sub.acP (σ:Sub) (r:Nat) (c:CV):Sub :=
 if Nat.blt r σ.lo then σ else match assoc r σ.ct with | some _=>σ | none=>{σ with ct:=(r,c) :: σ.ct}
def Rm (σ:Sub) (A:SB) (a:SA):List ae→Nat→Sub
 | [],_=>σ
 | g :: r,gi =>
  match A.aX[gi]? with
  | some h=>Rm ((σ.qx g.n1 h.n1).acP g.r (.up h gi A.ups ((a.shift g.s1).getD (.lit 0)))) A a r (gi+1)
  | none=>let cs:=A.cs.drop (a.dE.getD 0);Rm ((σ.qx g.n1 (.lit (cs.length / g.s1:Nat))).acP g.r (.ex cs g.s1 g.s2 g.lo)) A a r (gi+1)
def uSB (σ:Sub) (T A:SB) (a:SA):Sub :=
 let σ:=XH (σ.yD T.nl A.nl) T.cs A.cs
 let σ:=match T.cap,A.cap with | some (e,_),some (f,_)=>σ.qx e f | _,_=>σ
 Rm σ A a T.aX 0
def PL (σ:Sub) (hp:List SB):List SB→Nat→Sub
 | [],_=>σ
 | T :: r,k =>
  if T.gone then PL σ hp r (k+1)
  else if Nat.blt k σ.ah then
   match hp[k]? with
   | some A=>PL (if T.wk A && T.sc σ.lo σ.ah then σ else uSB σ T A {aC:=k}) hp r (k+1)
   | none=>σ
  else match assoc k σ.bk with
   | some a=>match hp[a.aC]? with | some A=>PL (uSB σ T A a) hp r (k+1) | none=>σ
   | none=>PL σ hp r (k+1)
def Im (σ:Sub) (hp Ts:List SB):Sub:=PL (PL σ hp Ts 0) hp Ts 0
structure dQ where
 f:FuncId
 nv:Nat
 gl:List (Nat × Nat):=[]
 args:List SW
 hp:List SB
 jf:Nat
 ret:SV
 hp':List SB
 deriving Inhabited
structure Tr where
 σ:Sub
 m:Nat
 d:Nat
 n:Nat
 n0:Nat
def ig {α β γ:Type} (f:α→β→γ):Option α→Option β→Option γ
 | some a,some b=>some (f a b)
 | _,_=>none
theorem fT {α β γ:Type} {f:α→β→γ} {x:Option α} {y:Option β} {z:γ} (h:ig f x y=some z):∃a b,x=some a∧y=some b∧z=f a b:=by
 cases x <;> cases y <;> simp [ig] at h
 exact ⟨_,_,rfl,rfl,h.symm⟩
def IE.tr (t:Tr):IE→Option IE
 | .lit n=>some (.lit n)
 | .var i=>if Nat.blt i t.m then assoc i t.σ.iv else some (.var (i-t.m+t.d))
 | .add a b=>ig .add (a.tr t) (b.tr t)
 | .sub a b=>ig .sub (a.tr t) (b.tr t)
 | .mul a b=>ig .mul (a.tr t) (b.tr t)
 | .div a b=>ig .div (a.tr t) (b.tr t)
 | .mod a b=>ig .mod (a.tr t) (b.tr t)
 | .wrap k a=>(a.tr t).map (.wrap k)
 | .qg a b=>ig .qg (a.tr t) (b.tr t)
 | .imax a b=>ig .imax (a.tr t) (b.tr t)
 | .cell r a b j=>if Nat.blt r t.m then none else ig (fun a b=>.cell (r-t.m+t.d) a b j) (a.tr t) (b.tr t)
def BE.tr (t:Tr):BE→Option BE
 | .lit n=>some (.lit n)
 | .var i=>if Nat.blt i t.m then assoc i t.σ.bv else some (.var (i-t.m+t.d))
 | .not a=>(a.tr t).map .not
 | .and a b=>ig .and (a.tr t) (b.tr t)
 | .or a b=>ig .or (a.tr t) (b.tr t)
 | .ite c a b=>match c.tr t,a.tr t,b.tr t with | some c,some a,some b=>some (.ite c a b) | _,_,_=>none
 | .aA a b=>ig .aA (IE.tr t a) (IE.tr t b)
 | .ai a b=>ig .ai (IE.tr t a) (IE.tr t b)
 | .bO a b=>ig .bO (IE.tr t a) (IE.tr t b)
 | .beq a b=>ig .beq (a.tr t) (b.tr t)
 | .inr k a=>(IE.tr t a).map (.inr k)
 | .cell r a b j=>if Nat.blt r t.m then none else ig (fun a b=>.cell (r-t.m+t.d) a b j) (IE.tr t a) (IE.tr t b)
def LX (t:Tr) (k:Nat):Option Nat :=
 if Nat.blt k t.n then match assoc k t.σ.bk with | some a=>if a.base then some a.aC else none | none=>none
 else some (k-t.n+t.n0)
def SA.tr (t:Tr) (a:SA):Option SA :=
 match LX t a.aC,a.i1.tr t,a.i2.tr t with
 | some b,some i1,some i2=>some {a with aC:=b,i1:=i1,i2:=i2}
 | _,_,_=>none
def KO (t:Tr):List Nat→Option (List Nat)
 | []=>some []
 | k :: r=>ig List.cons (LX t k) (KO t r)
def SC.tr (t:Tr):SC→Option SC
 | .int k e=>(e.tr t).map (.int k)
 | .bool b=>(b.tr t).map .bool
 | .str l=>some (.str l)
 | .val i=>if Nat.blt i t.m then (match assoc i t.σ.vv with | some c=>if c.isHole then none else some c | none=>none) else some (.val (i-t.m+t.d))
 | .jO r a b j=>if Nat.blt r t.m then none else ig (fun a b=>.jO (r-t.m+t.d) a b j) (a.tr t) (b.tr t)
 | .ptr a=>(a.tr t).map .ptr
 | .bI=>some .bI
 | .sl a l c=>match a.tr t,l.tr t,c.tr t with | some a,some l,some c=>some (.sl a l c) | _,_,_=>none
 | .bG=>some .bG
 | .fw k a l c=>match k.tr t,a.tr t,l.tr t,c.tr t with | some k,some a,some l,some c=>some (.fw k a l c) | _,_,_,_=>none
 | .fn f jS=>(KO t jS).map (.fn f)
 | .bE=>some .bE
 | .iface u c=>(c.tr t).map (.iface u)
 | .iY k c=>match k.tr t,c.tr t with | some k,some c=>some (.iY k c) | _,_=>none
 | .mp b=>(LX t b).map .mp
 | .qK=>some .qK
 | .rt t b o=>some (.rt t b o)
 | .dI=>some .dI
 | .hole=>some .hole
def yE (t:Tr):List SC→Option (List SC)
 | []=>some []
 | c :: r=>ig List.cons (c.tr t) (yE t r)
def SW.tr (t:Tr):SW→Option SW
 | .one c=>(c.tr t).map .one
 | .agg cs=>(yE t cs).map .agg
def KP (t:Tr):List SW→Option (List SW)
 | []=>some []
 | c :: r=>ig List.cons (c.tr t) (KP t r)
def SV.tr (t:Tr):SV→Option SV
 | .w x=>(x.tr t).map .w
 | .iF xs=>(KP t xs).map .iF
 | .gd c x=>ig .gd (c.tr t) (x.tr t)
def AJ (t:Tr):List ae→Option (List ae)
 | []=>some []
 | g :: r=>if Nat.blt g.r t.m then none else ig (fun n s=>{g with r:=g.r-t.m+t.d,n1:=n} :: s) (g.n1.tr t) (AJ t r)
def SB.tr (t:Tr) (b:SB):Option SB :=
 if b.gone then some ed
 else if b.ups.isEmpty then
  match yE t b.cs,AJ t b.aX,b.nl.tr t with
  | some cs,some aX,some nl =>
   match b.cap with
   | none=>some {b with cs:=cs,aX:=aX,nl:=nl}
   | some (e,n)=>match e.tr t with | some e=>some {b with cs:=cs,aX:=aX,nl:=nl,cap:=some (e,n)} | none=>none
  | _,_,_=>none
 else none
structure Trd (t:Tr) (cB ρ':Env) (fA aK:Nat→Addr):Prop where
 i:∀i e,i<t.m→assoc i t.σ.iv=some e→e.den ρ'=cB.iv i
 b:∀i e,i<t.m→assoc i t.σ.bv=some e→e.den ρ'=cB.bv i
 v:∀i e,i<t.m→assoc i t.σ.vv=some e→e.den ρ' aK=cB.vv i
 iv:∀i,t.m≤i→ρ'.iv (i-t.m+t.d)=cB.iv i
 bv:∀i,t.m≤i→ρ'.bv (i-t.m+t.d)=cB.bv i
 vv:∀i,t.m≤i→ρ'.vv (i-t.m+t.d)=cB.vv i
 ic:∀i,t.m≤i→ρ'.ic (i-t.m+t.d)=cB.ic i
 bc:∀i,t.m≤i→ρ'.bc (i-t.m+t.d)=cB.bc i
 vc:∀i,t.m≤i→ρ'.vc (i-t.m+t.d)=cB.vc i
 bo:∀k a,k<t.n→assoc k t.σ.bk=some a→a.base=true→aK a.aC=fA k
 bn:∀k,t.n≤k→aK (k-t.n+t.n0)=fA k
section
variable {t:Tr} {cB ρ':Env} {fA aK:Nat→Addr} (H:Trd t cB ρ' fA aK)
include H
theorem IE.dn:∀{e e':IE},e.tr t=some e'→e'.den ρ'=e.den cB:=by
 intro e
 induction e with
 | lit n=>intro e' h;simp [IE.tr] at h;subst h;rfl
 | var i =>
  intro e' h
  simp only [IE.tr] at h
  split at h
  ·rename_i hi;exact H.i i e' (by simpa using hi) h
  ·rename_i hi
   simp at h
   subst h
   exact H.iv i (by simpa using hi)
 | add a b iha ihb | sub a b iha ihb | mul a b iha ihb | div a b iha ihb | mod a b iha ihb | qg a b iha ihb | imax a b iha ihb =>
  intro e' h
  obtain ⟨x,y,h1,h2,rfl⟩:=fT h
  simp only [IE.den,iha h1,ihb h2]
 | wrap k a ih =>
  intro e' h
  simp only [IE.tr,Option.map_eq_some_iff] at h
  obtain ⟨x,h1,rfl⟩:=h
  simp only [IE.den,ih h1]
 | cell r a b j iha ihb =>
  intro e' h
  simp only [IE.tr] at h
  split at h
  ·cases h
  ·rename_i hr
   obtain ⟨x,y,h1,h2,rfl⟩:=fT h
   simp only [IE.den,iha h1,ihb h2,H.ic r (by simpa using hr)]
theorem BE.dn:∀{e e':BE},e.tr t=some e'→e'.den ρ'=e.den cB:=by
 intro e
 induction e with
 | lit n=>intro e' h;simp [BE.tr] at h;subst h;rfl
 | var i =>
  intro e' h
  simp only [BE.tr] at h
  split at h
  ·rename_i hi;exact H.b i e' (by simpa using hi) h
  ·rename_i hi
   simp at h
   subst h
   exact H.bv i (by simpa using hi)
 | and a b iha ihb | or a b iha ihb | beq a b iha ihb =>
  intro e' h
  obtain ⟨x,y,h1,h2,rfl⟩:=fT h
  simp only [BE.den,iha h1,ihb h2]
 | aA a b | ai a b | bO a b =>
  intro e' h
  obtain ⟨x,y,h1,h2,rfl⟩:=fT h
  simp only [BE.den,IE.dn H h1,IE.dn H h2]
 | not a ih =>
  intro e' h
  simp only [BE.tr,Option.map_eq_some_iff] at h
  obtain ⟨x,h1,rfl⟩:=h
  simp only [BE.den,ih h1]
 | inr k a =>
  intro e' h
  simp only [BE.tr,Option.map_eq_some_iff] at h
  obtain ⟨x,h1,rfl⟩:=h
  simp only [BE.den,IE.dn H h1]
 | ite c a b ihc iha ihb =>
  intro e' h
  simp only [BE.tr] at h
  split at h
  ·rename_i x y z h1 h2 h3
   simp at h
   subst h
   simp only [BE.den,ihc h1,iha h2,ihb h3]
  ·cases h
 | cell r a b j =>
  intro e' h
  simp only [BE.tr] at h
  split at h
  ·cases h
  ·rename_i hr
   obtain ⟨x,y,h1,h2,rfl⟩:=fT h
   simp only [BE.den,IE.dn H h1,IE.dn H h2,H.bc r (by simpa using hr)]
theorem Io {k b:Nat} (h:LX t k=some b):aK b=fA k:=by
 unfold LX at h
 split at h
 ·rename_i hk
  split at h
  ·rename_i a ha
   split at h
   ·rename_i hb
    simp at h
    subst h
    exact H.bo k a (by simpa using hk) ha hb
   ·cases h
  ·cases h
 ·rename_i hk
  simp at h
  subst h
  exact H.bn k (by simpa using hk)
theorem SA.dn {a a':SA} (h:a.tr t=some a'):a'.den ρ' aK=a.den cB fA:=by
 unfold SA.tr at h
 split at h
 ·rename_i b i1 i2 h1 h2 h3
  simp at h
  subst h
  simp only [SA.den,SA.off,Io H h1,IE.dn H h2,IE.dn H h3]
 ·cases h
theorem LY:∀{l l':List Nat},KO t l=some l'→l'.map aK=l.map fA
 | [],l',h=>by simp [KO] at h;subst h;rfl
 | k :: r,l',h=>by
  obtain ⟨x,y,h1,h2,rfl⟩:=fT h
  simp only [List.map_cons,Io H h1,LY h2]
theorem SC.dn:∀{c c':SC},c.tr t=some c'→c'.den ρ' aK=c.den cB fA∧(c.isHole=false→c'.isHole=false)∧(c.isHole=true→c'.isHole=true):=by
 intro c
 induction c with
 | int k e =>
  intro c' h
  simp only [SC.tr,Option.map_eq_some_iff] at h
  obtain ⟨x,h1,rfl⟩:=h
  exact ⟨by simp only [SC.den,IE.dn H h1],fun _=>rfl,fun h=>by cases h⟩
 | bool e =>
  intro c' h
  simp only [SC.tr,Option.map_eq_some_iff] at h
  obtain ⟨x,h1,rfl⟩:=h
  exact ⟨by simp only [SC.den,BE.dn H h1],fun _=>rfl,fun h=>by cases h⟩
 | val i =>
  intro c' h
  simp only [SC.tr] at h
  split at h
  ·rename_i hi
   split at h
   ·rename_i c hc
    split at h
    ·cases h
    ·rename_i hh
     simp at h
     subst h
     have:=H.v i c (by simpa using hi) hc
     refine ⟨?_,fun _=>by simpa using hh,fun h=>by cases h⟩
     simp only [SC.den,←this]
     exact (Cw (SC.sI c (by simpa using hh))).symm
   ·cases h
  ·rename_i hi
   simp at h
   subst h
   exact ⟨by simp only [SC.den,H.vv i (by simpa using hi)],fun _=>rfl,fun h=>by cases h⟩
 | jO r a b j =>
  intro c' h
  simp only [SC.tr] at h
  split at h
  ·cases h
  ·rename_i hr
   obtain ⟨x,y,h1,h2,rfl⟩:=fT h
   exact ⟨by simp only [SC.den,IE.dn H h1,IE.dn H h2,H.vc r (by simpa using hr)],fun _=>rfl,fun h=>by cases h⟩
 | ptr a =>
  intro c' h
  simp only [SC.tr,Option.map_eq_some_iff] at h
  obtain ⟨x,h1,rfl⟩:=h
  exact ⟨by simp only [SC.den,SA.dn H h1],fun _=>rfl,fun h=>by cases h⟩
 | sl a l c =>
  intro c' h
  simp only [SC.tr] at h
  split at h
  ·rename_i x y z h1 h2 h3
   simp at h
   subst h
   exact ⟨by simp only [SC.den,SA.dn H h1,IE.dn H h2,IE.dn H h3],fun _=>rfl,fun h=>by cases h⟩
  ·cases h
 | fw k a l c =>
  intro c' h
  simp only [SC.tr] at h
  split at h
  ·rename_i k x y z h0 h1 h2 h3
   simp at h
   subst h
   exact ⟨by simp only [SC.den,BE.dn H h0,SA.dn H h1,IE.dn H h2,IE.dn H h3],fun _=>rfl,fun h=>by cases h⟩
  ·cases h
 | fn f jS =>
  intro c' h
  simp only [SC.tr,Option.map_eq_some_iff] at h
  obtain ⟨x,h1,rfl⟩:=h
  have:=LY H h1
  refine ⟨?_,fun _=>rfl,fun h=>by cases h⟩
  simp only [SC.den]
  have e:∀(μ:Nat→Addr) (l:List Nat),(l.map fun b=>Value.pointer (some (μ b)))=(l.map μ).map fun a=>Value.pointer (some a):=fun μ l=>by simp
  rw [e,e,this]
 | iface u c ih =>
  intro c' h
  simp only [SC.tr,Option.map_eq_some_iff] at h
  obtain ⟨x,h1,rfl⟩:=h
  exact ⟨by simp only [SC.den,(ih h1).1],fun _=>rfl,fun h=>by cases h⟩
 | iY k c ih =>
  intro c' h
  simp only [SC.tr] at h
  split at h
  ·rename_i k' x h0 h1
   simp at h
   subst h
   obtain ⟨i1,i2,i3⟩:=ih h1
   exact ⟨by simp only [SC.den,BE.dn H h0,i1],i2,i3⟩
  ·cases h
 | mp b =>
  intro c' h
  simp only [SC.tr,Option.map_eq_some_iff] at h
  obtain ⟨x,h1,rfl⟩:=h
  exact ⟨by simp only [SC.den,Io H h1],fun _=>rfl,fun h=>by cases h⟩
 | _ =>
  intro c' h
  simp only [SC.tr,Option.some.injEq] at h
  subst h
  exact ⟨rfl,fun h=>h,fun h=>h⟩
theorem LZ:∀{l l':List SC},yE t l=some l'→l'.length=l.length∧∀(p:Nat) (c':SC),l'[p]?=some c'→∃c,l[p]?=some c∧c.tr t=some c'
 | [],l',h=>by have _:=H;simp [yE] at h;subst h;exact ⟨rfl,fun p c h=>by simp at h⟩
 | c :: r,l',h=>by
  obtain ⟨x,y,h1,h2,rfl⟩:=fT h
  obtain ⟨h3,h4⟩:=LZ h2
  refine ⟨by simp [h3],fun p c' hp=>?_⟩
  cases p with
  | zero=>simp at hp;subst hp;exact ⟨c,rfl,h1⟩
  | succ p=>simpa using h4 p c' (by simpa using hp)
theorem JB:∀{l l':List SC},yE t l=some l'→l'.map (·.den ρ' aK)=l.map (·.den cB fA)
 | [],l',h=>by simp [yE] at h;subst h;rfl
 | c :: r,l',h=>by
  obtain ⟨x,y,h1,h2,rfl⟩:=fT h
  simp only [List.map_cons,(SC.dn H h1).1,JB h2]
theorem SW.dn {x x':SW} (h:x.tr t=some x'):x'.den ρ' aK=x.den cB fA:=by
 cases x <;> simp only [SW.tr,Option.map_eq_some_iff] at h <;> obtain ⟨y,h1,rfl⟩:=h
 ·exact (SC.dn H h1).1
 ·simp only [SW.den,JB H h1]
theorem JC:∀{l l':List SW},KP t l=some l'→l'.map (·.den ρ' aK)=l.map (·.den cB fA)
 | [],l',h=>by simp [KP] at h;subst h;rfl
 | c :: r,l',h=>by
  obtain ⟨x,y,h1,h2,rfl⟩:=fT h
  simp only [List.map_cons,SW.dn H h1,JC h2]
theorem SV.dn {x x':SV} (h:x.tr t=some x'):x'.den ρ' aK=x.den cB fA:=by
 cases x <;> simp only [SV.tr] at h
 ·simp only [Option.map_eq_some_iff] at h
  obtain ⟨y,h1,rfl⟩:=h
  exact SW.dn H h1
 ·simp only [Option.map_eq_some_iff] at h
  obtain ⟨y,h1,rfl⟩:=h
  simp only [SV.den,JC H h1]
 ·obtain ⟨y,z,h1,h2,rfl⟩:=fT h
  simp only [SV.den,BE.dn H h1,SW.dn H h2]
theorem JF:∀{l l':List ae},AJ t l=some l'→(l=[]↔l'=[])∧∀(p:Nat) (g':ae),l'[p]?=some g'→∃g n,l[p]?=some g∧t.m≤g.r∧g.n1.tr t=some n∧g'={g with r:=g.r-t.m+t.d,n1:=n}
 | [],l',h=>by have _:=H;simp [AJ] at h;subst h;exact ⟨Iff.rfl,fun p c h=>by simp at h⟩
 | g :: r,l',h=>by
  simp only [AJ] at h
  split at h
  ·cases h
  rename_i hr
  obtain ⟨x,y,h1,h2,rfl⟩:=fT h
  obtain ⟨-,h4⟩:=JF h2
  refine ⟨by simp,fun p c' hp=>?_⟩
  cases p with
  | zero=>simp at hp;subst hp;exact ⟨g,x,rfl,by simpa using hr,h1,rfl⟩
  | succ p=>simpa using h4 p c' (by simpa using hp)
theorem SB.ZP {b b':SB} (h:b.tr t=some b') (hg:b'.gone=false):b.gone=false∧b'.t=b.t∧b'.ro=b.ro∧b'.own=b.own∧b'.nl.den ρ'=b.nl.den cB∧∀arr,b.has cB fA arr→b'.has ρ' aK arr:=by
 unfold SB.tr at h
 split at h
 ·simp at h;subst h;cases hg
 rename_i hbg
 split at h
 case isFalse=>cases h
 rename_i hu
 have hu':b.ups=[]:=by simpa using hu
 split at h
 case h_2=>cases h
 rename_i cs aX nl h1 h2 h3
 obtain ⟨c1,c2⟩:=LZ H h1
 obtain ⟨s1,s2⟩:=JF H h2
 have key:∀b2:SB,b2.cs=cs→b2.aX=aX→b2.ups=b.ups→b2.opn=b.opn→(∀e n,b2.cap=some (e,n)→∃e0,b.cap=some (e0,n)∧e0.tr t=some e)→∀arr,b.has cB fA arr→b2.has ρ' aK arr:=by
  intro b2 e1 e2 e3 e4 e5 arr hb
  refine ⟨fun u hu=>(by rw [e3,hu'] at hu;cases hu),fun hs ho=>?_,fun e n he=>?_,fun p c hp hh=>?_,fun gi g hgi i1 i2 j a1 a2 a3=>?_⟩
  ·rw [e1,c1]
   exact hb.size (s1.2 (e2 ▸ hs)) (e4 ▸ ho)
  ·obtain ⟨e0,h5,h6⟩:=e5 e n he
   rw [IE.dn H h6]
   exact hb.cap e0 n h5
  ·obtain ⟨c0,h5,h6⟩:=c2 p c (e1 ▸ hp)
   obtain ⟨h7,-,h9⟩:=SC.dn H h6
   rw [h7]
   refine hb.ex p c0 h5 ?_
   cases hc:c0.isHole with
   | false=>rfl
   | true=>rw [h9 hc] at hh;cases hh
  ·obtain ⟨g0,n,h5,h6,h7,rfl⟩:=s2 gi g (e2 ▸ hgi)
   simp only [IE.dn H h7] at a1
   have:=hb.sg gi g0 h5 i1 i2 j a1 a2 a3
   rw [hu'] at this
   rw [e3,hu']
   simp only [cK] at this ⊢
   rw [this]
   simp only [ae.base,H.ic _ h6,H.bc _ h6,H.vc _ h6]
 split at h
 ·rename_i hcap
  simp at h
  subst h
  exact ⟨by simpa using hbg,rfl,rfl,rfl,BE.dn H h3,key _ rfl rfl rfl rfl (fun e n he=>by rw [hcap] at he;cases he)⟩
 ·rename_i e n hcap
  split at h
  ·rename_i e' he'
   simp at h
   subst h
   refine ⟨by simpa using hbg,rfl,rfl,rfl,BE.dn H h3,key _ rfl rfl rfl rfl (fun e1 n1 he=>?_)⟩
   simp at he
   exact ⟨e,by rw [hcap,he.2],by rw [←he.1];exact he'⟩
  ·cases h
end
end Go.Rex
