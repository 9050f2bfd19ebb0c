/- part 3 of the proof -/
import Derived.Test.YthomdlajobnmnaaGreatDoorT2
set_option linter.unusedSimpArgs false
set_option linter.unusedVariables false
namespace Go.Rex
inductive CV where
 | up (g:ae) (gi:Nat) (us:List Up) (sh:IE)
 | ex (cs:List SC) (s1 s2 lo:Nat)
 deriving Inhabited
def SC.I (ρ:Env):SC→Int
 | .int _ e=>e.den ρ
 | _=>0
def SC.B (ρ:Env):SC→Bool
 | .bool b=>b.den ρ
 | _=>false
def ah (ρ:Env):List Up→Nat→Nat→Nat→Nat→Int→Int
 | [],_,_,_,_,b=>b
 | u :: r,g,i1,i2,j,b =>
  if u.g=g∧(u.i1.den ρ).toNat=i1∧(u.i2.den ρ).toNat=i2∧u.j=j then u.c.I ρ else ah ρ r g i1 i2 j b
def ai (ρ:Env):List Up→Nat→Nat→Nat→Nat→Bool→Bool
 | [],_,_,_,_,b=>b
 | u :: r,g,i1,i2,j,b =>
  if u.g=g∧(u.i1.den ρ).toNat=i1∧(u.i2.den ρ).toNat=i2∧u.j=j then u.c.B ρ else ai ρ r g i1 i2 j b
def ae.I (ρ:Env) (g:ae) (i1 i2 j:Nat):Int:=if g.z then 0 else ρ.ic g.r i1 i2 j
def ae.B (ρ:Env) (g:ae) (i1 i2 j:Nat):Bool:=if g.z then false else ρ.bc g.r i1 i2 j
def CV.I (ρ:Env):CV→Nat→Nat→Nat→Int
 | .up g gi us sh,i1,i2,j=>ah ρ us gi ((sh.den ρ).toNat+i1) i2 j (g.I ρ ((sh.den ρ).toNat+i1) i2 j)
 | .ex cs s1 s2 lo,i1,i2,j=>(cs.getD (i1 * s1+i2 * s2+lo+j) .hole).I ρ
def CV.B (ρ:Env):CV→Nat→Nat→Nat→Bool
 | .up g gi us sh,i1,i2,j=>ai ρ us gi ((sh.den ρ).toNat+i1) i2 j (g.B ρ ((sh.den ρ).toNat+i1) i2 j)
 | .ex cs s1 s2 lo,i1,i2,j=>(cs.getD (i1 * s1+i2 * s2+lo+j) .hole).B ρ
def CV.V (ρ:Env) (ν:Nat→Addr):CV→Nat→Nat→Nat→Value
 | .up g gi us sh,i1,i2,j=>cu ρ ν us gi ((sh.den ρ).toNat+i1) i2 j (g.base ρ ((sh.den ρ).toNat+i1) i2 j)
 | .ex cs s1 s2 lo,i1,i2,j=>(cs.getD (i1 * s1+i2 * s2+lo+j) .hole).den ρ ν
def l5:Kd→SC→Bool
 | .int k,.int l _=>jB k l
 | .bool,.bool _=>true
 | .val,c=>!c.isHole
 | _,_=>false
def lF (ks:List Kd) (gi:Nat):List Up→Bool
 | []=>true
 | u :: r=>(!(u.g == gi) || (match ks[u.j]? with | some k=>l5 k u.c | none=>true)) && lF ks gi r
theorem F5 {k:IntKind} {c:SC} (h:l5 (.int k) c=true) (ρ:Env) (ν:Nat→Addr):c.den ρ ν=.int k (c.I ρ):=by
 cases c <;> simp [l5] at h
 rw [gV h];rfl
theorem Db {c:SC} (h:l5 .bool c=true) (ρ:Env) (ν:Nat→Addr):c.den ρ ν=.bool (c.B ρ):=by
 cases c <;> simp [l5] at h
 rfl
theorem F6 {c:SC} (h:l5 .val c=true) (ρ:Env) (ν:Nat→Addr):(c.den ρ ν).oneCell'=true:=by
 refine SC.qW c ?_
 cases c <;> simp_all [l5,SC.isHole]
section
variable {ρ:Env} {ν:Nat→Addr} {ks:List Kd} {gi:Nat}
theorem Dc {k:IntKind} {i1 i2 j:Nat} {b:Int} (hj:ks[j]?=some (.int k)):∀{us:List Up},lF ks gi us=true →
  cu ρ ν us gi i1 i2 j (.int k b)=.int k (ah ρ us gi i1 i2 j b)
 | [],_=>rfl
 | u :: r,h=>by
  simp only [lF,Bool.and_eq_true,Bool.or_eq_true,Bool.not_eq_true',beq_eq_false_iff_ne,ne_eq] at h
  unfold cu ah
  split
  ·rename_i hc
   obtain ⟨e1,-,-,e2⟩:=hc
   rcases h.1 with h1 | h1
   ·exact absurd e1 h1
   ·rw [e2,hj] at h1
    exact F5 h1 ρ ν
  ·exact Dc hj h.2
theorem Av {i1 i2 j:Nat} {b:Bool} (hj:ks[j]?=some .bool):∀{us:List Up},lF ks gi us=true →
  cu ρ ν us gi i1 i2 j (.bool b)=.bool (ai ρ us gi i1 i2 j b)
 | [],_=>rfl
 | u :: r,h=>by
  simp only [lF,Bool.and_eq_true,Bool.or_eq_true,Bool.not_eq_true',beq_eq_false_iff_ne,ne_eq] at h
  unfold cu ai
  split
  ·rename_i hc
   obtain ⟨e1,-,-,e2⟩:=hc
   rcases h.1 with h1 | h1
   ·exact absurd e1 h1
   ·rw [e2,hj] at h1
    exact Db h1 ρ ν
  ·exact Av hj h.2
theorem De {i1 i2 j:Nat} {b:Value} (hb:b.oneCell'=true) (hj:ks[j]?=some .val):∀{us:List Up},lF ks gi us=true →
  (cu ρ ν us gi i1 i2 j b).oneCell'=true
 | [],_=>hb
 | u :: r,h=>by
  simp only [lF,Bool.and_eq_true,Bool.or_eq_true,Bool.not_eq_true',beq_eq_false_iff_ne,ne_eq] at h
  unfold cu
  split
  ·rename_i hc
   obtain ⟨e1,-,-,e2⟩:=hc
   rcases h.1 with h1 | h1
   ·exact absurd e1 h1
   ·rw [e2,hj] at h1
    exact F6 h1 ρ ν
  ·exact De hb hj h.2
def mV (kd:Option Kd) (i:Int) (b:Bool) (v:Value):Value :=
 match kd with
 | some (.int k)=>.int k i
 | some .bool=>.bool b
 | _=>xL v
theorem ae.zN (g:ae) (hz:g.z=false) (i1 i2 j:Nat):g.base ρ i1 i2 j=mV g.ks[j]? (ρ.ic g.r i1 i2 j) (ρ.bc g.r i1 i2 j) (ρ.vc g.r i1 i2 j):=by
 unfold ae.base mV
 rw [hz]
 rfl
theorem MU {g:ae} {us:List Up} {i1 i2 j:Nat} (hj:j<g.ks.length) (hf:lF g.ks gi us=true) :
  cu ρ ν us gi i1 i2 j (g.base ρ i1 i2 j)=mV g.ks[j]? (ah ρ us gi i1 i2 j (g.I ρ i1 i2 j)) (ai ρ us gi i1 i2 j (g.B ρ i1 i2 j)) (cu ρ ν us gi i1 i2 j (g.base ρ i1 i2 j)):=by
 have hjs:g.ks[j]?=some g.ks[j]:=List.getElem?_eq_getElem hj
 cases hk:g.ks[j] with
 | int k =>
  rw [hk] at hjs
  have hb:g.base ρ i1 i2 j=.int k (g.I ρ i1 i2 j):=by unfold ae.base;rw [hjs];rfl
  rw [hjs,hb,Dc hjs hf]
  rfl
 | bool =>
  rw [hk] at hjs
  have hb:g.base ρ i1 i2 j=.bool (g.B ρ i1 i2 j):=by unfold ae.base;rw [hjs];rfl
  rw [hjs,hb,Av hjs hf]
  rfl
 | val =>
  rw [hk] at hjs
  rw [hjs]
  have hb:(g.base ρ i1 i2 j).oneCell'=true:=by unfold ae.base;rw [hjs];exact AY _
  simp only [mV]
  rw [zF (De hb hjs hf)]
theorem Pb {kd:Kd} {c:SC} (h:l5 kd c=true):c.den ρ ν=mV (some kd) (c.I ρ) (c.B ρ) (c.den ρ ν):=by
 cases kd with
 | int k=>simpa [mV] using F5 h ρ ν
 | bool=>simpa [mV] using Db h ρ ν
 | val=>simp only [mV];rw [zF (F6 h ρ ν)]
end
structure Sub where
 lo:Nat
 az:Nat
 iv:List (Nat × IE):=[]
 bv:List (Nat × BE):=[]
 vv:List (Nat × SC):=[]
 ct:List (Nat × CV):=[]
 bk:List (Nat × SA):=[]
 nb:List Nat:=[]
 deriving Inhabited
def Env.num (ρ:Env):Env:={ρ with vv:=fun _=>undef,vc:=fun _ _ _ _=>undef}
def Sub.ag (σ:Sub) (ρ:Env):Env where
 iv:=fun i=>if i<σ.lo then ρ.iv i else match assoc i σ.iv with | some e=>e.den ρ | none=>0
 bv:=fun i=>if i<σ.lo then ρ.bv i else match assoc i σ.bv with | some e=>e.den ρ | none=>false
 ic:=fun r=>if r<σ.lo then ρ.ic r else match assoc r σ.ct with | some c=>c.I ρ | none=>fun _ _ _=>0
 bc:=fun r=>if r<σ.lo then ρ.bc r else match assoc r σ.ct with | some c=>c.B ρ | none=>fun _ _ _=>false
def Sub.env (σ:Sub) (ρ:Env) (ν:Nat→Addr):Env :=
 {σ.ag ρ with
   vv:=fun i=>if i<σ.lo then ρ.vv i else match assoc i σ.vv with | some e=>e.den ρ ν | none=>undef
   vc:=fun r=>if r<σ.lo then ρ.vc r else match assoc r σ.ct with | some c=>c.V ρ ν | none=>fun _ _ _=>undef}
def Sub.fw (σ:Sub) (ρ:Env) (ν:Nat→Addr):Nat→Addr :=
 fun k=>if k<σ.az then ν k else match assoc k σ.bk with | some a=>a.den ρ ν | none=>⟨0,0,none⟩
theorem Sub.gM (σ:Sub) (ρ:Env) (ν:Nat→Addr):di σ.lo σ.az ρ (σ.env ρ ν) ν (σ.fw ρ ν) :=
 ⟨fun i hi=>by simp [Sub.env,Sub.ag,hi],fun i hi=>by simp [Sub.env,Sub.ag,hi],fun i hi=>by simp [Sub.env,hi],fun i hi=>by simp [Sub.env,Sub.ag,hi],
  fun i hi=>by simp [Sub.env,Sub.ag,hi],fun i hi=>by simp [Sub.env,hi],fun i hi=>by simp [Sub.fw,hi]⟩
def yf (σ:Sub) (t e:IE):Bool :=
 match t with
 | .var i=>if Nat.blt i σ.lo then t.same e else match assoc i σ.iv with | some x=>x.same e | none=>false
 | _=>t.same e && t.sc σ.lo
def xC (σ:Sub) (t e:BE):Bool :=
 match t with
 | .var i=>if Nat.blt i σ.lo then t.same e else match assoc i σ.bv with | some x=>x.same e | none=>false
 | _=>t.same e && t.sc σ.lo
def IE.Li:IE→Bool
 | .lit 0=>true
 | _=>false
theorem IE.Df {ρ:Env} {a:IE} (h:a.Li=true):a.den ρ=0:=by
 unfold IE.Li at h
 split at h
 ·rfl
 ·cases h
def Lj (σ:Sub) (t a:SA):Bool :=
 if Nat.blt t.aD σ.az then t.same a && t.sc σ.lo σ.az
 else match t.i1 with
  | .var o=>yf σ (.var o) a.i1 && t.s1 == a.s1 && t.i2.Li && a.i2.Li && t.j == 0 && a.j == 0 && (match assoc t.aD σ.bk with | some x=>x.aD == a.aD && x.i1.Li && x.i2.Li && x.j == 0 | none=>false)
  | _=>(match t.dm with | some 0=>true | _=>false) && (match assoc t.aD σ.bk with | some x=>x.same a | none=>false)
def Ll (σ:Sub) (t b:Nat):Bool :=
 if Nat.blt t σ.az then t == b else match assoc t σ.bk with | some x=>x.same {aD:=b} | none=>false
def EH (σ:Sub):List Nat→List Nat→Bool
 | [],[]=>true
 | a :: r,b :: s=>Ll σ a b && EH σ r s
 | _,_=>false
def iY (σ:Sub):SC→SC→Bool
 | .int k e,.int l f=>jB k l && yf σ e f
 | .bool e,.bool f=>xC σ e f
 | .val i,c=>if Nat.blt i σ.lo then (SC.val i).same c else match assoc i σ.vv with | some x=>x.same c && !c.isHole | none=>false
 | .ptr a,.ptr b=>Lj σ a b
 | .sl a l c,.sl b m d=>Lj σ a b && yf σ l m && yf σ c d
 | .eY k a l c,.sl b m d=>xC σ k (.lit false) && Lj σ a b && yf σ l m && yf σ c d
 | .eY k a l c,.eY k' b m d=>xC σ k k' && Lj σ a b && yf σ l m && yf σ c d
 | .eY k _ _ _,.bg=>xC σ k (.lit true)
 | .fn f a,.fn g b=>f == g && EH σ a b
 | .iface t c,.iface u d=>t == u && iY σ c d
 | .iB k c,.iB k' d=>xC σ k k' && iY σ c d
 | .iB k _,.df=>xC σ k (.lit true)
 | .iB k c,.iface u d=>xC σ k (.lit false) && iY σ c (.iface u d)
 | .mp a,.mp b=>Ll σ a b
 | t,c=>t.same c && t.sc σ.lo σ.az
def EI (σ:Sub):List SC→List SC→Bool
 | [],[]=>true
 | a :: r,b :: s=>iY σ a b && EI σ r s
 | _,_=>false
def Pf (σ:Sub):SW→SW→Bool
 | .one a,.one b=>iY σ a b
 | .agg a,.agg b=>EI σ a b
 | _,_=>false
def Bl (σ:Sub):List SW→List SW→Bool
 | [],[]=>true
 | a :: r,b :: s=>Pf σ a b && Bl σ r s
 | _,_=>false
def Uz (σ:Sub):SV→SV→Bool
 | .w a,.w b=>Pf σ a b
 | .gZ a,.gZ b=>Bl σ a b
 | .gd c a,.gd d b=>xC σ c d && Pf σ a b
 | _,_=>false
section
variable {ρ:Env} {ν:Nat→Addr} {σ:Sub}
theorem nU {t e:IE} (h:yf σ t e=true):t.den (σ.env ρ ν)=e.den ρ:=by
 unfold yf at h
 split at h
 ·rename_i i
  split at h
  ·rename_i hi
   rw [←IE.aC h]
   exact IE.aN (σ.gM ρ ν) (e:=.var i) hi
  ·rename_i hi
   split at h
   ·rename_i x hx
    have hi':¬i<σ.lo:=by simpa using hi
    simp only [IE.den,Sub.env,Sub.ag,if_neg hi',hx,IE.aC h]
   ·cases h
 ·simp only [Bool.and_eq_true] at h
  rw [←IE.aC h.1]
  exact IE.aN (σ.gM ρ ν) h.2
theorem mH {t e:BE} (h:xC σ t e=true):t.den (σ.env ρ ν)=e.den ρ:=by
 unfold xC at h
 split at h
 ·rename_i i
  split at h
  ·rename_i hi
   rw [←BE.aC h]
   exact BE.aN (σ.gM ρ ν) (e:=.var i) hi
  ·rename_i hi
   split at h
   ·rename_i x hx
    have hi':¬i<σ.lo:=by simpa using hi
    simp only [BE.den,Sub.env,Sub.ag,if_neg hi',hx,BE.aC h]
   ·cases h
 ·simp only [Bool.and_eq_true] at h
  rw [←BE.aC h.1]
  exact BE.aN (σ.gM ρ ν) h.2
theorem Dg {t a:SA} (h:Lj σ t a=true):t.den (σ.env ρ ν) (σ.fw ρ ν)=a.den ρ ν:=by
 unfold Lj at h
 split at h
 ·simp only [Bool.and_eq_true] at h
  rw [←SA.aC h.1]
  exact SA.aN (σ.gM ρ ν) h.2
 ·rename_i hb
  have hb':¬t.aD<σ.az:=by simpa using hb
  split at h
  ·rename_i o ho
   simp only [Bool.and_eq_true,beq_iff_eq] at h
   obtain ⟨⟨⟨⟨⟨⟨h1,h2⟩,h3⟩,h4⟩,h5⟩,h6⟩,h7⟩:=h
   split at h7
   ·rename_i x hx
    simp only [Bool.and_eq_true,beq_iff_eq] at h7
    obtain ⟨⟨⟨g1,g2⟩,g3⟩,g4⟩:=h7
    have e1:=nU (ρ:=ρ) (ν:=ν) h1
    have ha:σ.fw ρ ν t.aD=ν a.aD:=by
     simp only [Sub.fw,if_neg hb',hx]
     simp [SA.den,SA.off,IE.Df g2,IE.Df g3,g4,g1,Addr.add_zero]
    simp only [SA.den,SA.off,ho,e1,ha,h2,h5,h6,IE.Df h3,IE.Df h4,Int.toNat_zero,Nat.zero_mul]
   ·cases h7
  simp only [Bool.and_eq_true] at h
  obtain ⟨h1,h2⟩:=h
  split at h1
  ·rename_i hl
   split at h2
   ·rename_i x hx
    simp only [SA.den,SA.aO hl,Addr.add_zero]
    simp only [Sub.fw,if_neg hb',hx,SA.aC h2]
    rfl
   ·cases h2
  ·cases h1
theorem yg {t b:Nat} (h:Ll σ t b=true):σ.fw ρ ν t=ν b:=by
 unfold Ll at h
 split at h
 ·rename_i hb
  simp only [beq_iff_eq] at h
  subst h
  simp only [Sub.fw,if_pos (show t<σ.az by simpa using hb)]
 ·rename_i hb
  have hb':¬t<σ.az:=by simpa using hb
  split at h
  ·rename_i x hx
   simp only [Sub.fw,if_neg hb',hx,SA.aC h]
   simp [SA.den,SA.off,IE.den,Addr.add_zero]
  ·cases h
theorem Lm:∀{t b:List Nat},EH σ t b=true→(t.map fun k=>Value.pointer (some (σ.fw ρ ν k)))=b.map fun k=>Value.pointer (some (ν k))
 | [],[],_=>rfl
 | [],_ :: _,h=>by simp [EH] at h
 | _ :: _,[],h=>by simp [EH] at h
 | a :: r,b :: s,h=>by
  simp only [EH,Bool.and_eq_true] at h
  simp only [List.map_cons,yg (ρ:=ρ) (ν:=ν) h.1,Lm h.2]
theorem Dh:∀{t c:SC},iY σ t c=true→t.den (σ.env ρ ν) (σ.fw ρ ν)=c.den ρ ν:=by
 intro t
 have dflt:∀{t c:SC},(t.same c && t.sc σ.lo σ.az)=true→t.den (σ.env ρ ν) (σ.fw ρ ν)=c.den ρ ν:=by
  intro t c h
  simp only [Bool.and_eq_true] at h
  rw [←SC.aC h.1]
  exact SC.aN (σ.gM ρ ν) h.2
 induction t with
 | int k e =>
  intro c h
  cases c with
  | int l f =>
   simp only [iY,Bool.and_eq_true] at h
   simp only [SC.den,nU (ν:=ν) h.2,gV h.1]
  | _=>exact dflt (by simpa [iY] using h)
 | bool e =>
  intro c h
  cases c with
  | bool f =>
   simp only [iY] at h
   simp only [SC.den,mH (ν:=ν) h]
  | _=>exact dflt (by simpa [iY] using h)
 | val i =>
  intro c h
  simp only [iY] at h
  split at h
  ·rename_i hi
   rw [←SC.aC h]
   exact SC.aN (σ.gM ρ ν) (c:=.val i) hi
  ·rename_i hi
   have hi':¬i<σ.lo:=by simpa using hi
   split at h
   ·rename_i x hx
    simp only [Bool.and_eq_true,Bool.not_eq_true'] at h
    simp only [SC.den,Sub.env,if_neg hi',hx,SC.aC h.1]
    exact zF (SC.qW c h.2)
   ·cases h
 | ptr a =>
  intro c h
  cases c with
  | ptr b =>
   simp only [iY] at h
   simp only [SC.den,Dg (ρ:=ρ) (ν:=ν) h]
  | _=>exact dflt (by simpa [iY] using h)
 | sl a l k =>
  intro c h
  cases c with
  | sl b m d =>
   simp only [iY,Bool.and_eq_true] at h
   simp only [SC.den,Dg (ρ:=ρ) (ν:=ν) h.1.1,nU (ν:=ν) h.1.2,nU (ν:=ν) h.2]
  | _=>exact dflt (by simpa [iY] using h)
 | eY k a l x =>
  intro c h
  cases c with
  | sl b m d =>
   simp only [iY,Bool.and_eq_true] at h
   simp only [SC.den,mH (ν:=ν) h.1.1.1,BE.den,Dg (ρ:=ρ) (ν:=ν) h.1.1.2,nU (ν:=ν) h.1.2,nU (ν:=ν) h.2]
   rfl
  | eY k' b m d =>
   simp only [iY,Bool.and_eq_true] at h
   simp only [SC.den,mH (ν:=ν) h.1.1.1,Dg (ρ:=ρ) (ν:=ν) h.1.1.2,nU (ν:=ν) h.1.2,nU (ν:=ν) h.2]
  | bg =>
   simp only [iY] at h
   simp only [SC.den,mH (ν:=ν) h,BE.den,if_true]
  | _=>exact dflt (by simpa [iY] using h)
 | fn f a =>
  intro c h
  cases c with
  | fn g b =>
   simp only [iY,Bool.and_eq_true,beq_iff_eq] at h
   simp only [SC.den,h.1,Lm (ρ:=ρ) (ν:=ν) h.2]
  | _=>exact dflt (by simpa [iY] using h)
 | iface t x ih =>
  intro c h
  cases c with
  | iface u d =>
   simp only [iY,Bool.and_eq_true,beq_iff_eq] at h
   simp only [SC.den,h.1,ih h.2]
  | _=>exact dflt (by simpa [iY] using h)
 | iB k x ih =>
  intro c h
  cases c with
  | iB k' d =>
   simp only [iY,Bool.and_eq_true] at h
   simp only [SC.den,mH (ν:=ν) h.1,ih h.2]
  | df =>
   simp only [iY] at h
   simp only [SC.den,mH (ν:=ν) h,BE.den,if_true]
  | iface u d =>
   simp only [iY,Bool.and_eq_true] at h
   have h2:=ih h.2
   simp only [SC.den,mH (ν:=ν) h.1,BE.den,Bool.false_eq_true,if_false] at h2 ⊢
   exact h2
  | _=>exact dflt (by simpa [iY] using h)
 | mp a =>
  intro c h
  cases c with
  | mp b =>
   simp only [iY] at h
   simp only [SC.den,yg (ρ:=ρ) (ν:=ν) h]
  | _=>exact dflt (by simpa [iY] using h)
 | _ =>
  intro c h
  exact dflt (by simpa [iY] using h)
theorem Lp:∀{t c:List SC},EI σ t c=true→(t.map fun x=>x.den (σ.env ρ ν) (σ.fw ρ ν))=c.map fun x=>x.den ρ ν
 | [],[],_=>rfl
 | [],_ :: _,h=>by simp [EI] at h
 | _ :: _,[],h=>by simp [EI] at h
 | a :: r,b :: s,h=>by
  simp only [EI,Bool.and_eq_true] at h
  simp only [List.map_cons,Dh h.1,Lp h.2]
theorem II {t x:SW} (h:Pf σ t x=true):t.den (σ.env ρ ν) (σ.fw ρ ν)=x.den ρ ν:=by
 cases t <;> cases x <;> simp only [Pf] at h
 ·exact Dh h
 ·cases h
 ·cases h
 ·simp only [SW.den,Lp (ρ:=ρ) (ν:=ν) h]
theorem EJ:∀{t c:List SW},Bl σ t c=true→(t.map fun x=>x.den (σ.env ρ ν) (σ.fw ρ ν))=c.map fun x=>x.den ρ ν
 | [],[],_=>rfl
 | [],_ :: _,h=>by simp [Bl] at h
 | _ :: _,[],h=>by simp [Bl] at h
 | a :: r,b :: s,h=>by
  simp only [Bl,Bool.and_eq_true] at h
  simp only [List.map_cons,II h.1,EJ h.2]
theorem Pg {t x:SV} (h:Uz σ t x=true):t.den (σ.env ρ ν) (σ.fw ρ ν)=x.den ρ ν:=by
 cases t <;> cases x <;> simp only [Uz] at h <;> try cases h
 ·exact II h
 ·simp only [SV.den,EJ (ρ:=ρ) (ν:=ν) h]
 ·simp only [Bool.and_eq_true] at h
  simp only [SV.den,mH (ν:=ν) h.1,II (ρ:=ρ) (ν:=ν) h.2]
end
def Sub.ie (σ:Sub) (t:IE):Option IE :=
 match t with
 | .var i=>if Nat.blt i σ.lo then some t else assoc i σ.iv
 | _=>if t.sc σ.lo then some t else none
theorem Sub.UA {σ:Sub} {t e:IE} {ρ:Env} {ν:Nat→Addr} (h:σ.ie t=some e):t.den (σ.env ρ ν)=e.den ρ:=by
 unfold Sub.ie at h
 split at h
 ·rename_i i
  split at h
  ·rename_i hi
   simp at h
   subst h
   exact IE.aN (σ.gM ρ ν) (e:=.var i) hi
  ·rename_i hi
   have hi':¬i<σ.lo:=by simpa using hi
   simp only [IE.den,Sub.env,Sub.ag,if_neg hi',h]
 ·split at h
  ·rename_i hs
   simp at h
   subst h
   exact IE.aN (σ.gM ρ ν) hs
  ·cases h
def zO (cs:List SC):List Kd→Nat→Bool
 | [],_=>true
 | k :: r,p=>(match cs[p]? with | some c=>l5 k c | none=>false) && zO cs r (p+1)
def Di (cs:List SC) (ks:List Kd) (s2:Nat):Nat→Nat→Bool
 | 0,_=>true
 | n+1,p=>zO cs ks p && Di cs ks s2 n (p+s2)
def Dj (cs:List SC) (ks:List Kd) (s2 n2 s1:Nat):Nat→Nat→Bool
 | 0,_=>true
 | n+1,p=>Di cs ks s2 n2 p && Dj cs ks s2 n2 s1 n (p+s1)
theorem Bn {cs:List SC}:∀{ks:List Kd} {p:Nat},zO cs ks p=true→∀(j:Nat) (k:Kd),ks[j]?=some k→∃c,cs[p+j]?=some c∧l5 k c=true
 | [],p,_,j,k,hj=>by simp at hj
 | x :: r,p,h,j,k,hj=>by
  simp only [zO,Bool.and_eq_true] at h
  cases j with
  | zero =>
   simp at hj
   subst hj
   obtain ⟨h,-⟩:=h
   split at h
   ·rename_i c hc;exact ⟨c,hc,h⟩
   ·cases h
  | succ j =>
   obtain ⟨c,hc,hk⟩:=Bn h.2 j k (by simpa using hj)
   exact ⟨c,by rw [←hc];congr 1;omega,hk⟩
theorem Bo {cs:List SC} {ks:List Kd} {s2:Nat}:∀{n p:Nat},Di cs ks s2 n p=true→∀i,i<n→zO cs ks (p+i * s2)=true
 | 0,_,_,i,hi=>by omega
 | n+1,p,h,i,hi=>by
  simp only [Di,Bool.and_eq_true] at h
  cases i with
  | zero=>simpa using h.1
  | succ i =>
   have:=Bo h.2 i (by omega)
   rwa [show p+s2+i * s2=p+(i+1) * s2 by rw [Nat.add_mul];omega] at this
theorem Bp {cs:List SC} {ks:List Kd} {s2 n2 s1:Nat}:∀{n p:Nat},Dj cs ks s2 n2 s1 n p=true→∀i,i<n→Di cs ks s2 n2 (p+i * s1)=true
 | 0,_,_,i,hi=>by omega
 | n+1,p,h,i,hi=>by
  simp only [Dj,Bool.and_eq_true] at h
  cases i with
  | zero=>simpa using h.1
  | succ i =>
   have:=Bp h.2 i (by omega)
   rwa [show p+s1+i * s1=p+(i+1) * s1 by rw [Nat.add_mul];omega] at this
def zP (gi:Nat):List Up→Bool
 | []=>true
 | u :: r=>!(u.g == gi) && zP gi r
theorem Dk {ρ:Env} {ν:Nat→Addr} {gi i1 i2 j:Nat} {b:Value}:∀{us:List Up},zP gi us=true→cu ρ ν us gi i1 i2 j b=b
 | [],_=>rfl
 | u :: r,h=>by
  simp only [zP,Bool.and_eq_true,Bool.not_eq_true',beq_eq_false_iff_ne,ne_eq] at h
  unfold cu
  rw [if_neg (fun hc=>h.1 hc.1),Dk h.2]
def IE.Ph:IE→Bool
 | .lit 0=>true
 | _=>false
theorem IE.IJ {ρ:Env} {e:IE} (h:e.Ph=true):e.den ρ=0:=by
 unfold IE.Ph at h
 split at h
 ·rfl
 ·cases h
def SA.base (a:SA):Bool:=match a.dm with | some 0=>true | _=>false
theorem SA.zQ {ρ:Env} {a:SA} (h:a.base=true):a.off ρ=0:=by
 unfold SA.base at h
 split at h
 ·rename_i hl;exact SA.aO hl
 ·cases h
def EK (c:Option (IE × Nat)):Bool:=match c with | none=>true | _=>false
theorem Dl {c:Option (IE × Nat)} (h:EK c=true):c=none:=by
 cases c with
 | none=>rfl
 | some p=>cases h
def SA.shift (a:SA) (s1:Nat):Option IE :=
 if a.i2.Ph && a.j == 0 && (a.i1.Ph || a.s1 == s1) then some a.i1 else none
theorem SA.IK {ρ:Env} {a:SA} {s1:Nat} {sh:IE} (h:a.shift s1=some sh):a.off ρ=(sh.den ρ).toNat * s1:=by
 unfold SA.shift at h
 split at h
 ·rename_i hc
  simp only [Bool.and_eq_true,Bool.or_eq_true,beq_iff_eq] at hc
  obtain ⟨⟨h1,h2⟩,h3⟩:=hc
  simp at h
  subst h
  simp only [SA.off,IE.IJ h1,h2]
  rcases h3 with h3 | h3
  ·simp [IE.IJ h3]
  ·simp [h3]
 ·cases h
def MV (σ:Sub) (A:SB) (a:SA) (gT:ae) (gi:Nat):Option (List BE) :=
 if Nat.blt gT.r σ.lo then
  match A.aV[gi]? with
  | some g=>if gT.same g && gT.n1.sc σ.lo && zP gi A.ups && a.base then some [] else none
  | none=>none
 else
 match assoc gT.r σ.ct,σ.ie gT.n1 with
 | some (.up g gj us sh),some n1 =>
  match A.aV[gj]?,a.shift gT.s1 with
  | some g',some sh' =>
   if g.same g' && kR us A.ups && lF g.ks gj us && sh.same sh' && gT.s1 == g.s1 && gT.n2 == g.n2 && gT.s2 == g.s2 && gT.lo == g.lo && jZ gT.ks g.ks && !gT.z then
    some (if sh.Ph && n1.same g.n1 then [] else [.aA (.lit 0) sh,.aA (sh.ik n1) g.n1])
   else none
  | _,_=>none
 | some (.ex cs s1 s2 lo),some (.lit n1) =>
  match a.dm with
  | some p=>if A.aV.isEmpty && sO cs (A.cs.drop p) && s1 == gT.s1 && s2 == gT.s2 && lo == gT.lo && !gT.z && Dj cs gT.ks gT.s2 gT.n2 gT.s1 n1.toNat gT.lo then some [] else none
  | none=>none
 | _,_=>none
theorem Lr {σ:Sub} {ρ:Env} {ν:Nat→Addr} {A:SB} {a:SA} {gT:ae} {gi:Nat} {os:List BE} {arr:Array Value} (h:MV σ A a gT gi=some os)
  (ho:∀o∈os,o.den ρ=true) (hA:A.has ρ ν arr) (i1 i2 j:Nat) (h1:(i1:Int)<gT.n1.den (σ.env ρ ν)) (h2:i2<gT.n2) (h3:j<gT.ks.length) :
  arr[a.off ρ+(i1 * gT.s1+i2 * gT.s2+gT.lo+j)]?=some (gT.base (σ.env ρ ν) i1 i2 j):=by
 unfold MV at h
 split at h
 ·rename_i hr
  split at h
  ·rename_i g hg
   split at h
   ·rename_i hc
    simp only [Bool.and_eq_true] at hc
    obtain ⟨⟨⟨c1,c2⟩,c3⟩,c4⟩:=hc
    have e1:=ae.aC c1
    subst e1
    have ha:a.off ρ=0:=SA.zQ c4
    rw [IE.aN (σ.gM ρ ν) c2] at h1
    have:=hA.sg gi gT hg i1 i2 j h1 h2 h3
    rw [Dk c3] at this
    rw [ha,Nat.zero_add,this,ae.Bj (σ.gM ρ ν) gT (by simpa using hr)]
   ·cases h
  ·cases h
 ·rename_i hr
  have hr':¬gT.r<σ.lo:=by simpa using hr
  split at h
  ·rename_i g gj us sh n1 hct hn1
   split at h
   ·rename_i g' sh' hg' hsh
    split at h
    ·rename_i hc
     simp only [Bool.and_eq_true,beq_iff_eq,Bool.not_eq_true'] at hc
     obtain ⟨⟨⟨⟨⟨⟨⟨⟨⟨c1,c2⟩,c3⟩,c4⟩,c5⟩,c6⟩,c7⟩,c8⟩,c9⟩,c10⟩:=hc
     have e1:=ae.aC c1
     have e2:=qH c2
     have e3:=IE.aC c4
     have e4:=nS c9
     subst e1 e2 e3
     have hoff:=SA.IK (ρ:=ρ) hsh
     rw [Sub.UA hn1] at h1
     have hb:0≤sh.den ρ∧sh.den ρ+n1.den ρ≤g.n1.den ρ:=by
      simp only [Option.some.injEq] at h
      split at h
      ·rename_i hq
       simp only [Bool.and_eq_true] at hq
       rw [IE.IJ hq.1,IE.aC hq.2]
       simp
      ·subst h
       have b1:=of_decide_eq_true (ho (.aA (.lit 0) sh) (by simp))
       have b2:=of_decide_eq_true (ho (.aA (sh.ik n1) g.n1) (by simp))
       rw [IE.jL] at b2
       exact ⟨b1,b2⟩
     have hi:(((sh.den ρ).toNat+i1:Nat):Int)<g.n1.den ρ:=by omega
     have hg2:i2<g.n2:=by rw [←c6];exact h2
     have hj:j<g.ks.length:=by rw [←e4];exact h3
     have:=hA.sg gj g hg' ((sh.den ρ).toNat+i1) i2 j hi hg2 hj
     rw [hoff,c5,c7,c8]
     rw [show (sh.den ρ).toNat * g.s1+(i1 * g.s1+i2 * g.s2+g.lo+j)=((sh.den ρ).toNat+i1) * g.s1+i2 * g.s2+g.lo+j by rw [Nat.add_mul];omega]
     rw [this,MU hj c3,ae.zN gT c10,e4]
     simp only [Sub.env,Sub.ag,if_neg hr',hct,CV.I,CV.B,CV.V]
    ·cases h
   ·cases h
  ·rename_i cs s1 s2 lo n1 hct hn1
   split at h
   ·rename_i p hp
    split at h
    ·rename_i hc
     simp only [Bool.and_eq_true,beq_iff_eq,Bool.not_eq_true',List.isEmpty_iff] at hc
     obtain ⟨⟨⟨⟨⟨⟨c1,c2⟩,c3⟩,c4⟩,c5⟩,c6⟩,c7⟩:=hc
     have e1:=vF c2
     rw [Sub.UA hn1] at h1
     simp only [IE.den] at h1
     have hf:=Bo (Bp c7 i1 (by omega)) i2 h2
     obtain ⟨c,hc,hk⟩:=Bn hf j gT.ks[j] (List.getElem?_eq_getElem h3)
     have hh:c.isHole=false:=by
      cases hkd:gT.ks[j] <;> rw [hkd] at hk <;> cases c <;> simp_all [l5,SC.isHole]
     have hpos:i1 * gT.s1+i2 * gT.s2+gT.lo+j=gT.lo+i1 * gT.s1+i2 * gT.s2+j:=by omega
     have hc':A.cs[p+(i1 * gT.s1+i2 * gT.s2+gT.lo+j)]?=some c:=by
      rw [←List.getElem?_drop,←e1,hpos];exact hc
     rw [SA.aO hp,hA.ex _ _ hc' hh,Pb hk,ae.zN gT c6,List.getElem?_eq_getElem h3]
     have hgd:cs.getD (i1 * gT.s1+i2 * gT.s2+gT.lo+j) .hole=c:=by
      rw [List.getD_eq_getElem?_getD,hpos,hc];rfl
     simp only [Sub.env,Sub.ag,if_neg hr',hct,CV.I,CV.B,CV.V,c3,c4,c5,hgd]
    ·cases h
   ·cases h
  ·cases h
def Dm (σ:Sub) (A:SB) (a:SA):List ae→Nat→Option (List BE)
 | [],_=>some []
 | g :: r,gi =>
  match MV σ A a g gi,Dm σ A a r (gi+1) with
  | some os,some os'=>some (os ++ os')
  | _,_=>none
theorem Bq {σ:Sub} {A:SB} {a:SA}:∀{gs:List ae} {gi:Nat} {os:List BE},Dm σ A a gs gi=some os→∀k g,gs[k]?=some g →
  ∃os',MV σ A a g (gi+k)=some os'∧∀o∈os',o∈os
 | [],_,_,_,k,g,hk=>by simp at hk
 | x :: r,gi,os,h,k,g,hk=>by
  unfold Dm at h
  split at h
  ·rename_i o1 o2 h1 h2
   simp at h
   subst h
   cases k with
   | zero=>simp at hk;subst hk;exact ⟨o1,h1,fun o ho=>List.mem_append_left _ ho⟩
   | succ k =>
    obtain ⟨os',h3,h4⟩:=Bq h2 k g (by simpa using hk)
    exact ⟨os',by rw [←h3];congr 1;omega,fun o ho=>List.mem_append_right _ (h4 o ho)⟩
  ·cases h
def uF (σ:Sub):List SC→List SC→Bool
 | [],_=>true
 | _ :: _,[]=>false
 | a :: r,b :: s=>(a.isHole || (iY σ a b && !b.isHole)) && uF σ r s
theorem yh {σ:Sub}:∀{t c:List SC},uF σ t c=true→∀(p:Nat) (x:SC),t[p]?=some x→x.isHole=false→∃y,c[p]?=some y∧y.isHole=false∧iY σ x y=true
 | [],_,_,p,x,hx,_=>by simp at hx
 | _ :: _,[],h,_,_,_,_=>by simp [uF] at h
 | a :: r,b :: s,h,p,x,hx,hh=>by
  simp only [uF,Bool.and_eq_true,Bool.or_eq_true,Bool.not_eq_true'] at h
  cases p with
  | zero =>
   simp at hx
   subst hx
   rcases h.1 with h1 | h1
   ·rw [hh] at h1;cases h1
   ·exact ⟨b,rfl,h1.2,h1.1⟩
  | succ p =>
   obtain ⟨y,h1,h2⟩:=yh h.2 p x (by simpa using hx) hh
   exact ⟨y,by simpa using h1,h2⟩
def Xr (σ:Sub) (t a:Option (IE × Nat)):Bool :=
 match t,a with
 | none,_=>true
 | some (e,n),some (f,m)=>yf σ e f && n == m
 | _,_=>false
def Zr (σ:Sub) (T A:SB) (a:SA):Option (List BE) :=
 if a.base && !A.ro && (T.opn || !T.aV.isEmpty || (A.aV.isEmpty && !A.opn && T.cs.length == A.cs.length)) && Xr σ T.cap A.cap && uF σ T.cs A.cs && T.ups.isEmpty then
  Dm σ A a T.aV 0
 else none
def Xt (σ:Sub) (T A:SB) (a:SA):Option (List BE) :=
 if T.cs.isEmpty && T.ups.isEmpty && EK T.cap && !T.aV.isEmpty then Dm σ A a T.aV 0
 else if T.aV.isEmpty && T.ups.isEmpty && EK T.cap && A.aV.isEmpty && !A.opn then
  match a.dm with
  | some o=>if Nat.ble (o+T.cs.length) A.cs.length && uF σ T.cs (A.cs.drop o) then some [] else none
  | none=>none
 else none
def Br (σ:Sub) (T A:SB) (a:SA):Option (List BE) :=
 if A.gone || !(T.t == A.t) || (T.own && (!A.own || T.ro)) || !xC σ T.nl A.nl || (T.ro && T.iI) then none
 else if T.ro then Xt σ T A a else Zr σ T A a
def IL (σ:Sub) (hp:List SB) (k:Nat) (T:SB):Option (List BE) :=
 if T.gone then some []
 else if Nat.blt k σ.az then
  match hp[k]? with
  | some A=>if T.wk A && T.sc σ.lo σ.az then some [] else Br σ T A {aD:=k}
  | none=>none
 else match assoc k σ.bk with
 | some a=>match hp[a.aD]? with | some A=>Br σ T A a | none=>none
 | none=>if σ.nb.contains k && xC σ T.nl (.lit true) then some [] else none
def Hm (σ:Sub) (hp:List SB):List SB→Nat→Option (List BE)
 | [],_=>some []
 | T :: r,k =>
  match IL σ hp k T,Hm σ hp r (k+1) with
  | some os,some os'=>some (os ++ os')
  | _,_=>none
theorem Bt {σ:Sub} {hp:List SB}:∀{Ts:List SB} {k0:Nat} {os:List BE},Hm σ hp Ts k0=some os→∀k T,Ts[k]?=some T →
  ∃os',IL σ hp (k0+k) T=some os'∧∀o∈os',o∈os
 | [],_,_,_,k,g,hk=>by simp at hk
 | x :: r,gi,os,h,k,g,hk=>by
  unfold Hm at h
  split at h
  ·rename_i o1 o2 h1 h2
   simp at h
   subst h
   cases k with
   | zero=>simp at hk;subst hk;exact ⟨o1,h1,fun o ho=>List.mem_append_left _ ho⟩
   | succ k =>
    obtain ⟨os',h3,h4⟩:=Bt h2 k g (by simpa using hk)
    exact ⟨os',by rw [←h3];congr 1;omega,fun o ho=>List.mem_append_right _ (h4 o ho)⟩
  ·cases h
def Sub.aD (σ:Sub) (k:Nat):Option Nat:=if Nat.blt k σ.az then some k else (assoc k σ.bk).map (·.aD)
def pV (σ:Sub) (i:Nat) (ro:Bool) (b:Option Nat):List SB→Nat→Bool
 | [],_=>true
 | T :: r,j=>(i == j || T.gone || (ro && T.ro) || (match b,σ.aD j with | some x,some y=>!(x == y) | _,_=>true)) && pV σ i ro b r (j+1)
def vW (σ:Sub) (all:List SB):List SB→Nat→Bool
 | [],_=>true
 | T :: r,i=>(Nat.blt i σ.az || T.gone || pV σ i T.ro (σ.aD i) all 0) && vW σ all r (i+1)
theorem rO {σ:Sub} {i:Nat} {ro:Bool} {b:Option Nat}:∀{Ts:List SB} {j0:Nat},pV σ i ro b Ts j0=true→∀j T,Ts[j]?=some T →
  i≠j0+j→T.gone=false→(ro && T.ro)=false→∀x y,b=some x→σ.aD (j0+j)=some y→x≠y
 | [],_,_,j,T,hj=>by simp at hj
 | T0 :: r,j0,h,j,T,hj=>by
  simp only [pV,Bool.and_eq_true] at h
  cases j with
  | zero =>
   simp at hj
   subst hj
   intro hne hg hro x y hb hy
   rw [Nat.add_zero] at hne hy
   obtain ⟨h,-⟩:=h
   have hij:(i == j0)=false:=by simpa using hne
   rw [hij,hg,hro,hb,hy] at h
   simpa using h
  | succ j =>
   intro hne
   have:=rO h.2 j T (by simpa using hj)
   rw [show j0+1+j=j0+(j+1) by omega] at this
   exact this hne
theorem uh {σ:Sub} {all:List SB}:∀{Ts:List SB} {i0:Nat},vW σ all Ts i0=true→∀i T,Ts[i]?=some T→¬(i0+i<σ.az)→T.gone=false →
  pV σ (i0+i) T.ro (σ.aD (i0+i)) all 0=true
 | [],_,_,j,T,hj=>by simp at hj
 | T0 :: r,j0,h,j,T,hj=>by
  simp only [vW,Bool.and_eq_true] at h
  cases j with
  | zero =>
   simp at hj
   subst hj
   intro hl hg
   rw [Nat.add_zero] at hl ⊢
   have hb:Nat.blt j0 σ.az=false:=by rw [←Bool.not_eq_true,Nat.blt_eq];exact hl
   simpa [hb,hg] using h.1
  | succ j =>
   have:=uh h.2 j T (by simpa using hj)
   rw [show j0+1+j=j0+(j+1) by omega] at this
   exact this
def mI (σ:Sub) (Ts hp:List SB):Option (List BE):=if vW σ Ts Ts 0 then Hm σ hp Ts 0 else none
section
variable {ρ:Env} {ν:Nat→Addr} {σ:Sub}
structure UB (ρ:Env) (ν:Nat→Addr) (σ:Sub) (hp:List SB) (k:Nat) (T:SB) (a:SA) (A:SB):Prop where
 aD:σ.aD k=some a.aD
 hp:hp[a.aD]?=some A
 fw:σ.fw ρ ν k=(ν a.aD).add (a.off ρ)
 live:A.dead ρ=false
 t:T.t=A.t
 own:T.own=true→A.own=true
 ro:T.ro=false→A.ro=false∧a.off ρ=0
 rw_:T.ro=false→∀arr,A.has ρ ν arr→T.has (σ.env ρ ν) (σ.fw ρ ν) arr
 rd:∀arr,A.has ρ ν arr→∃lg,T.has (σ.env ρ ν) (σ.fw ρ ν) lg∧∀p v,lg[p]?=some v→arr[a.off ρ+p]?=some v
 mp:T.ro=true→A.ro=false→A.iI=false
 sg:T.ro=true→T.aV=[]→A.aV=[]
theorem Ls {T A:SB} {a:SA} {os:List BE} (h:Br σ T A a=some os) (ho:∀o∈os,o.den ρ=true) (hd:T.dead (σ.env ρ ν)=false) :
  A.dead ρ=false∧T.t=A.t∧(T.own=true→A.own=true)∧(T.ro=false→A.ro=false∧a.off ρ=0)∧(T.ro=false→∀arr,A.has ρ ν arr→T.has (σ.env ρ ν) (σ.fw ρ ν) arr) ∧
  (∀arr,A.has ρ ν arr→∃lg,T.has (σ.env ρ ν) (σ.fw ρ ν) lg∧∀p v,lg[p]?=some v→arr[a.off ρ+p]?=some v)∧(T.ro=true→A.ro=false→A.iI=false):=by
 unfold Br at h
 split at h
 ·cases h
 rename_i hc
 simp only [Bool.or_eq_true,Bool.not_eq_true',not_or,Bool.not_eq_true,beq_eq_false_iff_ne,ne_eq,Decidable.not_not,Bool.not_eq_false,Bool.and_eq_true,not_and] at hc
 obtain ⟨⟨⟨⟨c1,c2⟩,c3⟩,c4⟩,c5⟩:=hc
 have hlive:A.dead ρ=false:=by
  have:=mH (ρ:=ρ) (ν:=ν) c4
  unfold SB.dead at hd ⊢
  rw [c1,←this]
  simp at hd
  simp [hd.2]
 refine ⟨hlive,c2,fun h=>?_,?_⟩
 ·cases hA:A.own with
  | true=>rfl
  | false=>have:=c3 h;simp [hA] at this
 split at h
 ·rename_i hro
  refine ⟨fun h=>(by rw [hro] at h;cases h),fun h=>(by rw [hro] at h;cases h),fun arr hA=>?_,fun h _=>?_⟩
  rotate_left
  ·have:=c5 h
   unfold SB.iI at this ⊢
   rw [←c2]
   simpa using this
  unfold Xt at h
  split at h
  ·rename_i hc
   simp only [Bool.and_eq_true,List.isEmpty_iff,Bool.not_eq_true'] at hc
   obtain ⟨⟨⟨d1,d2⟩,d3⟩,d4⟩:=hc
   refine ⟨(arr.toList.drop (a.off ρ)).toArray,⟨fun u hu=>(by rw [d2] at hu;cases hu),fun hs=>(by rw [hs] at d4;cases d4),fun e n he=>(by rw [Dl d3] at he;cases he),fun p c hp=>(by rw [d1] at hp;simp at hp),fun gi g hg i1 i2 j h1 h2 h3=>?_⟩,fun p v hp=>?_⟩
   ·obtain ⟨os',h4,h5⟩:=Bq h gi g hg
    rw [Nat.zero_add] at h4
    have:=Lr h4 (fun o hm=>ho o (h5 o hm)) hA i1 i2 j h1 h2 h3
    rw [d2]
    simp only [cu,List.getElem?_toArray,List.getElem?_drop]
    simpa using this
   ·simpa [List.getElem?_drop] using hp
  ·split at h
   case isFalse=>cases h
   rename_i hc
   simp only [Bool.and_eq_true,List.isEmpty_iff,Bool.not_eq_true'] at hc
   obtain ⟨⟨⟨⟨d1,d2⟩,d3⟩,d4⟩,d5⟩:=hc
   split at h
   case h_2=>cases h
   rename_i o aas
   have hoff:a.off ρ=o:=SA.aO aas
   split at h
   case isFalse=>cases h
   rename_i hc2
   simp only [Bool.and_eq_true,Nat.ble_eq] at hc2
   have hsz:arr.size=A.cs.length:=hA.size d4 d5
   refine ⟨((arr.toList.drop o).take T.cs.length).toArray,⟨fun u hu=>(by rw [d2] at hu;cases hu),fun _ _=>(by simp;omega),fun e n he=>(by rw [Dl d3] at he;cases he),fun p c hp hh=>?_,fun gi g hg=>(by rw [d1] at hg;simp at hg)⟩,fun p v hp=>?_⟩
   ·obtain ⟨y,h1,h2,h3⟩:=yh hc2.2 p c hp hh
    rw [List.getElem?_drop] at h1
    have:=hA.ex (o+p) y h1 h2
    have hpl:p<T.cs.length:=(List.getElem?_eq_some_iff.1 hp).1
    rw [Dh (ρ:=ρ) (ν:=ν) h3,List.getElem?_toArray,List.getElem?_take_of_lt hpl,List.getElem?_drop,Array.getElem?_toList]
    exact this
   ·rw [hoff]
    rw [List.getElem?_toArray] at hp
    have hpl:p<T.cs.length:=by
     have:=(List.getElem?_eq_some_iff.1 hp).1
     simp at this
     omega
    rw [List.getElem?_take_of_lt hpl,List.getElem?_drop,Array.getElem?_toList] at hp
    exact hp
 ·rename_i hro
  unfold Zr at h
  split at h
  ·rename_i hc
   simp only [Bool.and_eq_true,List.isEmpty_iff,Bool.not_eq_true',Bool.or_eq_true] at hc
   obtain ⟨⟨⟨⟨⟨d1,d2⟩,d3⟩,d4⟩,d5⟩,d6⟩:=hc
   have hoff:a.off ρ=0:=SA.zQ d1
   have key:∀arr,A.has ρ ν arr→T.has (σ.env ρ ν) (σ.fw ρ ν) arr:=by
    intro arr hA
    refine ⟨fun u hu=>(by rw [d6] at hu;cases hu),fun hs hop=>?_,fun e n he=>?_,fun p c hp hh=>?_,fun gi g hg i1 i2 j h1 h2 h3=>?_⟩
    ·rcases d3 with (d3 | d3) | d3
     ·rw [hop] at d3;cases d3
     ·rw [hs] at d3;cases d3
     ·simp only [beq_iff_eq] at d3
      rw [d3.2]
      exact hA.size d3.1.1 d3.1.2
    ·unfold Xr at d4
     rw [he] at d4
     split at d4
     ·rename_i heq;cases heq
     ·rename_i e1 n1 f m heq hAc
      cases heq
      simp only [Bool.and_eq_true,beq_iff_eq] at d4
      rw [nU (ν:=ν) d4.1,d4.2]
      exact hA.cap f m hAc
     ·cases d4
    ·obtain ⟨y,h1,h2,h3⟩:=yh d5 p c hp hh
     rw [Dh (ρ:=ρ) (ν:=ν) h3]
     exact hA.ex p y h1 h2
    ·obtain ⟨os',h4,h5⟩:=Bq h gi g hg
     rw [Nat.zero_add] at h4
     have:=Lr h4 (fun o hm=>ho o (h5 o hm)) hA i1 i2 j h1 h2 h3
     rw [d6]
     simp only [cu]
     rw [hoff,Nat.zero_add] at this
     exact this
   exact ⟨fun _=>⟨d2,hoff⟩,fun _=>key,fun arr hA=>⟨arr,key arr hA,fun p v hp=>by rw [hoff,Nat.zero_add];exact hp⟩,fun h=>(hro h).elim⟩
  ·cases h
theorem F7 {T A:SB} {a:SA} {os:List BE} (h:Br σ T A a=some os) (hr:T.ro=true) (hs:T.aV=[]):A.aV=[]:=by
 unfold Br at h
 split at h
 ·cases h
 unfold Xt at h
 split at h
 ·rename_i hc
  simp [hs] at hc
 ·split at h
  ·rename_i hc
   simp only [Bool.and_eq_true,List.isEmpty_iff,Bool.not_eq_true'] at hc
   exact hc.1.2
  ·cases h
theorem VR {hp:List SB} {k:Nat} {T:SB} {os:List BE} (h:IL σ hp k T=some os) (ho:∀o∈os,o.den ρ=true) (hd:T.dead (σ.env ρ ν)=false):∃a A,UB ρ ν σ hp k T a A:=by
 have hg:=SB.dW hd
 unfold IL at h
 rw [hg] at h
 simp only [Bool.false_eq_true,if_false] at h
 split at h
 ·rename_i hk
  have hk':k<σ.az:=by simpa using hk
  have ui:σ.fw ρ ν k=(ν k).add (({aD:=k}:SA).off ρ):=by simp [Sub.fw,hk',SA.off,IE.den,Addr.add_zero]
  have hblk:σ.aD k=some k:=by simp [Sub.aD,hk]
  split at h
  ·rename_i A hA
   split at h
   ·rename_i hc
    simp only [Bool.and_eq_true] at hc
    obtain ⟨e1,e2,e3,e4,e5,e6⟩:=SB.C9 (ρ:=ρ) (ν:=ν) hc.1 hg
    have hd':T.dead ρ=false:=by rwa [SB.jY (σ.gM ρ ν) hc.2] at hd
    have hh:∀arr,A.has ρ ν arr→T.has (σ.env ρ ν) (σ.fw ρ ν) arr:=fun arr ha=>SB.xY (σ.gM ρ ν) hc.2 hg (e6 arr ha)
    have h0:({aD:=k}:SA).off ρ=0:=by simp [SA.off,IE.den]
    exact ⟨{aD:=k},A,⟨hblk,hA,ui,SB.uE hc.1 hd',e5,e4,fun hr=>⟨e3 ▸ hr,h0⟩,fun _=>hh,fun arr ha=>⟨arr,hh arr ha,fun p v hp=>by rw [h0,Nat.zero_add];exact hp⟩,fun hr hr'=>(by rw [e3,hr'] at hr;cases hr),fun _=>SB.Lg hc.1 hg⟩⟩
   ·obtain ⟨h1,h2,h3,h4,h5,h6,h7⟩:=Ls (ν:=ν) h ho hd
    exact ⟨{aD:=k},A,⟨hblk,hA,ui,h1,h2,h3,h4,h5,h6,h7,F7 h⟩⟩
  ·cases h
 ·rename_i hk
  have hk':¬k<σ.az:=by simpa using hk
  split at h
  ·rename_i a ha
   split at h
   ·rename_i A hA
    obtain ⟨h1,h2,h3,h4,h5,h6,h7⟩:=Ls (ν:=ν) h ho hd
    exact ⟨a,A,⟨by simp [Sub.aD,hk,ha],hA,by simp [Sub.fw,hk',ha,SA.den],h1,h2,h3,h4,h5,h6,h7,F7 h⟩⟩
   ·cases h
  ·split at h
   ·rename_i hc
    simp only [Bool.and_eq_true] at hc
    have:=mH (ρ:=ρ) (ν:=ν) hc.2
    simp only [SB.dead,hg,Bool.false_or] at hd
    rw [hd] at this
    cases this
   ·cases h
theorem block_add (a:Addr) (n:Nat):(a.add n).block=a.block:=by
 unfold Addr.add
 split <;> rfl
theorem ng {Ts hp:List SB} {os:List BE} (h:mI σ Ts hp=some os) (ho:∀o∈os,o.den ρ=true) {k:Nat} {T:SB} (hk:Ts[k]?=some T) (hd:T.dead (σ.env ρ ν)=false) :
  ∃a A,UB ρ ν σ hp k T a A:=by
 unfold mI at h
 split at h
 ·obtain ⟨os',h1,h2⟩:=Bt h k T hk
  rw [Nat.zero_add] at h1
  exact VR h1 (fun o hm=>ho o (h2 o hm)) hd
 ·cases h
theorem MW {Ts hp:List SB} {os:List BE} (h:mI σ Ts hp=some os) {i j:Nat} {T U:SB} (hi:Ts[i]?=some T) (hj:Ts[j]?=some U) (hne:i≠j) (hg:T.gone=false) (hg':U.gone=false)
  (hr:T.ro=false∨U.ro=false) {x y:Nat} (hx:σ.aD i=some x) (hy:σ.aD j=some y):x≠y:=by
 unfold mI at h
 split at h
 ·rename_i hap
  by_cases h1:i<σ.az
  ·by_cases h2:j<σ.az
   ·simp [Sub.aD,h1] at hx
    simp [Sub.aD,h2] at hy
    omega
   ·have:=uh hap j U hj (by omega) hg'
    rw [Nat.zero_add] at this
    have:=rO this i T hi (by omega) hg (by rcases hr with hr | hr <;> simp [hr]) y x hy (by rw [Nat.zero_add];exact hx)
    exact fun e=>this e.symm
  ·have:=uh hap i T hi (by omega) hg
   rw [Nat.zero_add] at this
   exact rO this j U hj (by omega) hg' (by rcases hr with hr | hr <;> simp [hr]) x y hx (by rw [Nat.zero_add];exact hy)
 ·cases h
theorem EL {Ts hp:List SB} {os:List BE} (h:mI σ Ts hp=some os) (ho:∀o∈os,o.den ρ=true) {w:World} (hh:aK ρ ν hp w):aK (σ.env ρ ν) (σ.fw ρ ν) Ts w:=by
 refine ⟨fun i j T U hi hj hT hU hr he=>?_,fun k T hk hT hr=>?_,fun k T hk hT hr=>?_⟩
 ·obtain ⟨a,A,hA⟩:=ng h ho hi hT
  obtain ⟨b,B,hB⟩:=ng h ho hj hU
  by_cases hne:i=j
  ·exact hne
  ·exfalso
   have hxy:=MW h hi hj hne (SB.dW hT) (SB.dW hU) (.inl hr) hA.aD hB.aD
   rw [hA.fw,hB.fw,block_add,block_add] at he
   exact hxy (hh.inj _ _ A B hA.hp hB.hp hA.live hB.live (hA.ro hr).1 he)
 ·obtain ⟨a,A,hA⟩:=ng h ho hk hT
  obtain ⟨h1,h2⟩:=hA.ro hr
  obtain ⟨h0,arr,h3,h4⟩:=hh.aD _ A hA.hp hA.live h1
  rw [hA.fw,h2,Addr.add_zero]
  exact ⟨h0,arr,by rw [hA.t];exact h3,hA.rw_ hr arr h4⟩
 ·obtain ⟨a,A,hA⟩:=ng h ho hk hT
  obtain ⟨arr,h1,h2⟩:=hh.cells hA.hp hA.live (hA.mp hr)
  obtain ⟨lg,h3,h4⟩:=hA.rd arr h1
  rw [hA.fw]
  refine ⟨by rw [block_add];exact (hh.aap hA.hp hA.live (hA.mp hr)).of (hA.sg hr) hA.t (Nat.le_refl _) rfl,lg,h3,fun p v hp=>?_⟩
  rw [Addr.add_add]
  exact h2 _ _ (h4 p v hp)
end
def Sub.oU (σ:Sub) (t e:IE):Sub :=
 match t with
 | .var i=>if Nat.blt i σ.lo then σ else match assoc i σ.iv with | some _=>σ | none=>{σ with iv:=(i,e) :: σ.iv}
 | _=>σ
def Sub.vX (σ:Sub) (t e:BE):Sub :=
 match t with
 | .var i=>if Nat.blt i σ.lo then σ else match assoc i σ.bv with | some _=>σ | none=>{σ with bv:=(i,e) :: σ.bv}
 | _=>σ
def Sub.IM (σ:Sub) (t:Nat) (a:SA):Sub :=
 if Nat.blt t σ.az then σ else match assoc t σ.bk with | some _=>σ | none=>{σ with bk:=(t,a) :: σ.bk}
def Sub.MX (σ:Sub) (t a:SA):Sub :=
 match t.i1 with
 | .var o=>(σ.IM t.aD {a with i1:=.lit 0}).oU (.var o) a.i1
 | _=>σ.IM t.aD a
def Xu (σ:Sub):List Nat→List Nat→Sub
 | a :: r,b :: s=>Xu (σ.IM a {aD:=b}) r s
 | _,_=>σ
def Pj (σ:Sub):SC→SC→Sub
 | .int _ e,.int _ f=>σ.oU e f
 | .bool e,.bool f=>σ.vX e f
 | .val i,c=>if Nat.blt i σ.lo then σ else match assoc i σ.vv with | some _=>σ | none=>{σ with vv:=(i,c) :: σ.vv}
 | .ptr a,.ptr b=>σ.MX a b
 | .sl a l c,.sl b m d=>((σ.MX a b).oU l m).oU c d
 | .eY k a l c,.sl b m d=>(((σ.vX k (.lit false)).MX a b).oU l m).oU c d
 | .eY k a l c,.eY k' b m d=>(((σ.vX k k').MX a b).oU l m).oU c d
 | .eY k a l c,.bg=>let Lt:=((σ.vX k (.lit true)).oU l (.lit 0)).oU c (.lit 0);{Lt with nb:=a.aD :: Lt.nb}
 | .fn _ a,.fn _ b=>Xu σ a b
 | .iface _ c,.iface _ d=>Pj σ c d
 | .iB k c,.iB k' d=>Pj (σ.vX k k') c d
 | .iB k c,.df=>let Lt:=σ.vX k (.lit true);match c with | .iface _ (.ptr a)=>{Lt with nb:=a.aD :: Lt.nb} | _=>Lt
 | .iB k (.iface _ c),.iface _ d=>Pj (σ.vX k (.lit false)) c d
 | .mp a,.mp b=>σ.IM a {aD:=b}
 | _,_=>σ
def RX (σ:Sub):List SC→List SC→Sub
 | a :: r,b :: s=>RX (Pj σ a b) r s
 | _,_=>σ
def Xv (σ:Sub):SW→SW→Sub
 | .one a,.one b=>Pj σ a b
 | .agg a,.agg b=>RX σ a b
 | _,_=>σ
def MZ (σ:Sub):List SW→List SW→Sub
 | a :: r,b :: s=>MZ (Xv σ a b) r s
 | _,_=>σ
def Xw (σ:Sub):SV→SV→Sub
 | .w a,.w b=>Xv σ a b
 | .gZ a,.gZ b=>MZ σ a b
 | .gd c a,.gd d b=>Xv (σ.vX c d) a b
 | _,_=>σ
def Sub.Xx (σ:Sub) (r:Nat) (c:CV):Sub :=
 if Nat.blt r σ.lo then σ else match assoc r σ.ct with | some _=>σ | none=>{σ with ct:=(r,c) :: σ.ct}
def M0 (σ:Sub) (A:SB) (a:SA):List ae→Nat→Sub
 | [],_=>σ
 | g :: r,gi =>
  match A.aV[gi]? with
  | some h=>M0 ((σ.oU g.n1 h.n1).Xx g.r (.up h gi A.ups ((a.shift g.s1).getD (.lit 0)))) A a r (gi+1)
  | none=>let cs:=A.cs.drop (a.dm.getD 0);M0 ((σ.oU g.n1 (.lit (cs.length / g.s1:Nat))).Xx g.r (.ex cs g.s1 g.s2 g.lo)) A a r (gi+1)
def Zt (σ:Sub) (T A:SB) (a:SA):Sub :=
 let σ:=RX (σ.vX T.nl A.nl) T.cs A.cs
 let σ:=match T.cap,A.cap with | some (e,_),some (f,_)=>σ.oU e f | _,_=>σ
 M0 σ A a T.aV 0
def Lu (σ:Sub) (hp:List SB):List SB→Nat→Sub
 | [],_=>σ
 | T :: r,k =>
  if T.gone then Lu σ hp r (k+1)
  else if Nat.blt k σ.az then
   match hp[k]? with
   | some A=>Lu (if T.wk A && T.sc σ.lo σ.az then σ else Zt σ T A {aD:=k}) hp r (k+1)
   | none=>σ
  else match assoc k σ.bk with
   | some a=>match hp[a.aD]? with | some A=>Lu (Zt σ T A a) hp r (k+1) | none=>σ
   | none=>Lu σ hp r (k+1)
def EM (σ:Sub) (hp Ts:List SB):Sub:=Lu (Lu σ hp Ts 0) hp Ts 0
structure dX where
 f:FuncId
 nv:Nat
 gl:List (Nat × Nat):=[]
 args:List SW
 hp:List SB
 jc:Nat
 ret:SV
 hp':List SB
 deriving Inhabited
structure Tr where
 σ:Sub
 m:Nat
 d:Nat
 n:Nat
 n0:Nat
def gJ {α β γ:Type} (f:α→β→γ):Option α→Option β→Option γ
 | some a,some b=>some (f a b)
 | _,_=>none
theorem fG {α β γ:Type} {f:α→β→γ} {x:Option α} {y:Option β} {z:γ} (h:gJ f x y=some z):∃a b,x=some a∧y=some b∧z=f a b:=by
 cases x <;> cases y <;> simp [gJ] at h
 exact ⟨_,_,rfl,rfl,h.symm⟩
def IE.tr (t:Tr):IE→Option IE
 | .lit n=>some (.lit n)
 | .var i=>if Nat.blt i t.m then assoc i t.σ.iv else some (.var (i-t.m+t.d))
 | .add a b=>gJ .add (a.tr t) (b.tr t)
 | .sub a b=>gJ .sub (a.tr t) (b.tr t)
 | .mul a b=>gJ .mul (a.tr t) (b.tr t)
 | .div a b=>gJ .div (a.tr t) (b.tr t)
 | .mod a b=>gJ .mod (a.tr t) (b.tr t)
 | .wrap k a=>(a.tr t).map (.wrap k)
 | .oL a b=>gJ .oL (a.tr t) (b.tr t)
 | .imax a b=>gJ .imax (a.tr t) (b.tr t)
 | .cell r a b j=>if Nat.blt r t.m then none else gJ (fun a b=>.cell (r-t.m+t.d) a b j) (a.tr t) (b.tr t)
def BE.tr (t:Tr):BE→Option BE
 | .lit n=>some (.lit n)
 | .var i=>if Nat.blt i t.m then assoc i t.σ.bv else some (.var (i-t.m+t.d))
 | .not a=>(a.tr t).map .not
 | .and a b=>gJ .and (a.tr t) (b.tr t)
 | .or a b=>gJ .or (a.tr t) (b.tr t)
 | .ite c a b=>match c.tr t,a.tr t,b.tr t with | some c,some a,some b=>some (.ite c a b) | _,_,_=>none
 | .aB a b=>gJ .aB (IE.tr t a) (IE.tr t b)
 | .aA a b=>gJ .aA (IE.tr t a) (IE.tr t b)
 | .bR a b=>gJ .bR (IE.tr t a) (IE.tr t b)
 | .beq a b=>gJ .beq (a.tr t) (b.tr t)
 | .inr k a=>(IE.tr t a).map (.inr k)
 | .cell r a b j=>if Nat.blt r t.m then none else gJ (fun a b=>.cell (r-t.m+t.d) a b j) (IE.tr t a) (IE.tr t b)
def IP (t:Tr) (k:Nat):Option Nat :=
 if Nat.blt k t.n then match assoc k t.σ.bk with | some a=>if a.base then some a.aD else none | none=>none
 else some (k-t.n+t.n0)
def SA.tr (t:Tr) (a:SA):Option SA :=
 match IP t a.aD,a.i1.tr t,a.i2.tr t with
 | some b,some i1,some i2=>some {a with aD:=b,i1:=i1,i2:=i2}
 | _,_,_=>none
def Ho (t:Tr):List Nat→Option (List Nat)
 | []=>some []
 | k :: r=>gJ List.cons (IP t k) (Ho t r)
def SC.tr (t:Tr):SC→Option SC
 | .int k e=>(e.tr t).map (.int k)
 | .bool b=>(b.tr t).map .bool
 | .str l=>some (.str l)
 | .val i=>if Nat.blt i t.m then (match assoc i t.σ.vv with | some c=>if c.isHole then none else some c | none=>none) else some (.val (i-t.m+t.d))
 | .jh r a b j=>if Nat.blt r t.m then none else gJ (fun a b=>.jh (r-t.m+t.d) a b j) (a.tr t) (b.tr t)
 | .ptr a=>(a.tr t).map .ptr
 | .aU=>some .aU
 | .sl a l c=>match a.tr t,l.tr t,c.tr t with | some a,some l,some c=>some (.sl a l c) | _,_,_=>none
 | .bg=>some .bg
 | .eY k a l c=>match k.tr t,a.tr t,l.tr t,c.tr t with | some k,some a,some l,some c=>some (.eY k a l c) | _,_,_,_=>none
 | .fn f jl=>(Ho t jl).map (.fn f)
 | .aF=>some .aF
 | .iface u c=>(c.tr t).map (.iface u)
 | .iB k c=>match k.tr t,c.tr t with | some k,some c=>some (.iB k c) | _,_=>none
 | .mp b=>(IP t b).map .mp
 | .pG=>some .pG
 | .rt t b o=>some (.rt t b o)
 | .df=>some .df
 | .hole=>some .hole
def vY (t:Tr):List SC→Option (List SC)
 | []=>some []
 | c :: r=>gJ List.cons (c.tr t) (vY t r)
def SW.tr (t:Tr):SW→Option SW
 | .one c=>(c.tr t).map .one
 | .agg cs=>(vY t cs).map .agg
def Hq (t:Tr):List SW→Option (List SW)
 | []=>some []
 | c :: r=>gJ List.cons (c.tr t) (Hq t r)
def SV.tr (t:Tr):SV→Option SV
 | .w x=>(x.tr t).map .w
 | .gZ xs=>(Hq t xs).map .gZ
 | .gd c x=>gJ .gd (c.tr t) (x.tr t)
def yj (t:Tr):List ae→Option (List ae)
 | []=>some []
 | g :: r=>if Nat.blt g.r t.m then none else gJ (fun n s=>{g with r:=g.r-t.m+t.d,n1:=n} :: s) (g.n1.tr t) (yj t r)
def SB.tr (t:Tr) (b:SB):Option SB :=
 if b.gone then some eG
 else if b.ups.isEmpty then
  match vY t b.cs,yj t b.aV,b.nl.tr t with
  | some cs,some aV,some nl =>
   match b.cap with
   | none=>some {b with cs:=cs,aV:=aV,nl:=nl}
   | some (e,n)=>match e.tr t with | some e=>some {b with cs:=cs,aV:=aV,nl:=nl,cap:=some (e,n)} | none=>none
  | _,_,_=>none
 else none
structure Zu (t:Tr) (dU ρ':Env) (gH aI:Nat→Addr):Prop where
 i:∀i e,i<t.m→assoc i t.σ.iv=some e→e.den ρ'=dU.iv i
 b:∀i e,i<t.m→assoc i t.σ.bv=some e→e.den ρ'=dU.bv i
 v:∀i e,i<t.m→assoc i t.σ.vv=some e→e.den ρ' aI=dU.vv i
 iv:∀i,t.m≤i→ρ'.iv (i-t.m+t.d)=dU.iv i
 bv:∀i,t.m≤i→ρ'.bv (i-t.m+t.d)=dU.bv i
 vv:∀i,t.m≤i→ρ'.vv (i-t.m+t.d)=dU.vv i
 ic:∀i,t.m≤i→ρ'.ic (i-t.m+t.d)=dU.ic i
 bc:∀i,t.m≤i→ρ'.bc (i-t.m+t.d)=dU.bc i
 vc:∀i,t.m≤i→ρ'.vc (i-t.m+t.d)=dU.vc i
 bo:∀k a,k<t.n→assoc k t.σ.bk=some a→a.base=true→aI a.aD=gH k
 bn:∀k,t.n≤k→aI (k-t.n+t.n0)=gH k
section
variable {t:Tr} {dU ρ':Env} {gH aI:Nat→Addr} (H:Zu t dU ρ' gH aI)
include H
theorem IE.cK:∀{e e':IE},e.tr t=some e'→e'.den ρ'=e.den dU:=by
 intro e
 induction e with
 | lit n=>intro e' h;simp [IE.tr] at h;subst h;rfl
 | var i =>
  intro e' h
  simp only [IE.tr] at h
  split at h
  ·rename_i hi;exact H.i i e' (by simpa using hi) h
  ·rename_i hi
   simp at h
   subst h
   exact H.iv i (by simpa using hi)
 | add a b iha ihb | sub a b iha ihb | mul a b iha ihb | div a b iha ihb | mod a b iha ihb | oL a b iha ihb | imax a b iha ihb =>
  intro e' h
  obtain ⟨x,y,h1,h2,rfl⟩:=fG h
  simp only [IE.den,iha h1,ihb h2]
 | wrap k a ih =>
  intro e' h
  simp only [IE.tr,Option.map_eq_some_iff] at h
  obtain ⟨x,h1,rfl⟩:=h
  simp only [IE.den,ih h1]
 | cell r a b j iha ihb =>
  intro e' h
  simp only [IE.tr] at h
  split at h
  ·cases h
  ·rename_i hr
   obtain ⟨x,y,h1,h2,rfl⟩:=fG h
   simp only [IE.den,iha h1,ihb h2,H.ic r (by simpa using hr)]
theorem BE.cK:∀{e e':BE},e.tr t=some e'→e'.den ρ'=e.den dU:=by
 intro e
 induction e with
 | lit n=>intro e' h;simp [BE.tr] at h;subst h;rfl
 | var i =>
  intro e' h
  simp only [BE.tr] at h
  split at h
  ·rename_i hi;exact H.b i e' (by simpa using hi) h
  ·rename_i hi
   simp at h
   subst h
   exact H.bv i (by simpa using hi)
 | and a b iha ihb | or a b iha ihb | beq a b iha ihb =>
  intro e' h
  obtain ⟨x,y,h1,h2,rfl⟩:=fG h
  simp only [BE.den,iha h1,ihb h2]
 | aB a b | aA a b | bR a b =>
  intro e' h
  obtain ⟨x,y,h1,h2,rfl⟩:=fG h
  simp only [BE.den,IE.cK H h1,IE.cK H h2]
 | not a ih =>
  intro e' h
  simp only [BE.tr,Option.map_eq_some_iff] at h
  obtain ⟨x,h1,rfl⟩:=h
  simp only [BE.den,ih h1]
 | inr k a =>
  intro e' h
  simp only [BE.tr,Option.map_eq_some_iff] at h
  obtain ⟨x,h1,rfl⟩:=h
  simp only [BE.den,IE.cK H h1]
 | ite c a b Xq iha ihb =>
  intro e' h
  simp only [BE.tr] at h
  split at h
  ·rename_i x y z h1 h2 h3
   simp at h
   subst h
   simp only [BE.den,Xq h1,iha h2,ihb h3]
  ·cases h
 | cell r a b j =>
  intro e' h
  simp only [BE.tr] at h
  split at h
  ·cases h
  ·rename_i hr
   obtain ⟨x,y,h1,h2,rfl⟩:=fG h
   simp only [BE.den,IE.cK H h1,IE.cK H h2,H.bc r (by simpa using hr)]
theorem EN {k b:Nat} (h:IP t k=some b):aI b=gH k:=by
 unfold IP at h
 split at h
 ·rename_i hk
  split at h
  ·rename_i a ha
   split at h
   ·rename_i hb
    simp at h
    subst h
    exact H.bo k a (by simpa using hk) ha hb
   ·cases h
  ·cases h
 ·rename_i hk
  simp at h
  subst h
  exact H.bn k (by simpa using hk)
theorem SA.cK {a a':SA} (h:a.tr t=some a'):a'.den ρ' aI=a.den dU gH:=by
 unfold SA.tr at h
 split at h
 ·rename_i b i1 i2 h1 h2 h3
  simp at h
  subst h
  simp only [SA.den,SA.off,EN H h1,IE.cK H h2,IE.cK H h3]
 ·cases h
theorem IQ:∀{l l':List Nat},Ho t l=some l'→l'.map aI=l.map gH
 | [],l',h=>by simp [Ho] at h;subst h;rfl
 | k :: r,l',h=>by
  obtain ⟨x,y,h1,h2,rfl⟩:=fG h
  simp only [List.map_cons,EN H h1,IQ h2]
theorem SC.cK:∀{c c':SC},c.tr t=some c'→c'.den ρ' aI=c.den dU gH∧(c.isHole=false→c'.isHole=false)∧(c.isHole=true→c'.isHole=true):=by
 intro c
 induction c with
 | int k e =>
  intro c' h
  simp only [SC.tr,Option.map_eq_some_iff] at h
  obtain ⟨x,h1,rfl⟩:=h
  exact ⟨by simp only [SC.den,IE.cK H h1],fun _=>rfl,fun h=>by cases h⟩
 | bool e =>
  intro c' h
  simp only [SC.tr,Option.map_eq_some_iff] at h
  obtain ⟨x,h1,rfl⟩:=h
  exact ⟨by simp only [SC.den,BE.cK H h1],fun _=>rfl,fun h=>by cases h⟩
 | val i =>
  intro c' h
  simp only [SC.tr] at h
  split at h
  ·rename_i hi
   split at h
   ·rename_i c hc
    split at h
    ·cases h
    ·rename_i hh
     simp at h
     subst h
     have:=H.v i c (by simpa using hi) hc
     refine ⟨?_,fun _=>by simpa using hh,fun h=>by cases h⟩
     simp only [SC.den,←this]
     exact (zF (SC.qW c (by simpa using hh))).symm
   ·cases h
  ·rename_i hi
   simp at h
   subst h
   exact ⟨by simp only [SC.den,H.vv i (by simpa using hi)],fun _=>rfl,fun h=>by cases h⟩
 | jh r a b j =>
  intro c' h
  simp only [SC.tr] at h
  split at h
  ·cases h
  ·rename_i hr
   obtain ⟨x,y,h1,h2,rfl⟩:=fG h
   exact ⟨by simp only [SC.den,IE.cK H h1,IE.cK H h2,H.vc r (by simpa using hr)],fun _=>rfl,fun h=>by cases h⟩
 | ptr a =>
  intro c' h
  simp only [SC.tr,Option.map_eq_some_iff] at h
  obtain ⟨x,h1,rfl⟩:=h
  exact ⟨by simp only [SC.den,SA.cK H h1],fun _=>rfl,fun h=>by cases h⟩
 | sl a l c =>
  intro c' h
  simp only [SC.tr] at h
  split at h
  ·rename_i x y z h1 h2 h3
   simp at h
   subst h
   exact ⟨by simp only [SC.den,SA.cK H h1,IE.cK H h2,IE.cK H h3],fun _=>rfl,fun h=>by cases h⟩
  ·cases h
 | eY k a l c =>
  intro c' h
  simp only [SC.tr] at h
  split at h
  ·rename_i k x y z h0 h1 h2 h3
   simp at h
   subst h
   exact ⟨by simp only [SC.den,BE.cK H h0,SA.cK H h1,IE.cK H h2,IE.cK H h3],fun _=>rfl,fun h=>by cases h⟩
  ·cases h
 | fn f jl =>
  intro c' h
  simp only [SC.tr,Option.map_eq_some_iff] at h
  obtain ⟨x,h1,rfl⟩:=h
  have:=IQ H h1
  refine ⟨?_,fun _=>rfl,fun h=>by cases h⟩
  simp only [SC.den]
  have e:∀(μ:Nat→Addr) (l:List Nat),(l.map fun b=>Value.pointer (some (μ b)))=(l.map μ).map fun a=>Value.pointer (some a):=fun μ l=>by simp
  rw [e,e,this]
 | iface u c ih =>
  intro c' h
  simp only [SC.tr,Option.map_eq_some_iff] at h
  obtain ⟨x,h1,rfl⟩:=h
  exact ⟨by simp only [SC.den,(ih h1).1],fun _=>rfl,fun h=>by cases h⟩
 | iB k c ih =>
  intro c' h
  simp only [SC.tr] at h
  split at h
  ·rename_i k' x h0 h1
   simp at h
   subst h
   obtain ⟨i1,i2,i3⟩:=ih h1
   exact ⟨by simp only [SC.den,BE.cK H h0,i1],i2,i3⟩
  ·cases h
 | mp b =>
  intro c' h
  simp only [SC.tr,Option.map_eq_some_iff] at h
  obtain ⟨x,h1,rfl⟩:=h
  exact ⟨by simp only [SC.den,EN H h1],fun _=>rfl,fun h=>by cases h⟩
 | _ =>
  intro c' h
  simp only [SC.tr,Option.some.injEq] at h
  subst h
  exact ⟨rfl,fun h=>h,fun h=>h⟩
theorem IU:∀{l l':List SC},vY t l=some l'→l'.length=l.length∧∀(p:Nat) (c':SC),l'[p]?=some c'→∃c,l[p]?=some c∧c.tr t=some c'
 | [],l',h=>by have _:=H;simp [vY] at h;subst h;exact ⟨rfl,fun p c h=>by simp at h⟩
 | c :: r,l',h=>by
  obtain ⟨x,y,h1,h2,rfl⟩:=fG h
  obtain ⟨h3,h4⟩:=IU h2
  refine ⟨by simp [h3],fun p c' hp=>?_⟩
  cases p with
  | zero=>simp at hp;subst hp;exact ⟨c,rfl,h1⟩
  | succ p=>simpa using h4 p c' (by simpa using hp)
theorem F8:∀{l l':List SC},vY t l=some l'→l'.map (·.den ρ' aI)=l.map (·.den dU gH)
 | [],l',h=>by simp [vY] at h;subst h;rfl
 | c :: r,l',h=>by
  obtain ⟨x,y,h1,h2,rfl⟩:=fG h
  simp only [List.map_cons,(SC.cK H h1).1,F8 h2]
theorem SW.cK {x x':SW} (h:x.tr t=some x'):x'.den ρ' aI=x.den dU gH:=by
 cases x <;> simp only [SW.tr,Option.map_eq_some_iff] at h <;> obtain ⟨y,h1,rfl⟩:=h
 ·exact (SC.cK H h1).1
 ·simp only [SW.den,F8 H h1]
theorem F9:∀{l l':List SW},Hq t l=some l'→l'.map (·.den ρ' aI)=l.map (·.den dU gH)
 | [],l',h=>by simp [Hq] at h;subst h;rfl
 | c :: r,l',h=>by
  obtain ⟨x,y,h1,h2,rfl⟩:=fG h
  simp only [List.map_cons,SW.cK H h1,F9 h2]
theorem SV.cK {x x':SV} (h:x.tr t=some x'):x'.den ρ' aI=x.den dU gH:=by
 cases x <;> simp only [SV.tr] at h
 ·simp only [Option.map_eq_some_iff] at h
  obtain ⟨y,h1,rfl⟩:=h
  exact SW.cK H h1
 ·simp only [Option.map_eq_some_iff] at h
  obtain ⟨y,h1,rfl⟩:=h
  simp only [SV.den,F9 H h1]
 ·obtain ⟨y,z,h1,h2,rfl⟩:=fG h
  simp only [SV.den,BE.cK H h1,SW.cK H h2]
theorem Ga:∀{l l':List ae},yj t l=some l'→(l=[]↔l'=[])∧∀(p:Nat) (g':ae),l'[p]?=some g'→∃g n,l[p]?=some g∧t.m≤g.r∧g.n1.tr t=some n∧g'={g with r:=g.r-t.m+t.d,n1:=n}
 | [],l',h=>by have _:=H;simp [yj] at h;subst h;exact ⟨Iff.rfl,fun p c h=>by simp at h⟩
 | g :: r,l',h=>by
  simp only [yj] at h
  split at h
  ·cases h
  rename_i hr
  obtain ⟨x,y,h1,h2,rfl⟩:=fG h
  obtain ⟨-,h4⟩:=Ga h2
  refine ⟨by simp,fun p c' hp=>?_⟩
  cases p with
  | zero=>simp at hp;subst hp;exact ⟨g,x,rfl,by simpa using hr,h1,rfl⟩
  | succ p=>simpa using h4 p c' (by simpa using hp)
theorem SB.UC {b b':SB} (h:b.tr t=some b') (hg:b'.gone=false):b.gone=false∧b'.t=b.t∧b'.ro=b.ro∧b'.own=b.own∧b'.nl.den ρ'=b.nl.den dU∧∀arr,b.has dU gH arr→b'.has ρ' aI arr:=by
 unfold SB.tr at h
 split at h
 ·simp at h;subst h;cases hg
 rename_i hbg
 split at h
 case isFalse=>cases h
 rename_i hu
 have hu':b.ups=[]:=by simpa using hu
 split at h
 case h_2=>cases h
 rename_i cs aV nl h1 h2 h3
 obtain ⟨c1,c2⟩:=IU H h1
 obtain ⟨s1,s2⟩:=Ga H h2
 have key:∀b2:SB,b2.cs=cs→b2.aV=aV→b2.ups=b.ups→b2.opn=b.opn→(∀e n,b2.cap=some (e,n)→∃e0,b.cap=some (e0,n)∧e0.tr t=some e)→∀arr,b.has dU gH arr→b2.has ρ' aI arr:=by
  intro b2 e1 e2 e3 e4 e5 arr hb
  refine ⟨fun u hu=>(by rw [e3,hu'] at hu;cases hu),fun hs ho=>?_,fun e n he=>?_,fun p c hp hh=>?_,fun gi g hgi i1 i2 j a1 a2 a3=>?_⟩
  ·rw [e1,c1]
   exact hb.size (s1.2 (e2 ▸ hs)) (e4 ▸ ho)
  ·obtain ⟨e0,h5,h6⟩:=e5 e n he
   rw [IE.cK H h6]
   exact hb.cap e0 n h5
  ·obtain ⟨c0,h5,h6⟩:=c2 p c (e1 ▸ hp)
   obtain ⟨h7,-,h9⟩:=SC.cK H h6
   rw [h7]
   refine hb.ex p c0 h5 ?_
   cases hc:c0.isHole with
   | false=>rfl
   | true=>rw [h9 hc] at hh;cases hh
  ·obtain ⟨g0,n,h5,h6,h7,rfl⟩:=s2 gi g (e2 ▸ hgi)
   simp only [IE.cK H h7] at a1
   have:=hb.sg gi g0 h5 i1 i2 j a1 a2 a3
   rw [hu'] at this
   rw [e3,hu']
   simp only [cu] at this ⊢
   rw [this]
   simp only [ae.base,H.ic _ h6,H.bc _ h6,H.vc _ h6]
 split at h
 ·rename_i hcap
  simp at h
  subst h
  exact ⟨by simpa using hbg,rfl,rfl,rfl,BE.cK H h3,key _ rfl rfl rfl rfl (fun e n he=>by rw [hcap] at he;cases he)⟩
 ·rename_i e n hcap
  split at h
  ·rename_i e' he'
   simp at h
   subst h
   refine ⟨by simpa using hbg,rfl,rfl,rfl,BE.cK H h3,key _ rfl rfl rfl rfl (fun e1 n1 he=>?_)⟩
   simp at he
   exact ⟨e,by rw [hcap,he.2],by rw [←he.1];exact he'⟩
  ·cases h
end
end Go.Rex
