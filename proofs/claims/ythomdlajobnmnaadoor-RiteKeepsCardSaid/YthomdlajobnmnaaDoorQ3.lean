/- part 3 of the proof -/
import Derived.Test.YthomdlajobnmnaaDoorQ2
set_option linter.unusedSimpArgs false
set_option linter.unusedVariables false
namespace Go.Rex
inductive CV where
 | up (g:aa) (gi:Nat) (us:List Up) (sh:IE)
 | ex (cs:List SC) (s1 s2 lo:Nat)
 deriving Inhabited
def SC.I (ρ:Env):SC→Int
 | .int _ e=>e.den ρ
 | _=>0
def SC.B (ρ:Env):SC→Bool
 | .bool b=>b.den ρ
 | _=>false
def ah (ρ:Env):List Up→Nat→Nat→Nat→Nat→Int→Int
 | [],_,_,_,_,b=>b
 | u :: r,g,i1,i2,j,b =>
  if u.g=g∧(u.i1.den ρ).toNat=i1∧(u.i2.den ρ).toNat=i2∧u.j=j then u.c.I ρ else ah ρ r g i1 i2 j b
def ai (ρ:Env):List Up→Nat→Nat→Nat→Nat→Bool→Bool
 | [],_,_,_,_,b=>b
 | u :: r,g,i1,i2,j,b =>
  if u.g=g∧(u.i1.den ρ).toNat=i1∧(u.i2.den ρ).toNat=i2∧u.j=j then u.c.B ρ else ai ρ r g i1 i2 j b
def aa.I (ρ:Env) (g:aa) (i1 i2 j:Nat):Int:=if g.z then 0 else ρ.ic g.r i1 i2 j
def aa.B (ρ:Env) (g:aa) (i1 i2 j:Nat):Bool:=if g.z then false else ρ.bc g.r i1 i2 j
def CV.I (ρ:Env):CV→Nat→Nat→Nat→Int
 | .up g gi us sh,i1,i2,j=>ah ρ us gi ((sh.den ρ).toNat+i1) i2 j (g.I ρ ((sh.den ρ).toNat+i1) i2 j)
 | .ex cs s1 s2 lo,i1,i2,j=>(cs.getD (i1 * s1+i2 * s2+lo+j) .hole).I ρ
def CV.B (ρ:Env):CV→Nat→Nat→Nat→Bool
 | .up g gi us sh,i1,i2,j=>ai ρ us gi ((sh.den ρ).toNat+i1) i2 j (g.B ρ ((sh.den ρ).toNat+i1) i2 j)
 | .ex cs s1 s2 lo,i1,i2,j=>(cs.getD (i1 * s1+i2 * s2+lo+j) .hole).B ρ
def CV.V (ρ:Env) (ν:Nat→Addr):CV→Nat→Nat→Nat→Value
 | .up g gi us sh,i1,i2,j=>bY ρ ν us gi ((sh.den ρ).toNat+i1) i2 j (g.base ρ ((sh.den ρ).toNat+i1) i2 j)
 | .ex cs s1 s2 lo,i1,i2,j=>(cs.getD (i1 * s1+i2 * s2+lo+j) .hole).den ρ ν
def mq:Kd→SC→Bool
 | .int k,.int l _=>jL k l
 | .bool,.bool _=>true
 | .val,c=>!c.isHole
 | _,_=>false
def lT (ks:List Kd) (gi:Nat):List Up→Bool
 | []=>true
 | u :: r=>(!(u.g == gi) || (match ks[u.j]? with | some k=>mq k u.c | none=>true)) && lT ks gi r
theorem EJ {k:IntKind} {c:SC} (h:mq (.int k) c=true) (ρ:Env) (ν:Nat→Addr):c.den ρ ν=.int k (c.I ρ):=by
 cases c <;> simp [mq] at h
 rw [iE h];rfl
theorem Ci {c:SC} (h:mq .bool c=true) (ρ:Env) (ν:Nat→Addr):c.den ρ ν=.bool (c.B ρ):=by
 cases c <;> simp [mq] at h
 rfl
theorem EK {c:SC} (h:mq .val c=true) (ρ:Env) (ν:Nat→Addr):(c.den ρ ν).oneCell'=true:=by
 refine SC.rz c ?_
 cases c <;> simp_all [mq,SC.isHole]
section
variable {ρ:Env} {ν:Nat→Addr} {ks:List Kd} {gi:Nat}
theorem Cj {k:IntKind} {i1 i2 j:Nat} {b:Int} (hj:ks[j]?=some (.int k)):∀{us:List Up},lT ks gi us=true →
  bY ρ ν us gi i1 i2 j (.int k b)=.int k (ah ρ us gi i1 i2 j b)
 | [],_=>rfl
 | u :: r,h=>by
  simp only [lT,Bool.and_eq_true,Bool.or_eq_true,Bool.not_eq_true',beq_eq_false_iff_ne,ne_eq] at h
  unfold bY ah
  split
  ·rename_i hc
   obtain ⟨e1,-,-,e2⟩:=hc
   rcases h.1 with h1 | h1
   ·exact absurd e1 h1
   ·rw [e2,hj] at h1
    exact EJ h1 ρ ν
  ·exact Cj hj h.2
theorem zZ {i1 i2 j:Nat} {b:Bool} (hj:ks[j]?=some .bool):∀{us:List Up},lT ks gi us=true →
  bY ρ ν us gi i1 i2 j (.bool b)=.bool (ai ρ us gi i1 i2 j b)
 | [],_=>rfl
 | u :: r,h=>by
  simp only [lT,Bool.and_eq_true,Bool.or_eq_true,Bool.not_eq_true',beq_eq_false_iff_ne,ne_eq] at h
  unfold bY ai
  split
  ·rename_i hc
   obtain ⟨e1,-,-,e2⟩:=hc
   rcases h.1 with h1 | h1
   ·exact absurd e1 h1
   ·rw [e2,hj] at h1
    exact Ci h1 ρ ν
  ·exact zZ hj h.2
theorem Ck {i1 i2 j:Nat} {b:Value} (hb:b.oneCell'=true) (hj:ks[j]?=some .val):∀{us:List Up},lT ks gi us=true →
  (bY ρ ν us gi i1 i2 j b).oneCell'=true
 | [],_=>hb
 | u :: r,h=>by
  simp only [lT,Bool.and_eq_true,Bool.or_eq_true,Bool.not_eq_true',beq_eq_false_iff_ne,ne_eq] at h
  unfold bY
  split
  ·rename_i hc
   obtain ⟨e1,-,-,e2⟩:=hc
   rcases h.1 with h1 | h1
   ·exact absurd e1 h1
   ·rw [e2,hj] at h1
    exact EK h1 ρ ν
  ·exact Ck hb hj h.2
def nu (kd:Option Kd) (i:Int) (b:Bool) (v:Value):Value :=
 match kd with
 | some (.int k)=>.int k i
 | some .bool=>.bool b
 | _=>xB v
theorem aa.zo (g:aa) (hz:g.z=false) (i1 i2 j:Nat):g.base ρ i1 i2 j=nu g.ks[j]? (ρ.ic g.r i1 i2 j) (ρ.bc g.r i1 i2 j) (ρ.vc g.r i1 i2 j):=by
 unfold aa.base nu
 rw [hz]
 rfl
theorem KY {g:aa} {us:List Up} {i1 i2 j:Nat} (hj:j<g.ks.length) (hf:lT g.ks gi us=true) :
  bY ρ ν us gi i1 i2 j (g.base ρ i1 i2 j)=nu g.ks[j]? (ah ρ us gi i1 i2 j (g.I ρ i1 i2 j)) (ai ρ us gi i1 i2 j (g.B ρ i1 i2 j)) (bY ρ ν us gi i1 i2 j (g.base ρ i1 i2 j)):=by
 have hjs:g.ks[j]?=some g.ks[j]:=List.getElem?_eq_getElem hj
 cases hk:g.ks[j] with
 | int k =>
  rw [hk] at hjs
  have hb:g.base ρ i1 i2 j=.int k (g.I ρ i1 i2 j):=by unfold aa.base;rw [hjs];rfl
  rw [hjs,hb,Cj hjs hf]
  rfl
 | bool =>
  rw [hk] at hjs
  have hb:g.base ρ i1 i2 j=.bool (g.B ρ i1 i2 j):=by unfold aa.base;rw [hjs];rfl
  rw [hjs,hb,zZ hjs hf]
  rfl
 | val =>
  rw [hk] at hjs
  rw [hjs]
  have hb:(g.base ρ i1 i2 j).oneCell'=true:=by unfold aa.base;rw [hjs];exact Am _
  simp only [nu]
  rw [zf (Ck hb hjs hf)]
theorem M7 {kd:Kd} {c:SC} (h:mq kd c=true):c.den ρ ν=nu (some kd) (c.I ρ) (c.B ρ) (c.den ρ ν):=by
 cases kd with
 | int k=>simpa [nu] using EJ h ρ ν
 | bool=>simpa [nu] using Ci h ρ ν
 | val=>simp only [nu];rw [zf (EK h ρ ν)]
end
structure Sub where
 lo:Nat
 az:Nat
 iv:List (Nat × IE):=[]
 bv:List (Nat × BE):=[]
 vv:List (Nat × SC):=[]
 ct:List (Nat × CV):=[]
 bk:List (Nat × SA):=[]
 nb:List Nat:=[]
 deriving Inhabited
def Env.num (ρ:Env):Env:={ρ with vv:=fun _=>undef,vc:=fun _ _ _ _=>undef}
def Sub.af (σ:Sub) (ρ:Env):Env where
 iv:=fun i=>if i<σ.lo then ρ.iv i else match assoc i σ.iv with | some e=>e.den ρ | none=>0
 bv:=fun i=>if i<σ.lo then ρ.bv i else match assoc i σ.bv with | some e=>e.den ρ | none=>false
 ic:=fun r=>if r<σ.lo then ρ.ic r else match assoc r σ.ct with | some c=>c.I ρ | none=>fun _ _ _=>0
 bc:=fun r=>if r<σ.lo then ρ.bc r else match assoc r σ.ct with | some c=>c.B ρ | none=>fun _ _ _=>false
def Sub.env (σ:Sub) (ρ:Env) (ν:Nat→Addr):Env :=
 {σ.af ρ with
   vv:=fun i=>if i<σ.lo then ρ.vv i else match assoc i σ.vv with | some e=>e.den ρ ν | none=>undef
   vc:=fun r=>if r<σ.lo then ρ.vc r else match assoc r σ.ct with | some c=>c.V ρ ν | none=>fun _ _ _=>undef}
def Sub.fA (σ:Sub) (ρ:Env) (ν:Nat→Addr):Nat→Addr :=
 fun k=>if k<σ.az then ν k else match assoc k σ.bk with | some a=>a.den ρ ν | none=>⟨0,0,none⟩
theorem Sub.iq (σ:Sub) (ρ:Env) (ν:Nat→Addr):dB σ.lo σ.az ρ (σ.env ρ ν) ν (σ.fA ρ ν) :=
 ⟨fun i hi=>by simp [Sub.env,Sub.af,hi],fun i hi=>by simp [Sub.env,Sub.af,hi],fun i hi=>by simp [Sub.env,hi],fun i hi=>by simp [Sub.env,Sub.af,hi],
  fun i hi=>by simp [Sub.env,Sub.af,hi],fun i hi=>by simp [Sub.env,hi],fun i hi=>by simp [Sub.fA,hi]⟩
def xS (σ:Sub) (t e:IE):Bool :=
 match t with
 | .var i=>if Nat.blt i σ.lo then t.same e else match assoc i σ.iv with | some x=>x.same e | none=>false
 | _=>t.same e && t.sc σ.lo
def xw (σ:Sub) (t e:BE):Bool :=
 match t with
 | .var i=>if Nat.blt i σ.lo then t.same e else match assoc i σ.bv with | some x=>x.same e | none=>false
 | _=>t.same e && t.sc σ.lo
def IE.JI:IE→Bool
 | .lit 0=>true
 | _=>false
theorem IE.Cm {ρ:Env} {a:IE} (h:a.JI=true):a.den ρ=0:=by
 unfold IE.JI at h
 split at h
 ·rfl
 ·cases h
def JJ (σ:Sub) (t a:SA):Bool :=
 if Nat.blt t.aH σ.az then t.same a && t.sc σ.lo σ.az
 else match t.i1 with
  | .var o=>xS σ (.var o) a.i1 && t.s1 == a.s1 && t.i2.JI && a.i2.JI && t.j == 0 && a.j == 0 && (match assoc t.aH σ.bk with | some x=>x.aH == a.aH && x.i1.JI && x.i2.JI && x.j == 0 | none=>false)
  | _=>(match t.dw with | some 0=>true | _=>false) && (match assoc t.aH σ.bk with | some x=>x.same a | none=>false)
def JK (σ:Sub) (t b:Nat):Bool :=
 if Nat.blt t σ.az then t == b else match assoc t σ.bk with | some x=>x.same {aH:=b} | none=>false
def DI (σ:Sub):List Nat→List Nat→Bool
 | [],[]=>true
 | a :: r,b :: s=>JK σ a b && DI σ r s
 | _,_=>false
def jl (σ:Sub):SC→SC→Bool
 | .int k e,.int l f=>jL k l && xS σ e f
 | .bool e,.bool f=>xw σ e f
 | .val i,c=>if Nat.blt i σ.lo then (SC.val i).same c else match assoc i σ.vv with | some x=>x.same c && !c.isHole | none=>false
 | .ptr a,.ptr b=>JJ σ a b
 | .sl a l c,.sl b m d=>JJ σ a b && xS σ l m && xS σ c d
 | .eX k a l c,.sl b m d=>xw σ k (.lit false) && JJ σ a b && xS σ l m && xS σ c d
 | .eX k a l c,.eX k' b m d=>xw σ k k' && JJ σ a b && xS σ l m && xS σ c d
 | .eX k _ _ _,.bN=>xw σ k (.lit true)
 | .fn f a,.fn g b=>f == g && DI σ a b
 | .iface t c,.iface u d=>t == u && jl σ c d
 | .iQ k c,.iQ k' d=>xw σ k k' && jl σ c d
 | .iQ k _,.df=>xw σ k (.lit true)
 | .iQ k c,.iface u d=>xw σ k (.lit false) && jl σ c (.iface u d)
 | .mp a,.mp b=>JK σ a b
 | t,c=>t.same c && t.sc σ.lo σ.az
def DJ (σ:Sub):List SC→List SC→Bool
 | [],[]=>true
 | a :: r,b :: s=>jl σ a b && DJ σ r s
 | _,_=>false
def M8 (σ:Sub):SW→SW→Bool
 | .one a,.one b=>jl σ a b
 | .agg a,.agg b=>DJ σ a b
 | _,_=>false
def AB (σ:Sub):List SW→List SW→Bool
 | [],[]=>true
 | a :: r,b :: s=>M8 σ a b && AB σ r s
 | _,_=>false
def Rw (σ:Sub):SV→SV→Bool
 | .w a,.w b=>M8 σ a b
 | .iU a,.iU b=>AB σ a b
 | .gd c a,.gd d b=>xw σ c d && M8 σ a b
 | _,_=>false
section
variable {ρ:Env} {ν:Nat→Addr} {σ:Sub}
theorem om {t e:IE} (h:xS σ t e=true):t.den (σ.env ρ ν)=e.den ρ:=by
 unfold xS at h
 split at h
 ·rename_i i
  split at h
  ·rename_i hi
   rw [←IE.aF h]
   exact IE.aQ (σ.iq ρ ν) (e:=.var i) hi
  ·rename_i hi
   split at h
   ·rename_i x hx
    have hi':¬i<σ.lo:=by simpa using hi
    simp only [IE.den,Sub.env,Sub.af,if_neg hi',hx,IE.aF h]
   ·cases h
 ·simp only [Bool.and_eq_true] at h
  rw [←IE.aF h.1]
  exact IE.aQ (σ.iq ρ ν) h.2
theorem mU {t e:BE} (h:xw σ t e=true):t.den (σ.env ρ ν)=e.den ρ:=by
 unfold xw at h
 split at h
 ·rename_i i
  split at h
  ·rename_i hi
   rw [←BE.aF h]
   exact BE.aQ (σ.iq ρ ν) (e:=.var i) hi
  ·rename_i hi
   split at h
   ·rename_i x hx
    have hi':¬i<σ.lo:=by simpa using hi
    simp only [BE.den,Sub.env,Sub.af,if_neg hi',hx,BE.aF h]
   ·cases h
 ·simp only [Bool.and_eq_true] at h
  rw [←BE.aF h.1]
  exact BE.aQ (σ.iq ρ ν) h.2
theorem Cn {t a:SA} (h:JJ σ t a=true):t.den (σ.env ρ ν) (σ.fA ρ ν)=a.den ρ ν:=by
 unfold JJ at h
 split at h
 ·simp only [Bool.and_eq_true] at h
  rw [←SA.aF h.1]
  exact SA.aQ (σ.iq ρ ν) h.2
 ·rename_i hb
  have hb':¬t.aH<σ.az:=by simpa using hb
  split at h
  ·rename_i o ho
   simp only [Bool.and_eq_true,beq_iff_eq] at h
   obtain ⟨⟨⟨⟨⟨⟨h1,h2⟩,h3⟩,h4⟩,h5⟩,h6⟩,h7⟩:=h
   split at h7
   ·rename_i x hx
    simp only [Bool.and_eq_true,beq_iff_eq] at h7
    obtain ⟨⟨⟨g1,g2⟩,g3⟩,g4⟩:=h7
    have e1:=om (ρ:=ρ) (ν:=ν) h1
    have ha:σ.fA ρ ν t.aH=ν a.aH:=by
     simp only [Sub.fA,if_neg hb',hx]
     simp [SA.den,SA.off,IE.Cm g2,IE.Cm g3,g4,g1,Addr.add_zero]
    simp only [SA.den,SA.off,ho,e1,ha,h2,h5,h6,IE.Cm h3,IE.Cm h4,Int.toNat_zero,Nat.zero_mul]
   ·cases h7
  simp only [Bool.and_eq_true] at h
  obtain ⟨h1,h2⟩:=h
  split at h1
  ·rename_i hl
   split at h2
   ·rename_i x hx
    simp only [SA.den,SA.aR hl,Addr.add_zero]
    simp only [Sub.fA,if_neg hb',hx,SA.aF h2]
    rfl
   ·cases h2
  ·cases h1
theorem xU {t b:Nat} (h:JK σ t b=true):σ.fA ρ ν t=ν b:=by
 unfold JK at h
 split at h
 ·rename_i hb
  simp only [beq_iff_eq] at h
  subst h
  simp only [Sub.fA,if_pos (show t<σ.az by simpa using hb)]
 ·rename_i hb
  have hb':¬t<σ.az:=by simpa using hb
  split at h
  ·rename_i x hx
   simp only [Sub.fA,if_neg hb',hx,SA.aF h]
   simp [SA.den,SA.off,IE.den,Addr.add_zero]
  ·cases h
theorem JL:∀{t b:List Nat},DI σ t b=true→(t.map fun k=>Value.pointer (some (σ.fA ρ ν k)))=b.map fun k=>Value.pointer (some (ν k))
 | [],[],_=>rfl
 | [],_ :: _,h=>by simp [DI] at h
 | _ :: _,[],h=>by simp [DI] at h
 | a :: r,b :: s,h=>by
  simp only [DI,Bool.and_eq_true] at h
  simp only [List.map_cons,xU (ρ:=ρ) (ν:=ν) h.1,JL h.2]
theorem Co:∀{t c:SC},jl σ t c=true→t.den (σ.env ρ ν) (σ.fA ρ ν)=c.den ρ ν:=by
 intro t
 have dflt:∀{t c:SC},(t.same c && t.sc σ.lo σ.az)=true→t.den (σ.env ρ ν) (σ.fA ρ ν)=c.den ρ ν:=by
  intro t c h
  simp only [Bool.and_eq_true] at h
  rw [←SC.aF h.1]
  exact SC.aQ (σ.iq ρ ν) h.2
 induction t with
 | int k e =>
  intro c h
  cases c with
  | int l f =>
   simp only [jl,Bool.and_eq_true] at h
   simp only [SC.den,om (ν:=ν) h.2,iE h.1]
  | _=>exact dflt (by simpa [jl] using h)
 | bool e =>
  intro c h
  cases c with
  | bool f =>
   simp only [jl] at h
   simp only [SC.den,mU (ν:=ν) h]
  | _=>exact dflt (by simpa [jl] using h)
 | val i =>
  intro c h
  simp only [jl] at h
  split at h
  ·rename_i hi
   rw [←SC.aF h]
   exact SC.aQ (σ.iq ρ ν) (c:=.val i) hi
  ·rename_i hi
   have hi':¬i<σ.lo:=by simpa using hi
   split at h
   ·rename_i x hx
    simp only [Bool.and_eq_true,Bool.not_eq_true'] at h
    simp only [SC.den,Sub.env,if_neg hi',hx,SC.aF h.1]
    exact zf (SC.rz c h.2)
   ·cases h
 | ptr a =>
  intro c h
  cases c with
  | ptr b =>
   simp only [jl] at h
   simp only [SC.den,Cn (ρ:=ρ) (ν:=ν) h]
  | _=>exact dflt (by simpa [jl] using h)
 | sl a l k =>
  intro c h
  cases c with
  | sl b m d =>
   simp only [jl,Bool.and_eq_true] at h
   simp only [SC.den,Cn (ρ:=ρ) (ν:=ν) h.1.1,om (ν:=ν) h.1.2,om (ν:=ν) h.2]
  | _=>exact dflt (by simpa [jl] using h)
 | eX k a l x =>
  intro c h
  cases c with
  | sl b m d =>
   simp only [jl,Bool.and_eq_true] at h
   simp only [SC.den,mU (ν:=ν) h.1.1.1,BE.den,Cn (ρ:=ρ) (ν:=ν) h.1.1.2,om (ν:=ν) h.1.2,om (ν:=ν) h.2]
   rfl
  | eX k' b m d =>
   simp only [jl,Bool.and_eq_true] at h
   simp only [SC.den,mU (ν:=ν) h.1.1.1,Cn (ρ:=ρ) (ν:=ν) h.1.1.2,om (ν:=ν) h.1.2,om (ν:=ν) h.2]
  | bN =>
   simp only [jl] at h
   simp only [SC.den,mU (ν:=ν) h,BE.den,if_true]
  | _=>exact dflt (by simpa [jl] using h)
 | fn f a =>
  intro c h
  cases c with
  | fn g b =>
   simp only [jl,Bool.and_eq_true,beq_iff_eq] at h
   simp only [SC.den,h.1,JL (ρ:=ρ) (ν:=ν) h.2]
  | _=>exact dflt (by simpa [jl] using h)
 | iface t x ih =>
  intro c h
  cases c with
  | iface u d =>
   simp only [jl,Bool.and_eq_true,beq_iff_eq] at h
   simp only [SC.den,h.1,ih h.2]
  | _=>exact dflt (by simpa [jl] using h)
 | iQ k x ih =>
  intro c h
  cases c with
  | iQ k' d =>
   simp only [jl,Bool.and_eq_true] at h
   simp only [SC.den,mU (ν:=ν) h.1,ih h.2]
  | df =>
   simp only [jl] at h
   simp only [SC.den,mU (ν:=ν) h,BE.den,if_true]
  | iface u d =>
   simp only [jl,Bool.and_eq_true] at h
   have h2:=ih h.2
   simp only [SC.den,mU (ν:=ν) h.1,BE.den,Bool.false_eq_true,if_false] at h2 ⊢
   exact h2
  | _=>exact dflt (by simpa [jl] using h)
 | mp a =>
  intro c h
  cases c with
  | mp b =>
   simp only [jl] at h
   simp only [SC.den,xU (ρ:=ρ) (ν:=ν) h]
  | _=>exact dflt (by simpa [jl] using h)
 | _ =>
  intro c h
  exact dflt (by simpa [jl] using h)
theorem JM:∀{t c:List SC},DJ σ t c=true→(t.map fun x=>x.den (σ.env ρ ν) (σ.fA ρ ν))=c.map fun x=>x.den ρ ν
 | [],[],_=>rfl
 | [],_ :: _,h=>by simp [DJ] at h
 | _ :: _,[],h=>by simp [DJ] at h
 | a :: r,b :: s,h=>by
  simp only [DJ,Bool.and_eq_true] at h
  simp only [List.map_cons,Co h.1,JM h.2]
theorem GU {t x:SW} (h:M8 σ t x=true):t.den (σ.env ρ ν) (σ.fA ρ ν)=x.den ρ ν:=by
 cases t <;> cases x <;> simp only [M8] at h
 ·exact Co h
 ·cases h
 ·cases h
 ·simp only [SW.den,JM (ρ:=ρ) (ν:=ν) h]
theorem DK:∀{t c:List SW},AB σ t c=true→(t.map fun x=>x.den (σ.env ρ ν) (σ.fA ρ ν))=c.map fun x=>x.den ρ ν
 | [],[],_=>rfl
 | [],_ :: _,h=>by simp [AB] at h
 | _ :: _,[],h=>by simp [AB] at h
 | a :: r,b :: s,h=>by
  simp only [AB,Bool.and_eq_true] at h
  simp only [List.map_cons,GU h.1,DK h.2]
theorem M9 {t x:SV} (h:Rw σ t x=true):t.den (σ.env ρ ν) (σ.fA ρ ν)=x.den ρ ν:=by
 cases t <;> cases x <;> simp only [Rw] at h <;> try cases h
 ·exact GU h
 ·simp only [SV.den,DK (ρ:=ρ) (ν:=ν) h]
 ·simp only [Bool.and_eq_true] at h
  simp only [SV.den,mU (ν:=ν) h.1,GU (ρ:=ρ) (ν:=ν) h.2]
end
end Go.Rex
set_option linter.unusedSimpArgs false
set_option linter.unusedVariables false
namespace Go.Rex
def Sub.ie (σ:Sub) (t:IE):Option IE :=
 match t with
 | .var i=>if Nat.blt i σ.lo then some t else assoc i σ.iv
 | _=>if t.sc σ.lo then some t else none
theorem Sub.Rx {σ:Sub} {t e:IE} {ρ:Env} {ν:Nat→Addr} (h:σ.ie t=some e):t.den (σ.env ρ ν)=e.den ρ:=by
 unfold Sub.ie at h
 split at h
 ·rename_i i
  split at h
  ·rename_i hi
   simp at h
   subst h
   exact IE.aQ (σ.iq ρ ν) (e:=.var i) hi
  ·rename_i hi
   have hi':¬i<σ.lo:=by simpa using hi
   simp only [IE.den,Sub.env,Sub.af,if_neg hi',h]
 ·split at h
  ·rename_i hs
   simp at h
   subst h
   exact IE.aQ (σ.iq ρ ν) hs
  ·cases h
def zq (cs:List SC):List Kd→Nat→Bool
 | [],_=>true
 | k :: r,p=>(match cs[p]? with | some c=>mq k c | none=>false) && zq cs r (p+1)
def Cq (cs:List SC) (ks:List Kd) (s2:Nat):Nat→Nat→Bool
 | 0,_=>true
 | n+1,p=>zq cs ks p && Cq cs ks s2 n (p+s2)
def Cr (cs:List SC) (ks:List Kd) (s2 n2 s1:Nat):Nat→Nat→Bool
 | 0,_=>true
 | n+1,p=>Cq cs ks s2 n2 p && Cr cs ks s2 n2 s1 n (p+s1)
theorem AJ {cs:List SC}:∀{ks:List Kd} {p:Nat},zq cs ks p=true→∀(j:Nat) (k:Kd),ks[j]?=some k→∃c,cs[p+j]?=some c∧mq k c=true
 | [],p,_,j,k,hj=>by simp at hj
 | x :: r,p,h,j,k,hj=>by
  simp only [zq,Bool.and_eq_true] at h
  cases j with
  | zero =>
   simp at hj
   subst hj
   obtain ⟨h,-⟩:=h
   split at h
   ·rename_i c hc;exact ⟨c,hc,h⟩
   ·cases h
  | succ j =>
   obtain ⟨c,hc,hk⟩:=AJ h.2 j k (by simpa using hj)
   exact ⟨c,by rw [←hc];congr 1;omega,hk⟩
theorem AL {cs:List SC} {ks:List Kd} {s2:Nat}:∀{n p:Nat},Cq cs ks s2 n p=true→∀i,i<n→zq cs ks (p+i * s2)=true
 | 0,_,_,i,hi=>by omega
 | n+1,p,h,i,hi=>by
  simp only [Cq,Bool.and_eq_true] at h
  cases i with
  | zero=>simpa using h.1
  | succ i =>
   have:=AL h.2 i (by omega)
   rwa [show p+s2+i * s2=p+(i+1) * s2 by rw [Nat.add_mul];omega] at this
theorem AO {cs:List SC} {ks:List Kd} {s2 n2 s1:Nat}:∀{n p:Nat},Cr cs ks s2 n2 s1 n p=true→∀i,i<n→Cq cs ks s2 n2 (p+i * s1)=true
 | 0,_,_,i,hi=>by omega
 | n+1,p,h,i,hi=>by
  simp only [Cr,Bool.and_eq_true] at h
  cases i with
  | zero=>simpa using h.1
  | succ i =>
   have:=AO h.2 i (by omega)
   rwa [show p+s1+i * s1=p+(i+1) * s1 by rw [Nat.add_mul];omega] at this
def zt (gi:Nat):List Up→Bool
 | []=>true
 | u :: r=>!(u.g == gi) && zt gi r
theorem Cs {ρ:Env} {ν:Nat→Addr} {gi i1 i2 j:Nat} {b:Value}:∀{us:List Up},zt gi us=true→bY ρ ν us gi i1 i2 j b=b
 | [],_=>rfl
 | u :: r,h=>by
  simp only [zt,Bool.and_eq_true,Bool.not_eq_true',beq_eq_false_iff_ne,ne_eq] at h
  unfold bY
  rw [if_neg (fun hc=>h.1 hc.1),Cs h.2]
def IE.Na:IE→Bool
 | .lit 0=>true
 | _=>false
theorem IE.GV {ρ:Env} {e:IE} (h:e.Na=true):e.den ρ=0:=by
 unfold IE.Na at h
 split at h
 ·rfl
 ·cases h
def SA.base (a:SA):Bool:=match a.dw with | some 0=>true | _=>false
theorem SA.zu {ρ:Env} {a:SA} (h:a.base=true):a.off ρ=0:=by
 unfold SA.base at h
 split at h
 ·rename_i hl;exact SA.aR hl
 ·cases h
def DL (c:Option (IE × Nat)):Bool:=match c with | none=>true | _=>false
theorem Ct {c:Option (IE × Nat)} (h:DL c=true):c=none:=by
 cases c with
 | none=>rfl
 | some p=>cases h
def SA.shift (a:SA) (s1:Nat):Option IE :=
 if a.i2.Na && a.j == 0 && (a.i1.Na || a.s1 == s1) then some a.i1 else none
theorem SA.GX {ρ:Env} {a:SA} {s1:Nat} {sh:IE} (h:a.shift s1=some sh):a.off ρ=(sh.den ρ).toNat * s1:=by
 unfold SA.shift at h
 split at h
 ·rename_i hc
  simp only [Bool.and_eq_true,Bool.or_eq_true,beq_iff_eq] at hc
  obtain ⟨⟨h1,h2⟩,h3⟩:=hc
  simp at h
  subst h
  simp only [SA.off,IE.GV h1,h2]
  rcases h3 with h3 | h3
  ·simp [IE.GV h3]
  ·simp [h3]
 ·cases h
def KZ (σ:Sub) (A:SB) (a:SA) (gT:aa) (gi:Nat):Option (List BE) :=
 if Nat.blt gT.r σ.lo then
  match A.aV[gi]? with
  | some g=>if gT.same g && gT.n1.sc σ.lo && zt gi A.ups && a.base then some [] else none
  | none=>none
 else
 match assoc gT.r σ.ct,σ.ie gT.n1 with
 | some (.up g gj us sh),some n1 =>
  match A.aV[gj]?,a.shift gT.s1 with
  | some g',some sh' =>
   if g.same g' && lD us A.ups && lT g.ks gj us && sh.same sh' && gT.s1 == g.s1 && gT.n2 == g.n2 && gT.s2 == g.s2 && gT.lo == g.lo && kK gT.ks g.ks && !gT.z then
    some (if sh.Na && n1.same g.n1 then [] else [.aA (.lit 0) sh,.aA (sh.iJ n1) g.n1])
   else none
  | _,_=>none
 | some (.ex cs s1 s2 lo),some (.lit n1) =>
  match a.dw with
  | some p=>if A.aV.isEmpty && tH cs (A.cs.drop p) && s1 == gT.s1 && s2 == gT.s2 && lo == gT.lo && !gT.z && Cr cs gT.ks gT.s2 gT.n2 gT.s1 n1.toNat gT.lo then some [] else none
  | none=>none
 | _,_=>none
theorem JN {σ:Sub} {ρ:Env} {ν:Nat→Addr} {A:SB} {a:SA} {gT:aa} {gi:Nat} {os:List BE} {arr:Array Value} (h:KZ σ A a gT gi=some os)
  (ho:∀o∈os,o.den ρ=true) (hA:A.has ρ ν arr) (i1 i2 j:Nat) (h1:(i1:Int)<gT.n1.den (σ.env ρ ν)) (h2:i2<gT.n2) (h3:j<gT.ks.length) :
  arr[a.off ρ+(i1 * gT.s1+i2 * gT.s2+gT.lo+j)]?=some (gT.base (σ.env ρ ν) i1 i2 j):=by
 unfold KZ at h
 split at h
 ·rename_i hr
  split at h
  ·rename_i g hg
   split at h
   ·rename_i hc
    simp only [Bool.and_eq_true] at hc
    obtain ⟨⟨⟨c1,c2⟩,c3⟩,c4⟩:=hc
    have e1:=aa.aF c1
    subst e1
    have ha:a.off ρ=0:=SA.zu c4
    rw [IE.aQ (σ.iq ρ ν) c2] at h1
    have:=hA.sg gi gT hg i1 i2 j h1 h2 h3
    rw [Cs c3] at this
    rw [ha,Nat.zero_add,this,aa.AA (σ.iq ρ ν) gT (by simpa using hr)]
   ·cases h
  ·cases h
 ·rename_i hr
  have hr':¬gT.r<σ.lo:=by simpa using hr
  split at h
  ·rename_i g gj us sh n1 hct hn1
   split at h
   ·rename_i g' sh' hg' hsh
    split at h
    ·rename_i hc
     simp only [Bool.and_eq_true,beq_iff_eq,Bool.not_eq_true'] at hc
     obtain ⟨⟨⟨⟨⟨⟨⟨⟨⟨c1,c2⟩,c3⟩,c4⟩,c5⟩,c6⟩,c7⟩,c8⟩,c9⟩,c10⟩:=hc
     have e1:=aa.aF c1
     have e2:=qR c2
     have e3:=IE.aF c4
     have e4:=nZ c9
     subst e1 e2 e3
     have hoff:=SA.GX (ρ:=ρ) hsh
     rw [Sub.Rx hn1] at h1
     have hb:0≤sh.den ρ∧sh.den ρ+n1.den ρ≤g.n1.den ρ:=by
      simp only [Option.some.injEq] at h
      split at h
      ·rename_i hq
       simp only [Bool.and_eq_true] at hq
       rw [IE.GV hq.1,IE.aF hq.2]
       simp
      ·subst h
       have b1:=of_decide_eq_true (ho (.aA (.lit 0) sh) (by simp))
       have b2:=of_decide_eq_true (ho (.aA (sh.iJ n1) g.n1) (by simp))
       rw [IE.j4] at b2
       exact ⟨b1,b2⟩
     have hi:(((sh.den ρ).toNat+i1:Nat):Int)<g.n1.den ρ:=by omega
     have hg2:i2<g.n2:=by rw [←c6];exact h2
     have hj:j<g.ks.length:=by rw [←e4];exact h3
     have:=hA.sg gj g hg' ((sh.den ρ).toNat+i1) i2 j hi hg2 hj
     rw [hoff,c5,c7,c8]
     rw [show (sh.den ρ).toNat * g.s1+(i1 * g.s1+i2 * g.s2+g.lo+j)=((sh.den ρ).toNat+i1) * g.s1+i2 * g.s2+g.lo+j by rw [Nat.add_mul];omega]
     rw [this,KY hj c3,aa.zo gT c10,e4]
     simp only [Sub.env,Sub.af,if_neg hr',hct,CV.I,CV.B,CV.V]
    ·cases h
   ·cases h
  ·rename_i cs s1 s2 lo n1 hct hn1
   split at h
   ·rename_i p hp
    split at h
    ·rename_i hc
     simp only [Bool.and_eq_true,beq_iff_eq,Bool.not_eq_true',List.isEmpty_iff] at hc
     obtain ⟨⟨⟨⟨⟨⟨c1,c2⟩,c3⟩,c4⟩,c5⟩,c6⟩,c7⟩:=hc
     have e1:=vN c2
     rw [Sub.Rx hn1] at h1
     simp only [IE.den] at h1
     have hf:=AL (AO c7 i1 (by omega)) i2 h2
     obtain ⟨c,hc,hk⟩:=AJ hf j gT.ks[j] (List.getElem?_eq_getElem h3)
     have hh:c.isHole=false:=by
      cases hkd:gT.ks[j] <;> rw [hkd] at hk <;> cases c <;> simp_all [mq,SC.isHole]
     have hpos:i1 * gT.s1+i2 * gT.s2+gT.lo+j=gT.lo+i1 * gT.s1+i2 * gT.s2+j:=by omega
     have hc':A.cs[p+(i1 * gT.s1+i2 * gT.s2+gT.lo+j)]?=some c:=by
      rw [←List.getElem?_drop,←e1,hpos];exact hc
     rw [SA.aR hp,hA.ex _ _ hc' hh,M7 hk,aa.zo gT c6,List.getElem?_eq_getElem h3]
     have hgd:cs.getD (i1 * gT.s1+i2 * gT.s2+gT.lo+j) .hole=c:=by
      rw [List.getD_eq_getElem?_getD,hpos,hc];rfl
     simp only [Sub.env,Sub.af,if_neg hr',hct,CV.I,CV.B,CV.V,c3,c4,c5,hgd]
    ·cases h
   ·cases h
  ·cases h
def Cu (σ:Sub) (A:SB) (a:SA):List aa→Nat→Option (List BE)
 | [],_=>some []
 | g :: r,gi =>
  match KZ σ A a g gi,Cu σ A a r (gi+1) with
  | some os,some os'=>some (os ++ os')
  | _,_=>none
theorem AP {σ:Sub} {A:SB} {a:SA}:∀{gs:List aa} {gi:Nat} {os:List BE},Cu σ A a gs gi=some os→∀k g,gs[k]?=some g →
  ∃os',KZ σ A a g (gi+k)=some os'∧∀o∈os',o∈os
 | [],_,_,_,k,g,hk=>by simp at hk
 | x :: r,gi,os,h,k,g,hk=>by
  unfold Cu at h
  split at h
  ·rename_i o1 o2 h1 h2
   simp at h
   subst h
   cases k with
   | zero=>simp at hk;subst hk;exact ⟨o1,h1,fun o ho=>List.mem_append_left _ ho⟩
   | succ k =>
    obtain ⟨os',h3,h4⟩:=AP h2 k g (by simpa using hk)
    exact ⟨os',by rw [←h3];congr 1;omega,fun o ho=>List.mem_append_right _ (h4 o ho)⟩
  ·cases h
def uR (σ:Sub):List SC→List SC→Bool
 | [],_=>true
 | _ :: _,[]=>false
 | a :: r,b :: s=>(a.isHole || (jl σ a b && !b.isHole)) && uR σ r s
theorem xV {σ:Sub}:∀{t c:List SC},uR σ t c=true→∀(p:Nat) (x:SC),t[p]?=some x→x.isHole=false→∃y,c[p]?=some y∧y.isHole=false∧jl σ x y=true
 | [],_,_,p,x,hx,_=>by simp at hx
 | _ :: _,[],h,_,_,_,_=>by simp [uR] at h
 | a :: r,b :: s,h,p,x,hx,hh=>by
  simp only [uR,Bool.and_eq_true,Bool.or_eq_true,Bool.not_eq_true'] at h
  cases p with
  | zero =>
   simp at hx
   subst hx
   rcases h.1 with h1 | h1
   ·rw [hh] at h1;cases h1
   ·exact ⟨b,rfl,h1.2,h1.1⟩
  | succ p =>
   obtain ⟨y,h1,h2⟩:=xV h.2 p x (by simpa using hx) hh
   exact ⟨y,by simpa using h1,h2⟩
def UA (σ:Sub) (t a:Option (IE × Nat)):Bool :=
 match t,a with
 | none,_=>true
 | some (e,n),some (f,m)=>xS σ e f && n == m
 | _,_=>false
def WJ (σ:Sub) (T A:SB) (a:SA):Option (List BE) :=
 if a.base && !A.ro && (T.opn || !T.aV.isEmpty || (A.aV.isEmpty && !A.opn && T.cs.length == A.cs.length)) && UA σ T.cap A.cap && uR σ T.cs A.cs && T.ups.isEmpty then
  Cu σ A a T.aV 0
 else none
def UB (σ:Sub) (T A:SB) (a:SA):Option (List BE) :=
 if T.cs.isEmpty && T.ups.isEmpty && DL T.cap && !T.aV.isEmpty then Cu σ A a T.aV 0
 else if T.aV.isEmpty && T.ups.isEmpty && DL T.cap && A.aV.isEmpty && !A.opn then
  match a.dw with
  | some o=>if Nat.ble (o+T.cs.length) A.cs.length && uR σ T.cs (A.cs.drop o) then some [] else none
  | none=>none
 else none
def AQ (σ:Sub) (T A:SB) (a:SA):Option (List BE) :=
 if A.gone || !(T.t == A.t) || (T.own && (!A.own || T.ro)) || !xw σ T.nl A.nl || (T.ro && T.iW) then none
 else if T.ro then UB σ T A a else WJ σ T A a
def GY (σ:Sub) (hp:List SB) (k:Nat) (T:SB):Option (List BE) :=
 if T.gone then some []
 else if Nat.blt k σ.az then
  match hp[k]? with
  | some A=>if T.wk A && T.sc σ.lo σ.az then some [] else AQ σ T A {aH:=k}
  | none=>none
 else match assoc k σ.bk with
 | some a=>match hp[a.aH]? with | some A=>AQ σ T A a | none=>none
 | none=>if σ.nb.contains k && xw σ T.nl (.lit true) then some [] else none
def FY (σ:Sub) (hp:List SB):List SB→Nat→Option (List BE)
 | [],_=>some []
 | T :: r,k =>
  match GY σ hp k T,FY σ hp r (k+1) with
  | some os,some os'=>some (os ++ os')
  | _,_=>none
theorem AU {σ:Sub} {hp:List SB}:∀{Ts:List SB} {k0:Nat} {os:List BE},FY σ hp Ts k0=some os→∀k T,Ts[k]?=some T →
  ∃os',GY σ hp (k0+k) T=some os'∧∀o∈os',o∈os
 | [],_,_,_,k,g,hk=>by simp at hk
 | x :: r,gi,os,h,k,g,hk=>by
  unfold FY at h
  split at h
  ·rename_i o1 o2 h1 h2
   simp at h
   subst h
   cases k with
   | zero=>simp at hk;subst hk;exact ⟨o1,h1,fun o ho=>List.mem_append_left _ ho⟩
   | succ k =>
    obtain ⟨os',h3,h4⟩:=AU h2 k g (by simpa using hk)
    exact ⟨os',by rw [←h3];congr 1;omega,fun o ho=>List.mem_append_right _ (h4 o ho)⟩
  ·cases h
def Sub.aH (σ:Sub) (k:Nat):Option Nat:=if Nat.blt k σ.az then some k else (assoc k σ.bk).map (·.aH)
def qh (σ:Sub) (i:Nat) (ro:Bool) (b:Option Nat):List SB→Nat→Bool
 | [],_=>true
 | T :: r,j=>(i == j || T.gone || (ro && T.ro) || (match b,σ.aH j with | some x,some y=>!(x == y) | _,_=>true)) && qh σ i ro b r (j+1)
def wy (σ:Sub) (all:List SB):List SB→Nat→Bool
 | [],_=>true
 | T :: r,i=>(Nat.blt i σ.az || T.gone || qh σ i T.ro (σ.aH i) all 0) && wy σ all r (i+1)
theorem rY {σ:Sub} {i:Nat} {ro:Bool} {b:Option Nat}:∀{Ts:List SB} {j0:Nat},qh σ i ro b Ts j0=true→∀j T,Ts[j]?=some T →
  i≠j0+j→T.gone=false→(ro && T.ro)=false→∀x y,b=some x→σ.aH (j0+j)=some y→x≠y
 | [],_,_,j,T,hj=>by simp at hj
 | T0 :: r,j0,h,j,T,hj=>by
  simp only [qh,Bool.and_eq_true] at h
  cases j with
  | zero =>
   simp at hj
   subst hj
   intro hne hg hro x y hb hy
   rw [Nat.add_zero] at hne hy
   obtain ⟨h,-⟩:=h
   have hij:(i == j0)=false:=by simpa using hne
   rw [hij,hg,hro,hb,hy] at h
   simpa using h
  | succ j =>
   intro hne
   have:=rY h.2 j T (by simpa using hj)
   rw [show j0+1+j=j0+(j+1) by omega] at this
   exact this hne
theorem uA {σ:Sub} {all:List SB}:∀{Ts:List SB} {i0:Nat},wy σ all Ts i0=true→∀i T,Ts[i]?=some T→¬(i0+i<σ.az)→T.gone=false →
  qh σ (i0+i) T.ro (σ.aH (i0+i)) all 0=true
 | [],_,_,j,T,hj=>by simp at hj
 | T0 :: r,j0,h,j,T,hj=>by
  simp only [wy,Bool.and_eq_true] at h
  cases j with
  | zero =>
   simp at hj
   subst hj
   intro hl hg
   rw [Nat.add_zero] at hl ⊢
   have hb:Nat.blt j0 σ.az=false:=by rw [←Bool.not_eq_true,Nat.blt_eq];exact hl
   simpa [hb,hg] using h.1
  | succ j =>
   have:=uA h.2 j T (by simpa using hj)
   rw [show j0+1+j=j0+(j+1) by omega] at this
   exact this
def mV (σ:Sub) (Ts hp:List SB):Option (List BE):=if wy σ Ts Ts 0 then FY σ hp Ts 0 else none
section
variable {ρ:Env} {ν:Nat→Addr} {σ:Sub}
structure Ry (ρ:Env) (ν:Nat→Addr) (σ:Sub) (hp:List SB) (k:Nat) (T:SB) (a:SA) (A:SB):Prop where
 aH:σ.aH k=some a.aH
 hp:hp[a.aH]?=some A
 fA:σ.fA ρ ν k=(ν a.aH).add (a.off ρ)
 live:A.dead ρ=false
 t:T.t=A.t
 own:T.own=true→A.own=true
 ro:T.ro=false→A.ro=false∧a.off ρ=0
 Yb:T.ro=false→∀arr,A.has ρ ν arr→T.has (σ.env ρ ν) (σ.fA ρ ν) arr
 rd:∀arr,A.has ρ ν arr→∃lL,T.has (σ.env ρ ν) (σ.fA ρ ν) lL∧∀p v,lL[p]?=some v→arr[a.off ρ+p]?=some v
 mp:T.ro=true→A.ro=false→A.iW=false
 sg:T.ro=true→T.aV=[]→A.aV=[]
theorem JO {T A:SB} {a:SA} {os:List BE} (h:AQ σ T A a=some os) (ho:∀o∈os,o.den ρ=true) (hd:T.dead (σ.env ρ ν)=false) :
  A.dead ρ=false∧T.t=A.t∧(T.own=true→A.own=true)∧(T.ro=false→A.ro=false∧a.off ρ=0)∧(T.ro=false→∀arr,A.has ρ ν arr→T.has (σ.env ρ ν) (σ.fA ρ ν) arr) ∧
  (∀arr,A.has ρ ν arr→∃lL,T.has (σ.env ρ ν) (σ.fA ρ ν) lL∧∀p v,lL[p]?=some v→arr[a.off ρ+p]?=some v)∧(T.ro=true→A.ro=false→A.iW=false):=by
 unfold AQ at h
 split at h
 ·cases h
 rename_i hc
 simp only [Bool.or_eq_true,Bool.not_eq_true',not_or,Bool.not_eq_true,beq_eq_false_iff_ne,ne_eq,Decidable.not_not,Bool.not_eq_false,Bool.and_eq_true,not_and] at hc
 obtain ⟨⟨⟨⟨c1,c2⟩,c3⟩,c4⟩,c5⟩:=hc
 have hlive:A.dead ρ=false:=by
  have:=mU (ρ:=ρ) (ν:=ν) c4
  unfold SB.dead at hd ⊢
  rw [c1,←this]
  simp at hd
  simp [hd.2]
 refine ⟨hlive,c2,fun h=>?_,?_⟩
 ·cases hA:A.own with
  | true=>rfl
  | false=>have:=c3 h;simp [hA] at this
 split at h
 ·rename_i hro
  refine ⟨fun h=>(by rw [hro] at h;cases h),fun h=>(by rw [hro] at h;cases h),fun arr hA=>?_,fun h _=>?_⟩
  rotate_left
  ·have:=c5 h
   unfold SB.iW at this ⊢
   rw [←c2]
   simpa using this
  unfold UB at h
  split at h
  ·rename_i hc
   simp only [Bool.and_eq_true,List.isEmpty_iff,Bool.not_eq_true'] at hc
   obtain ⟨⟨⟨d1,d2⟩,d3⟩,d4⟩:=hc
   refine ⟨(arr.toList.drop (a.off ρ)).toArray,⟨fun u hu=>(by rw [d2] at hu;cases hu),fun hs=>(by rw [hs] at d4;cases d4),fun e n he=>(by rw [Ct d3] at he;cases he),fun p c hp=>(by rw [d1] at hp;simp at hp),fun gi g hg i1 i2 j h1 h2 h3=>?_⟩,fun p v hp=>?_⟩
   ·obtain ⟨os',h4,h5⟩:=AP h gi g hg
    rw [Nat.zero_add] at h4
    have:=JN h4 (fun o hm=>ho o (h5 o hm)) hA i1 i2 j h1 h2 h3
    rw [d2]
    simp only [bY,List.getElem?_toArray,List.getElem?_drop]
    simpa using this
   ·simpa [List.getElem?_drop] using hp
  ·split at h
   case isFalse=>cases h
   rename_i hc
   simp only [Bool.and_eq_true,List.isEmpty_iff,Bool.not_eq_true'] at hc
   obtain ⟨⟨⟨⟨d1,d2⟩,d3⟩,d4⟩,d5⟩:=hc
   split at h
   case h_2=>cases h
   rename_i o Xx
   have hoff:a.off ρ=o:=SA.aR Xx
   split at h
   case isFalse=>cases h
   rename_i hc2
   simp only [Bool.and_eq_true,Nat.ble_eq] at hc2
   have hsz:arr.size=A.cs.length:=hA.size d4 d5
   refine ⟨((arr.toList.drop o).take T.cs.length).toArray,⟨fun u hu=>(by rw [d2] at hu;cases hu),fun _ _=>(by simp;omega),fun e n he=>(by rw [Ct d3] at he;cases he),fun p c hp hh=>?_,fun gi g hg=>(by rw [d1] at hg;simp at hg)⟩,fun p v hp=>?_⟩
   ·obtain ⟨y,h1,h2,h3⟩:=xV hc2.2 p c hp hh
    rw [List.getElem?_drop] at h1
    have:=hA.ex (o+p) y h1 h2
    have hpl:p<T.cs.length:=(List.getElem?_eq_some_iff.1 hp).1
    rw [Co (ρ:=ρ) (ν:=ν) h3,List.getElem?_toArray,List.getElem?_take_of_lt hpl,List.getElem?_drop,Array.getElem?_toList]
    exact this
   ·rw [hoff]
    rw [List.getElem?_toArray] at hp
    have hpl:p<T.cs.length:=by
     have:=(List.getElem?_eq_some_iff.1 hp).1
     simp at this
     omega
    rw [List.getElem?_take_of_lt hpl,List.getElem?_drop,Array.getElem?_toList] at hp
    exact hp
 ·rename_i hro
  unfold WJ at h
  split at h
  ·rename_i hc
   simp only [Bool.and_eq_true,List.isEmpty_iff,Bool.not_eq_true',Bool.or_eq_true] at hc
   obtain ⟨⟨⟨⟨⟨d1,d2⟩,d3⟩,d4⟩,d5⟩,d6⟩:=hc
   have hoff:a.off ρ=0:=SA.zu d1
   have key:∀arr,A.has ρ ν arr→T.has (σ.env ρ ν) (σ.fA ρ ν) arr:=by
    intro arr hA
    refine ⟨fun u hu=>(by rw [d6] at hu;cases hu),fun hs hop=>?_,fun e n he=>?_,fun p c hp hh=>?_,fun gi g hg i1 i2 j h1 h2 h3=>?_⟩
    ·rcases d3 with (d3 | d3) | d3
     ·rw [hop] at d3;cases d3
     ·rw [hs] at d3;cases d3
     ·simp only [beq_iff_eq] at d3
      rw [d3.2]
      exact hA.size d3.1.1 d3.1.2
    ·unfold UA at d4
     rw [he] at d4
     split at d4
     ·rename_i heq;cases heq
     ·rename_i e1 n1 f m heq Yc
      cases heq
      simp only [Bool.and_eq_true,beq_iff_eq] at d4
      rw [om (ν:=ν) d4.1,d4.2]
      exact hA.cap f m Yc
     ·cases d4
    ·obtain ⟨y,h1,h2,h3⟩:=xV d5 p c hp hh
     rw [Co (ρ:=ρ) (ν:=ν) h3]
     exact hA.ex p y h1 h2
    ·obtain ⟨os',h4,h5⟩:=AP h gi g hg
     rw [Nat.zero_add] at h4
     have:=JN h4 (fun o hm=>ho o (h5 o hm)) hA i1 i2 j h1 h2 h3
     rw [d6]
     simp only [bY]
     rw [hoff,Nat.zero_add] at this
     exact this
   exact ⟨fun _=>⟨d2,hoff⟩,fun _=>key,fun arr hA=>⟨arr,key arr hA,fun p v hp=>by rw [hoff,Nat.zero_add];exact hp⟩,fun h=>(hro h).elim⟩
  ·cases h
theorem EL {T A:SB} {a:SA} {os:List BE} (h:AQ σ T A a=some os) (hr:T.ro=true) (hs:T.aV=[]):A.aV=[]:=by
 unfold AQ at h
 split at h
 ·cases h
 unfold UB at h
 split at h
 ·rename_i hc
  simp [hs] at hc
 ·split at h
  ·rename_i hc
   simp only [Bool.and_eq_true,List.isEmpty_iff,Bool.not_eq_true'] at hc
   exact hc.1.2
  ·cases h
theorem SS {hp:List SB} {k:Nat} {T:SB} {os:List BE} (h:GY σ hp k T=some os) (ho:∀o∈os,o.den ρ=true) (hd:T.dead (σ.env ρ ν)=false):∃a A,Ry ρ ν σ hp k T a A:=by
 have hg:=SB.dI hd
 unfold GY at h
 rw [hg] at h
 simp only [Bool.false_eq_true,if_false] at h
 split at h
 ·rename_i hk
  have hk':k<σ.az:=by simpa using hk
  have uB:σ.fA ρ ν k=(ν k).add (({aH:=k}:SA).off ρ):=by simp [Sub.fA,hk',SA.off,IE.den,Addr.add_zero]
  have hblk:σ.aH k=some k:=by simp [Sub.aH,hk]
  split at h
  ·rename_i A hA
   split at h
   ·rename_i hc
    simp only [Bool.and_eq_true] at hc
    obtain ⟨e1,e2,e3,e4,e5,e6⟩:=SB.Ch (ρ:=ρ) (ν:=ν) hc.1 hg
    have hd':T.dead ρ=false:=by rwa [SB.kJ (σ.iq ρ ν) hc.2] at hd
    have hh:∀arr,A.has ρ ν arr→T.has (σ.env ρ ν) (σ.fA ρ ν) arr:=fun arr ha=>SB.xO (σ.iq ρ ν) hc.2 hg (e6 arr ha)
    have h0:({aH:=k}:SA).off ρ=0:=by simp [SA.off,IE.den]
    exact ⟨{aH:=k},A,⟨hblk,hA,uB,SB.uQ hc.1 hd',e5,e4,fun hr=>⟨e3 ▸ hr,h0⟩,fun _=>hh,fun arr ha=>⟨arr,hh arr ha,fun p v hp=>by rw [h0,Nat.zero_add];exact hp⟩,fun hr hr'=>(by rw [e3,hr'] at hr;cases hr),fun _=>SB.JG hc.1 hg⟩⟩
   ·obtain ⟨h1,h2,h3,h4,h5,h6,h7⟩:=JO (ν:=ν) h ho hd
    exact ⟨{aH:=k},A,⟨hblk,hA,uB,h1,h2,h3,h4,h5,h6,h7,EL h⟩⟩
  ·cases h
 ·rename_i hk
  have hk':¬k<σ.az:=by simpa using hk
  split at h
  ·rename_i a ha
   split at h
   ·rename_i A hA
    obtain ⟨h1,h2,h3,h4,h5,h6,h7⟩:=JO (ν:=ν) h ho hd
    exact ⟨a,A,⟨by simp [Sub.aH,hk,ha],hA,by simp [Sub.fA,hk',ha,SA.den],h1,h2,h3,h4,h5,h6,h7,EL h⟩⟩
   ·cases h
  ·split at h
   ·rename_i hc
    simp only [Bool.and_eq_true] at hc
    have:=mU (ρ:=ρ) (ν:=ν) hc.2
    simp only [SB.dead,hg,Bool.false_or] at hd
    rw [hd] at this
    cases this
   ·cases h
theorem block_add (a:Addr) (n:Nat):(a.add n).block=a.block:=by
 unfold Addr.add
 split <;> rfl
theorem nC {Ts hp:List SB} {os:List BE} (h:mV σ Ts hp=some os) (ho:∀o∈os,o.den ρ=true) {k:Nat} {T:SB} (hk:Ts[k]?=some T) (hd:T.dead (σ.env ρ ν)=false) :
  ∃a A,Ry ρ ν σ hp k T a A:=by
 unfold mV at h
 split at h
 ·obtain ⟨os',h1,h2⟩:=AU h k T hk
  rw [Nat.zero_add] at h1
  exact SS h1 (fun o hm=>ho o (h2 o hm)) hd
 ·cases h
theorem K3 {Ts hp:List SB} {os:List BE} (h:mV σ Ts hp=some os) {i j:Nat} {T U:SB} (hi:Ts[i]?=some T) (hj:Ts[j]?=some U) (hne:i≠j) (hg:T.gone=false) (hg':U.gone=false)
  (hr:T.ro=false∨U.ro=false) {x y:Nat} (hx:σ.aH i=some x) (hy:σ.aH j=some y):x≠y:=by
 unfold mV at h
 split at h
 ·rename_i hap
  by_cases h1:i<σ.az
  ·by_cases h2:j<σ.az
   ·simp [Sub.aH,h1] at hx
    simp [Sub.aH,h2] at hy
    omega
   ·have:=uA hap j U hj (by omega) hg'
    rw [Nat.zero_add] at this
    have:=rY this i T hi (by omega) hg (by rcases hr with hr | hr <;> simp [hr]) y x hy (by rw [Nat.zero_add];exact hx)
    exact fun e=>this e.symm
  ·have:=uA hap i T hi (by omega) hg
   rw [Nat.zero_add] at this
   exact rY this j U hj (by omega) hg' (by rcases hr with hr | hr <;> simp [hr]) x y hx (by rw [Nat.zero_add];exact hy)
 ·cases h
theorem DN {Ts hp:List SB} {os:List BE} (h:mV σ Ts hp=some os) (ho:∀o∈os,o.den ρ=true) {w:World} (hh:aL ρ ν hp w):aL (σ.env ρ ν) (σ.fA ρ ν) Ts w:=by
 refine ⟨fun i j T U hi hj hT hU hr he=>?_,fun k T hk hT hr=>?_,fun k T hk hT hr=>?_⟩
 ·obtain ⟨a,A,hA⟩:=nC h ho hi hT
  obtain ⟨b,B,hB⟩:=nC h ho hj hU
  by_cases hne:i=j
  ·exact hne
  ·exfalso
   have hxy:=K3 h hi hj hne (SB.dI hT) (SB.dI hU) (.inl hr) hA.aH hB.aH
   rw [hA.fA,hB.fA,block_add,block_add] at he
   exact hxy (hh.inj _ _ A B hA.hp hB.hp hA.live hB.live (hA.ro hr).1 he)
 ·obtain ⟨a,A,hA⟩:=nC h ho hk hT
  obtain ⟨h1,h2⟩:=hA.ro hr
  obtain ⟨h0,arr,h3,h4⟩:=hh.aH _ A hA.hp hA.live h1
  rw [hA.fA,h2,Addr.add_zero]
  exact ⟨h0,arr,by rw [hA.t];exact h3,hA.Yb hr arr h4⟩
 ·obtain ⟨a,A,hA⟩:=nC h ho hk hT
  obtain ⟨arr,h1,h2⟩:=hh.cells hA.hp hA.live (hA.mp hr)
  obtain ⟨lL,h3,h4⟩:=hA.rd arr h1
  rw [hA.fA]
  refine ⟨by rw [block_add];exact (hh.Xu hA.hp hA.live (hA.mp hr)).of (hA.sg hr) hA.t (Nat.le_refl _) rfl,lL,h3,fun p v hp=>?_⟩
  rw [Addr.add_add]
  exact h2 _ _ (h4 p v hp)
end
end Go.Rex
set_option linter.unusedSimpArgs false
set_option linter.unusedVariables false
namespace Go.Rex
def Sub.o6 (σ:Sub) (t e:IE):Sub :=
 match t with
 | .var i=>if Nat.blt i σ.lo then σ else match assoc i σ.iv with | some _=>σ | none=>{σ with iv:=(i,e) :: σ.iv}
 | _=>σ
def Sub.wz (σ:Sub) (t e:BE):Sub :=
 match t with
 | .var i=>if Nat.blt i σ.lo then σ else match assoc i σ.bv with | some _=>σ | none=>{σ with bv:=(i,e) :: σ.bv}
 | _=>σ
def Sub.GZ (σ:Sub) (t:Nat) (a:SA):Sub :=
 if Nat.blt t σ.az then σ else match assoc t σ.bk with | some _=>σ | none=>{σ with bk:=(t,a) :: σ.bk}
def Sub.K4 (σ:Sub) (t a:SA):Sub :=
 match t.i1 with
 | .var o=>(σ.GZ t.aH {a with i1:=.lit 0}).o6 (.var o) a.i1
 | _=>σ.GZ t.aH a
def UC (σ:Sub):List Nat→List Nat→Sub
 | a :: r,b :: s=>UC (σ.GZ a {aH:=b}) r s
 | _,_=>σ
def Nb (σ:Sub):SC→SC→Sub
 | .int _ e,.int _ f=>σ.o6 e f
 | .bool e,.bool f=>σ.wz e f
 | .val i,c=>if Nat.blt i σ.lo then σ else match assoc i σ.vv with | some _=>σ | none=>{σ with vv:=(i,c) :: σ.vv}
 | .ptr a,.ptr b=>σ.K4 a b
 | .sl a l c,.sl b m d=>((σ.K4 a b).o6 l m).o6 c d
 | .eX k a l c,.sl b m d=>(((σ.wz k (.lit false)).K4 a b).o6 l m).o6 c d
 | .eX k a l c,.eX k' b m d=>(((σ.wz k k').K4 a b).o6 l m).o6 c d
 | .eX k a l c,.bN=>let JP:=((σ.wz k (.lit true)).o6 l (.lit 0)).o6 c (.lit 0);{JP with nb:=a.aH :: JP.nb}
 | .fn _ a,.fn _ b=>UC σ a b
 | .iface _ c,.iface _ d=>Nb σ c d
 | .iQ k c,.iQ k' d=>Nb (σ.wz k k') c d
 | .iQ k c,.df=>let JP:=σ.wz k (.lit true);match c with | .iface _ (.ptr a)=>{JP with nb:=a.aH :: JP.nb} | _=>JP
 | .iQ k (.iface _ c),.iface _ d=>Nb (σ.wz k (.lit false)) c d
 | .mp a,.mp b=>σ.GZ a {aH:=b}
 | _,_=>σ
def PT (σ:Sub):List SC→List SC→Sub
 | a :: r,b :: s=>PT (Nb σ a b) r s
 | _,_=>σ
def UD (σ:Sub):SW→SW→Sub
 | .one a,.one b=>Nb σ a b
 | .agg a,.agg b=>PT σ a b
 | _,_=>σ
def K5 (σ:Sub):List SW→List SW→Sub
 | a :: r,b :: s=>K5 (UD σ a b) r s
 | _,_=>σ
def UE (σ:Sub):SV→SV→Sub
 | .w a,.w b=>UD σ a b
 | .iU a,.iU b=>K5 σ a b
 | .gd c a,.gd d b=>UD (σ.wz c d) a b
 | _,_=>σ
def Sub.UF (σ:Sub) (r:Nat) (c:CV):Sub :=
 if Nat.blt r σ.lo then σ else match assoc r σ.ct with | some _=>σ | none=>{σ with ct:=(r,c) :: σ.ct}
def K6 (σ:Sub) (A:SB) (a:SA):List aa→Nat→Sub
 | [],_=>σ
 | g :: r,gi =>
  match A.aV[gi]? with
  | some h=>K6 ((σ.o6 g.n1 h.n1).UF g.r (.up h gi A.ups ((a.shift g.s1).getD (.lit 0)))) A a r (gi+1)
  | none=>let cs:=A.cs.drop (a.dw.getD 0);K6 ((σ.o6 g.n1 (.lit (cs.length / g.s1:Nat))).UF g.r (.ex cs g.s1 g.s2 g.lo)) A a r (gi+1)
def WK (σ:Sub) (T A:SB) (a:SA):Sub :=
 let σ:=PT (σ.wz T.nl A.nl) T.cs A.cs
 let σ:=match T.cap,A.cap with | some (e,_),some (f,_)=>σ.o6 e f | _,_=>σ
 K6 σ A a T.aV 0
def JQ (σ:Sub) (hp:List SB):List SB→Nat→Sub
 | [],_=>σ
 | T :: r,k =>
  if T.gone then JQ σ hp r (k+1)
  else if Nat.blt k σ.az then
   match hp[k]? with
   | some A=>JQ (if T.wk A && T.sc σ.lo σ.az then σ else WK σ T A {aH:=k}) hp r (k+1)
   | none=>σ
  else match assoc k σ.bk with
   | some a=>match hp[a.aH]? with | some A=>JQ (WK σ T A a) hp r (k+1) | none=>σ
   | none=>JQ σ hp r (k+1)
def DR (σ:Sub) (hp Ts:List SB):Sub:=JQ (JQ σ hp Ts 0) hp Ts 0
structure eu where
 f:FuncId
 nv:Nat
 gl:List (Nat × Nat):=[]
 args:List SW
 hp:List SB
 jP:Nat
 ret:SV
 hp':List SB
 deriving Inhabited
structure Tr where
 σ:Sub
 m:Nat
 d:Nat
 n:Nat
 n0:Nat
def gW {α β γ:Type} (f:α→β→γ):Option α→Option β→Option γ
 | some a,some b=>some (f a b)
 | _,_=>none
theorem fH {α β γ:Type} {f:α→β→γ} {x:Option α} {y:Option β} {z:γ} (h:gW f x y=some z):∃a b,x=some a∧y=some b∧z=f a b:=by
 cases x <;> cases y <;> simp [gW] at h
 exact ⟨_,_,rfl,rfl,h.symm⟩
def IE.tr (t:Tr):IE→Option IE
 | .lit n=>some (.lit n)
 | .var i=>if Nat.blt i t.m then assoc i t.σ.iv else some (.var (i-t.m+t.d))
 | .add a b=>gW .add (a.tr t) (b.tr t)
 | .sub a b=>gW .sub (a.tr t) (b.tr t)
 | .mul a b=>gW .mul (a.tr t) (b.tr t)
 | .div a b=>gW .div (a.tr t) (b.tr t)
 | .mod a b=>gW .mod (a.tr t) (b.tr t)
 | .wrap k a=>(a.tr t).map (.wrap k)
 | .oQ a b=>gW .oQ (a.tr t) (b.tr t)
 | .imax a b=>gW .imax (a.tr t) (b.tr t)
 | .cell r a b j=>if Nat.blt r t.m then none else gW (fun a b=>.cell (r-t.m+t.d) a b j) (a.tr t) (b.tr t)
def BE.tr (t:Tr):BE→Option BE
 | .lit n=>some (.lit n)
 | .var i=>if Nat.blt i t.m then assoc i t.σ.bv else some (.var (i-t.m+t.d))
 | .not a=>(a.tr t).map .not
 | .and a b=>gW .and (a.tr t) (b.tr t)
 | .or a b=>gW .or (a.tr t) (b.tr t)
 | .ite c a b=>match c.tr t,a.tr t,b.tr t with | some c,some a,some b=>some (.ite c a b) | _,_,_=>none
 | .aC a b=>gW .aC (IE.tr t a) (IE.tr t b)
 | .aA a b=>gW .aA (IE.tr t a) (IE.tr t b)
 | .bQ a b=>gW .bQ (IE.tr t a) (IE.tr t b)
 | .beq a b=>gW .beq (a.tr t) (b.tr t)
 | .inr k a=>(IE.tr t a).map (.inr k)
 | .cell r a b j=>if Nat.blt r t.m then none else gW (fun a b=>.cell (r-t.m+t.d) a b j) (IE.tr t a) (IE.tr t b)
def G5 (t:Tr) (k:Nat):Option Nat :=
 if Nat.blt k t.n then match assoc k t.σ.bk with | some a=>if a.base then some a.aH else none | none=>none
 else some (k-t.n+t.n0)
def SA.tr (t:Tr) (a:SA):Option SA :=
 match G5 t a.aH,a.i1.tr t,a.i2.tr t with
 | some b,some i1,some i2=>some {a with aH:=b,i1:=i1,i2:=i2}
 | _,_,_=>none
def FZ (t:Tr):List Nat→Option (List Nat)
 | []=>some []
 | k :: r=>gW List.cons (G5 t k) (FZ t r)
def SC.tr (t:Tr):SC→Option SC
 | .int k e=>(e.tr t).map (.int k)
 | .bool b=>(b.tr t).map .bool
 | .str l=>some (.str l)
 | .val i=>if Nat.blt i t.m then (match assoc i t.σ.vv with | some c=>if c.isHole then none else some c | none=>none) else some (.val (i-t.m+t.d))
 | .jC r a b j=>if Nat.blt r t.m then none else gW (fun a b=>.jC (r-t.m+t.d) a b j) (a.tr t) (b.tr t)
 | .ptr a=>(a.tr t).map .ptr
 | .bG=>some .bG
 | .sl a l c=>match a.tr t,l.tr t,c.tr t with | some a,some l,some c=>some (.sl a l c) | _,_,_=>none
 | .bN=>some .bN
 | .eX k a l c=>match k.tr t,a.tr t,l.tr t,c.tr t with | some k,some a,some l,some c=>some (.eX k a l c) | _,_,_,_=>none
 | .fn f jF=>(FZ t jF).map (.fn f)
 | .aK=>some .aK
 | .iface u c=>(c.tr t).map (.iface u)
 | .iQ k c=>match k.tr t,c.tr t with | some k,some c=>some (.iQ k c) | _,_=>none
 | .mp b=>(G5 t b).map .mp
 | .pU=>some .pU
 | .rt t b o=>some (.rt t b o)
 | .df=>some .df
 | .hole=>some .hole
def wB (t:Tr):List SC→Option (List SC)
 | []=>some []
 | c :: r=>gW List.cons (c.tr t) (wB t r)
def SW.tr (t:Tr):SW→Option SW
 | .one c=>(c.tr t).map .one
 | .agg cs=>(wB t cs).map .agg
def F3 (t:Tr):List SW→Option (List SW)
 | []=>some []
 | c :: r=>gW List.cons (c.tr t) (F3 t r)
def SV.tr (t:Tr):SV→Option SV
 | .w x=>(x.tr t).map .w
 | .iU xs=>(F3 t xs).map .iU
 | .gd c x=>gW .gd (c.tr t) (x.tr t)
def xW (t:Tr):List aa→Option (List aa)
 | []=>some []
 | g :: r=>if Nat.blt g.r t.m then none else gW (fun n s=>{g with r:=g.r-t.m+t.d,n1:=n} :: s) (g.n1.tr t) (xW t r)
def SB.tr (t:Tr) (b:SB):Option SB :=
 if b.gone then some dA
 else if b.ups.isEmpty then
  match wB t b.cs,xW t b.aV,b.nl.tr t with
  | some cs,some aV,some nl =>
   match b.cap with
   | none=>some {b with cs:=cs,aV:=aV,nl:=nl}
   | some (e,n)=>match e.tr t with | some e=>some {b with cs:=cs,aV:=aV,nl:=nl,cap:=some (e,n)} | none=>none
  | _,_,_=>none
 else none
structure WL (t:Tr) (dC ρ':Env) (fI aN:Nat→Addr):Prop where
 i:∀i e,i<t.m→assoc i t.σ.iv=some e→e.den ρ'=dC.iv i
 b:∀i e,i<t.m→assoc i t.σ.bv=some e→e.den ρ'=dC.bv i
 v:∀i e,i<t.m→assoc i t.σ.vv=some e→e.den ρ' aN=dC.vv i
 iv:∀i,t.m≤i→ρ'.iv (i-t.m+t.d)=dC.iv i
 bv:∀i,t.m≤i→ρ'.bv (i-t.m+t.d)=dC.bv i
 vv:∀i,t.m≤i→ρ'.vv (i-t.m+t.d)=dC.vv i
 ic:∀i,t.m≤i→ρ'.ic (i-t.m+t.d)=dC.ic i
 bc:∀i,t.m≤i→ρ'.bc (i-t.m+t.d)=dC.bc i
 vc:∀i,t.m≤i→ρ'.vc (i-t.m+t.d)=dC.vc i
 bo:∀k a,k<t.n→assoc k t.σ.bk=some a→a.base=true→aN a.aH=fI k
 bn:∀k,t.n≤k→aN (k-t.n+t.n0)=fI k
section
variable {t:Tr} {dC ρ':Env} {fI aN:Nat→Addr} (H:WL t dC ρ' fI aN)
include H
theorem IE.cB:∀{e e':IE},e.tr t=some e'→e'.den ρ'=e.den dC:=by
 intro e
 induction e with
 | lit n=>intro e' h;simp [IE.tr] at h;subst h;rfl
 | var i =>
  intro e' h
  simp only [IE.tr] at h
  split at h
  ·rename_i hi;exact H.i i e' (by simpa using hi) h
  ·rename_i hi
   simp at h
   subst h
   exact H.iv i (by simpa using hi)
 | add a b iha ihb | sub a b iha ihb | mul a b iha ihb | div a b iha ihb | mod a b iha ihb | oQ a b iha ihb | imax a b iha ihb =>
  intro e' h
  obtain ⟨x,y,h1,h2,rfl⟩:=fH h
  simp only [IE.den,iha h1,ihb h2]
 | wrap k a ih =>
  intro e' h
  simp only [IE.tr,Option.map_eq_some_iff] at h
  obtain ⟨x,h1,rfl⟩:=h
  simp only [IE.den,ih h1]
 | cell r a b j iha ihb =>
  intro e' h
  simp only [IE.tr] at h
  split at h
  ·cases h
  ·rename_i hr
   obtain ⟨x,y,h1,h2,rfl⟩:=fH h
   simp only [IE.den,iha h1,ihb h2,H.ic r (by simpa using hr)]
theorem BE.cB:∀{e e':BE},e.tr t=some e'→e'.den ρ'=e.den dC:=by
 intro e
 induction e with
 | lit n=>intro e' h;simp [BE.tr] at h;subst h;rfl
 | var i =>
  intro e' h
  simp only [BE.tr] at h
  split at h
  ·rename_i hi;exact H.b i e' (by simpa using hi) h
  ·rename_i hi
   simp at h
   subst h
   exact H.bv i (by simpa using hi)
 | and a b iha ihb | or a b iha ihb | beq a b iha ihb =>
  intro e' h
  obtain ⟨x,y,h1,h2,rfl⟩:=fH h
  simp only [BE.den,iha h1,ihb h2]
 | aC a b | aA a b | bQ a b =>
  intro e' h
  obtain ⟨x,y,h1,h2,rfl⟩:=fH h
  simp only [BE.den,IE.cB H h1,IE.cB H h2]
 | not a ih =>
  intro e' h
  simp only [BE.tr,Option.map_eq_some_iff] at h
  obtain ⟨x,h1,rfl⟩:=h
  simp only [BE.den,ih h1]
 | inr k a =>
  intro e' h
  simp only [BE.tr,Option.map_eq_some_iff] at h
  obtain ⟨x,h1,rfl⟩:=h
  simp only [BE.den,IE.cB H h1]
 | ite c a b Uz iha ihb =>
  intro e' h
  simp only [BE.tr] at h
  split at h
  ·rename_i x y z h1 h2 h3
   simp at h
   subst h
   simp only [BE.den,Uz h1,iha h2,ihb h3]
  ·cases h
 | cell r a b j =>
  intro e' h
  simp only [BE.tr] at h
  split at h
  ·cases h
  ·rename_i hr
   obtain ⟨x,y,h1,h2,rfl⟩:=fH h
   simp only [BE.den,IE.cB H h1,IE.cB H h2,H.bc r (by simpa using hr)]
theorem DT {k b:Nat} (h:G5 t k=some b):aN b=fI k:=by
 unfold G5 at h
 split at h
 ·rename_i hk
  split at h
  ·rename_i a ha
   split at h
   ·rename_i hb
    simp at h
    subst h
    exact H.bo k a (by simpa using hk) ha hb
   ·cases h
  ·cases h
 ·rename_i hk
  simp at h
  subst h
  exact H.bn k (by simpa using hk)
theorem SA.cB {a a':SA} (h:a.tr t=some a'):a'.den ρ' aN=a.den dC fI:=by
 unfold SA.tr at h
 split at h
 ·rename_i b i1 i2 h1 h2 h3
  simp at h
  subst h
  simp only [SA.den,SA.off,DT H h1,IE.cB H h2,IE.cB H h3]
 ·cases h
theorem G6:∀{l l':List Nat},FZ t l=some l'→l'.map aN=l.map fI
 | [],l',h=>by simp [FZ] at h;subst h;rfl
 | k :: r,l',h=>by
  obtain ⟨x,y,h1,h2,rfl⟩:=fH h
  simp only [List.map_cons,DT H h1,G6 h2]
theorem SC.cB:∀{c c':SC},c.tr t=some c'→c'.den ρ' aN=c.den dC fI∧(c.isHole=false→c'.isHole=false)∧(c.isHole=true→c'.isHole=true):=by
 intro c
 induction c with
 | int k e =>
  intro c' h
  simp only [SC.tr,Option.map_eq_some_iff] at h
  obtain ⟨x,h1,rfl⟩:=h
  exact ⟨by simp only [SC.den,IE.cB H h1],fun _=>rfl,fun h=>by cases h⟩
 | bool e =>
  intro c' h
  simp only [SC.tr,Option.map_eq_some_iff] at h
  obtain ⟨x,h1,rfl⟩:=h
  exact ⟨by simp only [SC.den,BE.cB H h1],fun _=>rfl,fun h=>by cases h⟩
 | val i =>
  intro c' h
  simp only [SC.tr] at h
  split at h
  ·rename_i hi
   split at h
   ·rename_i c hc
    split at h
    ·cases h
    ·rename_i hh
     simp at h
     subst h
     have:=H.v i c (by simpa using hi) hc
     refine ⟨?_,fun _=>by simpa using hh,fun h=>by cases h⟩
     simp only [SC.den,←this]
     exact (zf (SC.rz c (by simpa using hh))).symm
   ·cases h
  ·rename_i hi
   simp at h
   subst h
   exact ⟨by simp only [SC.den,H.vv i (by simpa using hi)],fun _=>rfl,fun h=>by cases h⟩
 | jC r a b j =>
  intro c' h
  simp only [SC.tr] at h
  split at h
  ·cases h
  ·rename_i hr
   obtain ⟨x,y,h1,h2,rfl⟩:=fH h
   exact ⟨by simp only [SC.den,IE.cB H h1,IE.cB H h2,H.vc r (by simpa using hr)],fun _=>rfl,fun h=>by cases h⟩
 | ptr a =>
  intro c' h
  simp only [SC.tr,Option.map_eq_some_iff] at h
  obtain ⟨x,h1,rfl⟩:=h
  exact ⟨by simp only [SC.den,SA.cB H h1],fun _=>rfl,fun h=>by cases h⟩
 | sl a l c =>
  intro c' h
  simp only [SC.tr] at h
  split at h
  ·rename_i x y z h1 h2 h3
   simp at h
   subst h
   exact ⟨by simp only [SC.den,SA.cB H h1,IE.cB H h2,IE.cB H h3],fun _=>rfl,fun h=>by cases h⟩
  ·cases h
 | eX k a l c =>
  intro c' h
  simp only [SC.tr] at h
  split at h
  ·rename_i k x y z h0 h1 h2 h3
   simp at h
   subst h
   exact ⟨by simp only [SC.den,BE.cB H h0,SA.cB H h1,IE.cB H h2,IE.cB H h3],fun _=>rfl,fun h=>by cases h⟩
  ·cases h
 | fn f jF =>
  intro c' h
  simp only [SC.tr,Option.map_eq_some_iff] at h
  obtain ⟨x,h1,rfl⟩:=h
  have:=G6 H h1
  refine ⟨?_,fun _=>rfl,fun h=>by cases h⟩
  simp only [SC.den]
  have e:∀(μ:Nat→Addr) (l:List Nat),(l.map fun b=>Value.pointer (some (μ b)))=(l.map μ).map fun a=>Value.pointer (some a):=fun μ l=>by simp
  rw [e,e,this]
 | iface u c ih =>
  intro c' h
  simp only [SC.tr,Option.map_eq_some_iff] at h
  obtain ⟨x,h1,rfl⟩:=h
  exact ⟨by simp only [SC.den,(ih h1).1],fun _=>rfl,fun h=>by cases h⟩
 | iQ k c ih =>
  intro c' h
  simp only [SC.tr] at h
  split at h
  ·rename_i k' x h0 h1
   simp at h
   subst h
   obtain ⟨i1,i2,i3⟩:=ih h1
   exact ⟨by simp only [SC.den,BE.cB H h0,i1],i2,i3⟩
  ·cases h
 | mp b =>
  intro c' h
  simp only [SC.tr,Option.map_eq_some_iff] at h
  obtain ⟨x,h1,rfl⟩:=h
  exact ⟨by simp only [SC.den,DT H h1],fun _=>rfl,fun h=>by cases h⟩
 | _ =>
  intro c' h
  simp only [SC.tr,Option.some.injEq] at h
  subst h
  exact ⟨rfl,fun h=>h,fun h=>h⟩
theorem G7:∀{l l':List SC},wB t l=some l'→l'.length=l.length∧∀(p:Nat) (c':SC),l'[p]?=some c'→∃c,l[p]?=some c∧c.tr t=some c'
 | [],l',h=>by have _:=H;simp [wB] at h;subst h;exact ⟨rfl,fun p c h=>by simp at h⟩
 | c :: r,l',h=>by
  obtain ⟨x,y,h1,h2,rfl⟩:=fH h
  obtain ⟨h3,h4⟩:=G7 h2
  refine ⟨by simp [h3],fun p c' hp=>?_⟩
  cases p with
  | zero=>simp at hp;subst hp;exact ⟨c,rfl,h1⟩
  | succ p=>simpa using h4 p c' (by simpa using hp)
theorem EM:∀{l l':List SC},wB t l=some l'→l'.map (·.den ρ' aN)=l.map (·.den dC fI)
 | [],l',h=>by simp [wB] at h;subst h;rfl
 | c :: r,l',h=>by
  obtain ⟨x,y,h1,h2,rfl⟩:=fH h
  simp only [List.map_cons,(SC.cB H h1).1,EM h2]
theorem SW.cB {x x':SW} (h:x.tr t=some x'):x'.den ρ' aN=x.den dC fI:=by
 cases x <;> simp only [SW.tr,Option.map_eq_some_iff] at h <;> obtain ⟨y,h1,rfl⟩:=h
 ·exact (SC.cB H h1).1
 ·simp only [SW.den,EM H h1]
theorem EN:∀{l l':List SW},F3 t l=some l'→l'.map (·.den ρ' aN)=l.map (·.den dC fI)
 | [],l',h=>by simp [F3] at h;subst h;rfl
 | c :: r,l',h=>by
  obtain ⟨x,y,h1,h2,rfl⟩:=fH h
  simp only [List.map_cons,SW.cB H h1,EN h2]
theorem SV.cB {x x':SV} (h:x.tr t=some x'):x'.den ρ' aN=x.den dC fI:=by
 cases x <;> simp only [SV.tr] at h
 ·simp only [Option.map_eq_some_iff] at h
  obtain ⟨y,h1,rfl⟩:=h
  exact SW.cB H h1
 ·simp only [Option.map_eq_some_iff] at h
  obtain ⟨y,h1,rfl⟩:=h
  simp only [SV.den,EN H h1]
 ·obtain ⟨y,z,h1,h2,rfl⟩:=fH h
  simp only [SV.den,BE.cB H h1,SW.cB H h2]
theorem EO:∀{l l':List aa},xW t l=some l'→(l=[]↔l'=[])∧∀(p:Nat) (g':aa),l'[p]?=some g'→∃g n,l[p]?=some g∧t.m≤g.r∧g.n1.tr t=some n∧g'={g with r:=g.r-t.m+t.d,n1:=n}
 | [],l',h=>by have _:=H;simp [xW] at h;subst h;exact ⟨Iff.rfl,fun p c h=>by simp at h⟩
 | g :: r,l',h=>by
  simp only [xW] at h
  split at h
  ·cases h
  rename_i hr
  obtain ⟨x,y,h1,h2,rfl⟩:=fH h
  obtain ⟨-,h4⟩:=EO h2
  refine ⟨by simp,fun p c' hp=>?_⟩
  cases p with
  | zero=>simp at hp;subst hp;exact ⟨g,x,rfl,by simpa using hr,h1,rfl⟩
  | succ p=>simpa using h4 p c' (by simpa using hp)
theorem SB.Rz {b b':SB} (h:b.tr t=some b') (hg:b'.gone=false):b.gone=false∧b'.t=b.t∧b'.ro=b.ro∧b'.own=b.own∧b'.nl.den ρ'=b.nl.den dC∧∀arr,b.has dC fI arr→b'.has ρ' aN arr:=by
 unfold SB.tr at h
 split at h
 ·simp at h;subst h;cases hg
 rename_i hbg
 split at h
 case isFalse=>cases h
 rename_i hu
 have hu':b.ups=[]:=by simpa using hu
 split at h
 case h_2=>cases h
 rename_i cs aV nl h1 h2 h3
 obtain ⟨c1,c2⟩:=G7 H h1
 obtain ⟨s1,s2⟩:=EO H h2
 have key:∀b2:SB,b2.cs=cs→b2.aV=aV→b2.ups=b.ups→b2.opn=b.opn→(∀e n,b2.cap=some (e,n)→∃e0,b.cap=some (e0,n)∧e0.tr t=some e)→∀arr,b.has dC fI arr→b2.has ρ' aN arr:=by
  intro b2 e1 e2 e3 e4 e5 arr hb
  refine ⟨fun u hu=>(by rw [e3,hu'] at hu;cases hu),fun hs ho=>?_,fun e n he=>?_,fun p c hp hh=>?_,fun gi g hgi i1 i2 j a1 a2 a3=>?_⟩
  ·rw [e1,c1]
   exact hb.size (s1.2 (e2 ▸ hs)) (e4 ▸ ho)
  ·obtain ⟨e0,h5,h6⟩:=e5 e n he
   rw [IE.cB H h6]
   exact hb.cap e0 n h5
  ·obtain ⟨c0,h5,h6⟩:=c2 p c (e1 ▸ hp)
   obtain ⟨h7,-,h9⟩:=SC.cB H h6
   rw [h7]
   refine hb.ex p c0 h5 ?_
   cases hc:c0.isHole with
   | false=>rfl
   | true=>rw [h9 hc] at hh;cases hh
  ·obtain ⟨g0,n,h5,h6,h7,rfl⟩:=s2 gi g (e2 ▸ hgi)
   simp only [IE.cB H h7] at a1
   have:=hb.sg gi g0 h5 i1 i2 j a1 a2 a3
   rw [hu'] at this
   rw [e3,hu']
   simp only [bY] at this ⊢
   rw [this]
   simp only [aa.base,H.ic _ h6,H.bc _ h6,H.vc _ h6]
 split at h
 ·rename_i hcap
  simp at h
  subst h
  exact ⟨by simpa using hbg,rfl,rfl,rfl,BE.cB H h3,key _ rfl rfl rfl rfl (fun e n he=>by rw [hcap] at he;cases he)⟩
 ·rename_i e n hcap
  split at h
  ·rename_i e' he'
   simp at h
   subst h
   refine ⟨by simpa using hbg,rfl,rfl,rfl,BE.cB H h3,key _ rfl rfl rfl rfl (fun e1 n1 he=>?_)⟩
   simp at he
   exact ⟨e,by rw [hcap,he.2],by rw [←he.1];exact he'⟩
  ·cases h
end
end Go.Rex
