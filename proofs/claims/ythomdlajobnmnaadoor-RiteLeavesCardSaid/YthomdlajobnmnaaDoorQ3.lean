/- part 3 of the proof -/
import Derived.Test.YthomdlajobnmnaaDoorQ2
set_option linter.unusedSimpArgs false
set_option linter.unusedVariables false
namespace Go.Rex
inductive CV where
 | up (g:aa) (gi:Nat) (us:List Up) (sh:IE)
 | ex (cs:List SC) (s1 s2 lo:Nat)
 deriving Inhabited
def SC.I (ρ:Env):SC→Int
 | .int _ e=>e.den ρ
 | _=>0
def SC.B (ρ:Env):SC→Bool
 | .bool b=>b.den ρ
 | _=>false
def ah (ρ:Env):List Up→Nat→Nat→Nat→Nat→Int→Int
 | [],_,_,_,_,b=>b
 | u :: r,g,i1,i2,j,b =>
  if u.g=g∧(u.i1.den ρ).toNat=i1∧(u.i2.den ρ).toNat=i2∧u.j=j then u.c.I ρ else ah ρ r g i1 i2 j b
def ai (ρ:Env):List Up→Nat→Nat→Nat→Nat→Bool→Bool
 | [],_,_,_,_,b=>b
 | u :: r,g,i1,i2,j,b =>
  if u.g=g∧(u.i1.den ρ).toNat=i1∧(u.i2.den ρ).toNat=i2∧u.j=j then u.c.B ρ else ai ρ r g i1 i2 j b
def aa.I (ρ:Env) (g:aa) (i1 i2 j:Nat):Int:=if g.z then 0 else ρ.ic g.r i1 i2 j
def aa.B (ρ:Env) (g:aa) (i1 i2 j:Nat):Bool:=if g.z then false else ρ.bc g.r i1 i2 j
def CV.I (ρ:Env):CV→Nat→Nat→Nat→Int
 | .up g gi us sh,i1,i2,j=>ah ρ us gi ((sh.den ρ).toNat+i1) i2 j (g.I ρ ((sh.den ρ).toNat+i1) i2 j)
 | .ex cs s1 s2 lo,i1,i2,j=>(cs.getD (i1 * s1+i2 * s2+lo+j) .hole).I ρ
def CV.B (ρ:Env):CV→Nat→Nat→Nat→Bool
 | .up g gi us sh,i1,i2,j=>ai ρ us gi ((sh.den ρ).toNat+i1) i2 j (g.B ρ ((sh.den ρ).toNat+i1) i2 j)
 | .ex cs s1 s2 lo,i1,i2,j=>(cs.getD (i1 * s1+i2 * s2+lo+j) .hole).B ρ
def CV.V (ρ:Env) (ν:Nat→Addr):CV→Nat→Nat→Nat→Value
 | .up g gi us sh,i1,i2,j=>cO ρ ν us gi ((sh.den ρ).toNat+i1) i2 j (g.base ρ ((sh.den ρ).toNat+i1) i2 j)
 | .ex cs s1 s2 lo,i1,i2,j=>(cs.getD (i1 * s1+i2 * s2+lo+j) .hole).den ρ ν
def mY:Kd→SC→Bool
 | .int k,.int l _=>kg k l
 | .bool,.bool _=>true
 | .val,c=>!c.isHole
 | _,_=>false
def mE (ks:List Kd) (gi:Nat):List Up→Bool
 | []=>true
 | u :: r=>(!(u.g == gi) || (match ks[u.j]? with | some k=>mY k u.c | none=>true)) && mE ks gi r
theorem F5 {k:IntKind} {c:SC} (h:mY (.int k) c=true) (ρ:Env) (ν:Nat→Addr):c.den ρ ν=.int k (c.I ρ):=by
 cases c <;> simp [mY] at h
 rw [iO h];rfl
theorem Dl {c:SC} (h:mY .bool c=true) (ρ:Env) (ν:Nat→Addr):c.den ρ ν=.bool (c.B ρ):=by
 cases c <;> simp [mY] at h
 rfl
theorem F6 {c:SC} (h:mY .val c=true) (ρ:Env) (ν:Nat→Addr):(c.den ρ ν).oneCell'=true:=by
 refine SC.su c ?_
 cases c <;> simp_all [mY,SC.isHole]
section
variable {ρ:Env} {ν:Nat→Addr} {ks:List Kd} {gi:Nat}
theorem Dm {k:IntKind} {i1 i2 j:Nat} {b:Int} (hj:ks[j]?=some (.int k)):∀{us:List Up},mE ks gi us=true →
  cO ρ ν us gi i1 i2 j (.int k b)=.int k (ah ρ us gi i1 i2 j b)
 | [],_=>rfl
 | u :: r,h=>by
  simp only [mE,Bool.and_eq_true,Bool.or_eq_true,Bool.not_eq_true',beq_eq_false_iff_ne,ne_eq] at h
  unfold cO ah
  split
  ·rename_i hc
   obtain ⟨e1,-,-,e2⟩:=hc
   rcases h.1 with h1 | h1
   ·exact absurd e1 h1
   ·rw [e2,hj] at h1
    exact F5 h1 ρ ν
  ·exact Dm hj h.2
theorem AY {i1 i2 j:Nat} {b:Bool} (hj:ks[j]?=some .bool):∀{us:List Up},mE ks gi us=true →
  cO ρ ν us gi i1 i2 j (.bool b)=.bool (ai ρ us gi i1 i2 j b)
 | [],_=>rfl
 | u :: r,h=>by
  simp only [mE,Bool.and_eq_true,Bool.or_eq_true,Bool.not_eq_true',beq_eq_false_iff_ne,ne_eq] at h
  unfold cO ai
  split
  ·rename_i hc
   obtain ⟨e1,-,-,e2⟩:=hc
   rcases h.1 with h1 | h1
   ·exact absurd e1 h1
   ·rw [e2,hj] at h1
    exact Dl h1 ρ ν
  ·exact AY hj h.2
theorem Dn {i1 i2 j:Nat} {b:Value} (hb:b.oneCell'=true) (hj:ks[j]?=some .val):∀{us:List Up},mE ks gi us=true →
  (cO ρ ν us gi i1 i2 j b).oneCell'=true
 | [],_=>hb
 | u :: r,h=>by
  simp only [mE,Bool.and_eq_true,Bool.or_eq_true,Bool.not_eq_true',beq_eq_false_iff_ne,ne_eq] at h
  unfold cO
  split
  ·rename_i hc
   obtain ⟨e1,-,-,e2⟩:=hc
   rcases h.1 with h1 | h1
   ·exact absurd e1 h1
   ·rw [e2,hj] at h1
    exact F6 h1 ρ ν
  ·exact Dn hb hj h.2
def nY (kd:Option Kd) (i:Int) (b:Bool) (v:Value):Value :=
 match kd with
 | some (.int k)=>.int k i
 | some .bool=>.bool b
 | _=>yA v
theorem aa.Ab (g:aa) (hz:g.z=false) (i1 i2 j:Nat):g.base ρ i1 i2 j=nY g.ks[j]? (ρ.ic g.r i1 i2 j) (ρ.bc g.r i1 i2 j) (ρ.vc g.r i1 i2 j):=by
 unfold aa.base nY
 rw [hz]
 rfl
theorem ME {g:aa} {us:List Up} {i1 i2 j:Nat} (hj:j<g.ks.length) (hf:mE g.ks gi us=true) :
  cO ρ ν us gi i1 i2 j (g.base ρ i1 i2 j)=nY g.ks[j]? (ah ρ us gi i1 i2 j (g.I ρ i1 i2 j)) (ai ρ us gi i1 i2 j (g.B ρ i1 i2 j)) (cO ρ ν us gi i1 i2 j (g.base ρ i1 i2 j)):=by
 have hjs:g.ks[j]?=some g.ks[j]:=List.getElem?_eq_getElem hj
 cases hk:g.ks[j] with
 | int k =>
  rw [hk] at hjs
  have hb:g.base ρ i1 i2 j=.int k (g.I ρ i1 i2 j):=by unfold aa.base;rw [hjs];rfl
  rw [hjs,hb,Dm hjs hf]
  rfl
 | bool =>
  rw [hk] at hjs
  have hb:g.base ρ i1 i2 j=.bool (g.B ρ i1 i2 j):=by unfold aa.base;rw [hjs];rfl
  rw [hjs,hb,AY hjs hf]
  rfl
 | val =>
  rw [hk] at hjs
  rw [hjs]
  have hb:(g.base ρ i1 i2 j).oneCell'=true:=by unfold aa.base;rw [hjs];exact Bj _
  simp only [nY]
  rw [zT (Dn hb hjs hf)]
theorem OC {kd:Kd} {c:SC} (h:mY kd c=true):c.den ρ ν=nY (some kd) (c.I ρ) (c.B ρ) (c.den ρ ν):=by
 cases kd with
 | int k=>simpa [nY] using F5 h ρ ν
 | bool=>simpa [nY] using Dl h ρ ν
 | val=>simp only [nY];rw [zT (F6 h ρ ν)]
end
structure Sub where
 lo:Nat
 az:Nat
 iv:List (Nat × IE):=[]
 bv:List (Nat × BE):=[]
 vv:List (Nat × SC):=[]
 ct:List (Nat × CV):=[]
 bk:List (Nat × SA):=[]
 nb:List Nat:=[]
 deriving Inhabited
def Env.num (ρ:Env):Env:={ρ with vv:=fun _=>undef,vc:=fun _ _ _ _=>undef}
def Sub.af (σ:Sub) (ρ:Env):Env where
 iv:=fun i=>if i<σ.lo then ρ.iv i else match assoc i σ.iv with | some e=>e.den ρ | none=>0
 bv:=fun i=>if i<σ.lo then ρ.bv i else match assoc i σ.bv with | some e=>e.den ρ | none=>false
 ic:=fun r=>if r<σ.lo then ρ.ic r else match assoc r σ.ct with | some c=>c.I ρ | none=>fun _ _ _=>0
 bc:=fun r=>if r<σ.lo then ρ.bc r else match assoc r σ.ct with | some c=>c.B ρ | none=>fun _ _ _=>false
def Sub.env (σ:Sub) (ρ:Env) (ν:Nat→Addr):Env :=
 {σ.af ρ with
   vv:=fun i=>if i<σ.lo then ρ.vv i else match assoc i σ.vv with | some e=>e.den ρ ν | none=>undef
   vc:=fun r=>if r<σ.lo then ρ.vc r else match assoc r σ.ct with | some c=>c.V ρ ν | none=>fun _ _ _=>undef}
def Sub.fQ (σ:Sub) (ρ:Env) (ν:Nat→Addr):Nat→Addr :=
 fun k=>if k<σ.az then ν k else match assoc k σ.bk with | some a=>a.den ρ ν | none=>⟨0,0,none⟩
theorem Sub.iI (σ:Sub) (ρ:Env) (ν:Nat→Addr):dM σ.lo σ.az ρ (σ.env ρ ν) ν (σ.fQ ρ ν) :=
 ⟨fun i hi=>by simp [Sub.env,Sub.af,hi],fun i hi=>by simp [Sub.env,Sub.af,hi],fun i hi=>by simp [Sub.env,hi],fun i hi=>by simp [Sub.env,Sub.af,hi],
  fun i hi=>by simp [Sub.env,Sub.af,hi],fun i hi=>by simp [Sub.env,hi],fun i hi=>by simp [Sub.fQ,hi]⟩
def yT (σ:Sub) (t e:IE):Bool :=
 match t with
 | .var i=>if Nat.blt i σ.lo then t.same e else match assoc i σ.iv with | some x=>x.same e | none=>false
 | _=>t.same e && t.sc σ.lo
def yh (σ:Sub) (t e:BE):Bool :=
 match t with
 | .var i=>if Nat.blt i σ.lo then t.same e else match assoc i σ.bv with | some x=>x.same e | none=>false
 | _=>t.same e && t.sc σ.lo
def IE.KV:IE→Bool
 | .lit 0=>true
 | _=>false
theorem IE.Dp {ρ:Env} {a:IE} (h:a.KV=true):a.den ρ=0:=by
 unfold IE.KV at h
 split at h
 ·rfl
 ·cases h
def KW (σ:Sub) (t a:SA):Bool :=
 if Nat.blt t.aI σ.az then t.same a && t.sc σ.lo σ.az
 else match t.i1 with
  | .var o=>yT σ (.var o) a.i1 && t.s1 == a.s1 && t.i2.KV && a.i2.KV && t.j == 0 && a.j == 0 && (match assoc t.aI σ.bk with | some x=>x.aI == a.aI && x.i1.KV && x.i2.KV && x.j == 0 | none=>false)
  | _=>(match t.dH with | some 0=>true | _=>false) && (match assoc t.aI σ.bk with | some x=>x.same a | none=>false)
def KX (σ:Sub) (t b:Nat):Bool :=
 if Nat.blt t σ.az then t == b else match assoc t σ.bk with | some x=>x.same {aI:=b} | none=>false
def EI (σ:Sub):List Nat→List Nat→Bool
 | [],[]=>true
 | a :: r,b :: s=>KX σ a b && EI σ r s
 | _,_=>false
def jG (σ:Sub):SC→SC→Bool
 | .int k e,.int l f=>kg k l && yT σ e f
 | .bool e,.bool f=>yh σ e f
 | .val i,c=>if Nat.blt i σ.lo then (SC.val i).same c else match assoc i σ.vv with | some x=>x.same c && !c.isHole | none=>false
 | .ptr a,.ptr b=>KW σ a b
 | .sl a l c,.sl b m d=>KW σ a b && yT σ l m && yT σ c d
 | .fF k a l c,.sl b m d=>yh σ k (.lit false) && KW σ a b && yT σ l m && yT σ c d
 | .fF k a l c,.fF k' b m d=>yh σ k k' && KW σ a b && yT σ l m && yT σ c d
 | .fF k _ _ _,.bT=>yh σ k (.lit true)
 | .fn f a,.fn g b=>f == g && EI σ a b
 | .iface t c,.iface u d=>t == u && jG σ c d
 | .jd k c,.jd k' d=>yh σ k k' && jG σ c d
 | .jd k _,.dD=>yh σ k (.lit true)
 | .jd k c,.iface u d=>yh σ k (.lit false) && jG σ c (.iface u d)
 | .mp a,.mp b=>KX σ a b
 | t,c=>t.same c && t.sc σ.lo σ.az
def EJ (σ:Sub):List SC→List SC→Bool
 | [],[]=>true
 | a :: r,b :: s=>jG σ a b && EJ σ r s
 | _,_=>false
def OD (σ:Sub):SW→SW→Bool
 | .one a,.one b=>jG σ a b
 | .agg a,.agg b=>EJ σ a b
 | _,_=>false
def Bz (σ:Sub):List SW→List SW→Bool
 | [],[]=>true
 | a :: r,b :: s=>OD σ a b && Bz σ r s
 | _,_=>false
def TZ (σ:Sub):SV→SV→Bool
 | .w a,.w b=>OD σ a b
 | .je a,.je b=>Bz σ a b
 | .gd c a,.gd d b=>yh σ c d && OD σ a b
 | _,_=>false
section
variable {ρ:Env} {ν:Nat→Addr} {σ:Sub}
theorem o6 {t e:IE} (h:yT σ t e=true):t.den (σ.env ρ ν)=e.den ρ:=by
 unfold yT at h
 split at h
 ·rename_i i
  split at h
  ·rename_i hi
   rw [←IE.aG h]
   exact IE.aS (σ.iI ρ ν) (e:=.var i) hi
  ·rename_i hi
   split at h
   ·rename_i x hx
    have hi':¬i<σ.lo:=by simpa using hi
    simp only [IE.den,Sub.env,Sub.af,if_neg hi',hx,IE.aG h]
   ·cases h
 ·simp only [Bool.and_eq_true] at h
  rw [←IE.aG h.1]
  exact IE.aS (σ.iI ρ ν) h.2
theorem nR {t e:BE} (h:yh σ t e=true):t.den (σ.env ρ ν)=e.den ρ:=by
 unfold yh at h
 split at h
 ·rename_i i
  split at h
  ·rename_i hi
   rw [←BE.aG h]
   exact BE.aS (σ.iI ρ ν) (e:=.var i) hi
  ·rename_i hi
   split at h
   ·rename_i x hx
    have hi':¬i<σ.lo:=by simpa using hi
    simp only [BE.den,Sub.env,Sub.af,if_neg hi',hx,BE.aG h]
   ·cases h
 ·simp only [Bool.and_eq_true] at h
  rw [←BE.aG h.1]
  exact BE.aS (σ.iI ρ ν) h.2
theorem Dq {t a:SA} (h:KW σ t a=true):t.den (σ.env ρ ν) (σ.fQ ρ ν)=a.den ρ ν:=by
 unfold KW at h
 split at h
 ·simp only [Bool.and_eq_true] at h
  rw [←SA.aG h.1]
  exact SA.aS (σ.iI ρ ν) h.2
 ·rename_i hb
  have hb':¬t.aI<σ.az:=by simpa using hb
  split at h
  ·rename_i o ho
   simp only [Bool.and_eq_true,beq_iff_eq] at h
   obtain ⟨⟨⟨⟨⟨⟨h1,h2⟩,h3⟩,h4⟩,h5⟩,h6⟩,h7⟩:=h
   split at h7
   ·rename_i x hx
    simp only [Bool.and_eq_true,beq_iff_eq] at h7
    obtain ⟨⟨⟨g1,g2⟩,g3⟩,g4⟩:=h7
    have e1:=o6 (ρ:=ρ) (ν:=ν) h1
    have ha:σ.fQ ρ ν t.aI=ν a.aI:=by
     simp only [Sub.fQ,if_neg hb',hx]
     simp [SA.den,SA.off,IE.Dp g2,IE.Dp g3,g4,g1,Addr.add_zero]
    simp only [SA.den,SA.off,ho,e1,ha,h2,h5,h6,IE.Dp h3,IE.Dp h4,Int.toNat_zero,Nat.zero_mul]
   ·cases h7
  simp only [Bool.and_eq_true] at h
  obtain ⟨h1,h2⟩:=h
  split at h1
  ·rename_i hl
   split at h2
   ·rename_i x hx
    simp only [SA.den,SA.aT hl,Addr.add_zero]
    simp only [Sub.fQ,if_neg hb',hx,SA.aG h2]
    rfl
   ·cases h2
  ·cases h1
theorem yU {t b:Nat} (h:KX σ t b=true):σ.fQ ρ ν t=ν b:=by
 unfold KX at h
 split at h
 ·rename_i hb
  simp only [beq_iff_eq] at h
  subst h
  simp only [Sub.fQ,if_pos (show t<σ.az by simpa using hb)]
 ·rename_i hb
  have hb':¬t<σ.az:=by simpa using hb
  split at h
  ·rename_i x hx
   simp only [Sub.fQ,if_neg hb',hx,SA.aG h]
   simp [SA.den,SA.off,IE.den,Addr.add_zero]
  ·cases h
theorem KY:∀{t b:List Nat},EI σ t b=true→(t.map fun k=>Value.pointer (some (σ.fQ ρ ν k)))=b.map fun k=>Value.pointer (some (ν k))
 | [],[],_=>rfl
 | [],_ :: _,h=>by simp [EI] at h
 | _ :: _,[],h=>by simp [EI] at h
 | a :: r,b :: s,h=>by
  simp only [EI,Bool.and_eq_true] at h
  simp only [List.map_cons,yU (ρ:=ρ) (ν:=ν) h.1,KY h.2]
theorem Dr:∀{t c:SC},jG σ t c=true→t.den (σ.env ρ ν) (σ.fQ ρ ν)=c.den ρ ν:=by
 intro t
 have dflt:∀{t c:SC},(t.same c && t.sc σ.lo σ.az)=true→t.den (σ.env ρ ν) (σ.fQ ρ ν)=c.den ρ ν:=by
  intro t c h
  simp only [Bool.and_eq_true] at h
  rw [←SC.aG h.1]
  exact SC.aS (σ.iI ρ ν) h.2
 induction t with
 | int k e =>
  intro c h
  cases c with
  | int l f =>
   simp only [jG,Bool.and_eq_true] at h
   simp only [SC.den,o6 (ν:=ν) h.2,iO h.1]
  | _=>exact dflt (by simpa [jG] using h)
 | bool e =>
  intro c h
  cases c with
  | bool f =>
   simp only [jG] at h
   simp only [SC.den,nR (ν:=ν) h]
  | _=>exact dflt (by simpa [jG] using h)
 | val i =>
  intro c h
  simp only [jG] at h
  split at h
  ·rename_i hi
   rw [←SC.aG h]
   exact SC.aS (σ.iI ρ ν) (c:=.val i) hi
  ·rename_i hi
   have hi':¬i<σ.lo:=by simpa using hi
   split at h
   ·rename_i x hx
    simp only [Bool.and_eq_true,Bool.not_eq_true'] at h
    simp only [SC.den,Sub.env,if_neg hi',hx,SC.aG h.1]
    exact zT (SC.su c h.2)
   ·cases h
 | ptr a =>
  intro c h
  cases c with
  | ptr b =>
   simp only [jG] at h
   simp only [SC.den,Dq (ρ:=ρ) (ν:=ν) h]
  | _=>exact dflt (by simpa [jG] using h)
 | sl a l k =>
  intro c h
  cases c with
  | sl b m d =>
   simp only [jG,Bool.and_eq_true] at h
   simp only [SC.den,Dq (ρ:=ρ) (ν:=ν) h.1.1,o6 (ν:=ν) h.1.2,o6 (ν:=ν) h.2]
  | _=>exact dflt (by simpa [jG] using h)
 | fF k a l x =>
  intro c h
  cases c with
  | sl b m d =>
   simp only [jG,Bool.and_eq_true] at h
   simp only [SC.den,nR (ν:=ν) h.1.1.1,BE.den,Dq (ρ:=ρ) (ν:=ν) h.1.1.2,o6 (ν:=ν) h.1.2,o6 (ν:=ν) h.2]
   rfl
  | fF k' b m d =>
   simp only [jG,Bool.and_eq_true] at h
   simp only [SC.den,nR (ν:=ν) h.1.1.1,Dq (ρ:=ρ) (ν:=ν) h.1.1.2,o6 (ν:=ν) h.1.2,o6 (ν:=ν) h.2]
  | bT =>
   simp only [jG] at h
   simp only [SC.den,nR (ν:=ν) h,BE.den,if_true]
  | _=>exact dflt (by simpa [jG] using h)
 | fn f a =>
  intro c h
  cases c with
  | fn g b =>
   simp only [jG,Bool.and_eq_true,beq_iff_eq] at h
   simp only [SC.den,h.1,KY (ρ:=ρ) (ν:=ν) h.2]
  | _=>exact dflt (by simpa [jG] using h)
 | iface t x ih =>
  intro c h
  cases c with
  | iface u d =>
   simp only [jG,Bool.and_eq_true,beq_iff_eq] at h
   simp only [SC.den,h.1,ih h.2]
  | _=>exact dflt (by simpa [jG] using h)
 | jd k x ih =>
  intro c h
  cases c with
  | jd k' d =>
   simp only [jG,Bool.and_eq_true] at h
   simp only [SC.den,nR (ν:=ν) h.1,ih h.2]
  | dD =>
   simp only [jG] at h
   simp only [SC.den,nR (ν:=ν) h,BE.den,if_true]
  | iface u d =>
   simp only [jG,Bool.and_eq_true] at h
   have h2:=ih h.2
   simp only [SC.den,nR (ν:=ν) h.1,BE.den,Bool.false_eq_true,if_false] at h2 ⊢
   exact h2
  | _=>exact dflt (by simpa [jG] using h)
 | mp a =>
  intro c h
  cases c with
  | mp b =>
   simp only [jG] at h
   simp only [SC.den,yU (ρ:=ρ) (ν:=ν) h]
  | _=>exact dflt (by simpa [jG] using h)
 | _ =>
  intro c h
  exact dflt (by simpa [jG] using h)
theorem KZ:∀{t c:List SC},EJ σ t c=true→(t.map fun x=>x.den (σ.env ρ ν) (σ.fQ ρ ν))=c.map fun x=>x.den ρ ν
 | [],[],_=>rfl
 | [],_ :: _,h=>by simp [EJ] at h
 | _ :: _,[],h=>by simp [EJ] at h
 | a :: r,b :: s,h=>by
  simp only [EJ,Bool.and_eq_true] at h
  simp only [List.map_cons,Dr h.1,KZ h.2]
theorem IQ {t x:SW} (h:OD σ t x=true):t.den (σ.env ρ ν) (σ.fQ ρ ν)=x.den ρ ν:=by
 cases t <;> cases x <;> simp only [OD] at h
 ·exact Dr h
 ·cases h
 ·cases h
 ·simp only [SW.den,KZ (ρ:=ρ) (ν:=ν) h]
theorem EK:∀{t c:List SW},Bz σ t c=true→(t.map fun x=>x.den (σ.env ρ ν) (σ.fQ ρ ν))=c.map fun x=>x.den ρ ν
 | [],[],_=>rfl
 | [],_ :: _,h=>by simp [Bz] at h
 | _ :: _,[],h=>by simp [Bz] at h
 | a :: r,b :: s,h=>by
  simp only [Bz,Bool.and_eq_true] at h
  simp only [List.map_cons,IQ h.1,EK h.2]
theorem OE {t x:SV} (h:TZ σ t x=true):t.den (σ.env ρ ν) (σ.fQ ρ ν)=x.den ρ ν:=by
 cases t <;> cases x <;> simp only [TZ] at h <;> try cases h
 ·exact IQ h
 ·simp only [SV.den,EK (ρ:=ρ) (ν:=ν) h]
 ·simp only [Bool.and_eq_true] at h
  simp only [SV.den,nR (ν:=ν) h.1,IQ (ρ:=ρ) (ν:=ν) h.2]
end
end Go.Rex
namespace Go.Rex
def Sub.ie (σ:Sub) (t:IE):Option IE :=
 match t with
 | .var i=>if Nat.blt i σ.lo then some t else assoc i σ.iv
 | _=>if t.sc σ.lo then some t else none
theorem Sub.T9 {σ:Sub} {t e:IE} {ρ:Env} {ν:Nat→Addr} (h:σ.ie t=some e):t.den (σ.env ρ ν)=e.den ρ:=by
 unfold Sub.ie at h
 split at h
 ·rename_i i
  split at h
  ·rename_i hi
   simp at h
   subst h
   exact IE.aS (σ.iI ρ ν) (e:=.var i) hi
  ·rename_i hi
   have hi':¬i<σ.lo:=by simpa using hi
   simp only [IE.den,Sub.env,Sub.af,if_neg hi',h]
 ·split at h
  ·rename_i hs
   simp at h
   subst h
   exact IE.aS (σ.iI ρ ν) hs
  ·cases h
def Ad (cs:List SC):List Kd→Nat→Bool
 | [],_=>true
 | k :: r,p=>(match cs[p]? with | some c=>mY k c | none=>false) && Ad cs r (p+1)
def Dt (cs:List SC) (ks:List Kd) (s2:Nat):Nat→Nat→Bool
 | 0,_=>true
 | n+1,p=>Ad cs ks p && Dt cs ks s2 n (p+s2)
def Du (cs:List SC) (ks:List Kd) (s2 n2 s1:Nat):Nat→Nat→Bool
 | 0,_=>true
 | n+1,p=>Dt cs ks s2 n2 p && Du cs ks s2 n2 s1 n (p+s1)
theorem BA {cs:List SC}:∀{ks:List Kd} {p:Nat},Ad cs ks p=true→∀(j:Nat) (k:Kd),ks[j]?=some k→∃c,cs[p+j]?=some c∧mY k c=true
 | [],p,_,j,k,hj=>by simp at hj
 | x :: r,p,h,j,k,hj=>by
  simp only [Ad,Bool.and_eq_true] at h
  cases j with
  | zero =>
   simp at hj
   subst hj
   obtain ⟨h,-⟩:=h
   split at h
   ·rename_i c hc;exact ⟨c,hc,h⟩
   ·cases h
  | succ j =>
   obtain ⟨c,hc,hk⟩:=BA h.2 j k (by simpa using hj)
   exact ⟨c,by rw [←hc];congr 1;omega,hk⟩
theorem BB {cs:List SC} {ks:List Kd} {s2:Nat}:∀{n p:Nat},Dt cs ks s2 n p=true→∀i,i<n→Ad cs ks (p+i * s2)=true
 | 0,_,_,i,hi=>by omega
 | n+1,p,h,i,hi=>by
  simp only [Dt,Bool.and_eq_true] at h
  cases i with
  | zero=>simpa using h.1
  | succ i =>
   have:=BB h.2 i (by omega)
   rwa [show p+s2+i * s2=p+(i+1) * s2 by rw [Nat.add_mul];omega] at this
theorem BC {cs:List SC} {ks:List Kd} {s2 n2 s1:Nat}:∀{n p:Nat},Du cs ks s2 n2 s1 n p=true→∀i,i<n→Dt cs ks s2 n2 (p+i * s1)=true
 | 0,_,_,i,hi=>by omega
 | n+1,p,h,i,hi=>by
  simp only [Du,Bool.and_eq_true] at h
  cases i with
  | zero=>simpa using h.1
  | succ i =>
   have:=BC h.2 i (by omega)
   rwa [show p+s1+i * s1=p+(i+1) * s1 by rw [Nat.add_mul];omega] at this
def Ae (gi:Nat):List Up→Bool
 | []=>true
 | u :: r=>!(u.g == gi) && Ae gi r
theorem Dv {ρ:Env} {ν:Nat→Addr} {gi i1 i2 j:Nat} {b:Value}:∀{us:List Up},Ae gi us=true→cO ρ ν us gi i1 i2 j b=b
 | [],_=>rfl
 | u :: r,h=>by
  simp only [Ae,Bool.and_eq_true,Bool.not_eq_true',beq_eq_false_iff_ne,ne_eq] at h
  unfold cO
  rw [if_neg (fun hc=>h.1 hc.1),Dv h.2]
def IE.OG:IE→Bool
 | .lit 0=>true
 | _=>false
theorem IE.IU {ρ:Env} {e:IE} (h:e.OG=true):e.den ρ=0:=by
 unfold IE.OG at h
 split at h
 ·rfl
 ·cases h
def SA.base (a:SA):Bool:=match a.dH with | some 0=>true | _=>false
theorem SA.Af {ρ:Env} {a:SA} (h:a.base=true):a.off ρ=0:=by
 unfold SA.base at h
 split at h
 ·rename_i hl;exact SA.aT hl
 ·cases h
def EL (c:Option (IE × Nat)):Bool:=match c with | none=>true | _=>false
theorem Dw {c:Option (IE × Nat)} (h:EL c=true):c=none:=by
 cases c with
 | none=>rfl
 | some p=>cases h
def SA.shift (a:SA) (s1:Nat):Option IE :=
 if a.i2.OG && a.j == 0 && (a.i1.OG || a.s1 == s1) then some a.i1 else none
theorem SA.IV {ρ:Env} {a:SA} {s1:Nat} {sh:IE} (h:a.shift s1=some sh):a.off ρ=(sh.den ρ).toNat * s1:=by
 unfold SA.shift at h
 split at h
 ·rename_i hc
  simp only [Bool.and_eq_true,Bool.or_eq_true,beq_iff_eq] at hc
  obtain ⟨⟨h1,h2⟩,h3⟩:=hc
  simp at h
  subst h
  simp only [SA.off,IE.IU h1,h2]
  rcases h3 with h3 | h3
  ·simp [IE.IU h3]
  ·simp [h3]
 ·cases h
def MF (σ:Sub) (A:SB) (a:SA) (gT:aa) (gi:Nat):Option (List BE) :=
 if Nat.blt gT.r σ.lo then
  match A.bf[gi]? with
  | some g=>if gT.same g && gT.n1.sc σ.lo && Ae gi A.ups && a.base then some [] else none
  | none=>none
 else
 match assoc gT.r σ.ct,σ.ie gT.n1 with
 | some (.up g gj us sh),some n1 =>
  match A.bf[gj]?,a.shift gT.s1 with
  | some g',some sh' =>
   if g.same g' && lX us A.ups && mE g.ks gj us && sh.same sh' && gT.s1 == g.s1 && gT.n2 == g.n2 && gT.s2 == g.s2 && gT.lo == g.lo && lq gT.ks g.ks && !gT.z then
    some (if sh.OG && n1.same g.n1 then [] else [.aA (.lit 0) sh,.aA (sh.iW n1) g.n1])
   else none
  | _,_=>none
 | some (.ex cs s1 s2 lo),some (.lit n1) =>
  match a.dH with
  | some p=>if A.bf.isEmpty && uz cs (A.cs.drop p) && s1 == gT.s1 && s2 == gT.s2 && lo == gT.lo && !gT.z && Du cs gT.ks gT.s2 gT.n2 gT.s1 n1.toNat gT.lo then some [] else none
  | none=>none
 | _,_=>none
theorem K3 {σ:Sub} {ρ:Env} {ν:Nat→Addr} {A:SB} {a:SA} {gT:aa} {gi:Nat} {os:List BE} {arr:Array Value} (h:MF σ A a gT gi=some os)
  (ho:∀o∈os,o.den ρ=true) (hA:A.has ρ ν arr) (i1 i2 j:Nat) (h1:(i1:Int)<gT.n1.den (σ.env ρ ν)) (h2:i2<gT.n2) (h3:j<gT.ks.length) :
  arr[a.off ρ+(i1 * gT.s1+i2 * gT.s2+gT.lo+j)]?=some (gT.base (σ.env ρ ν) i1 i2 j):=by
 unfold MF at h
 split at h
 ·rename_i hr
  split at h
  ·rename_i g hg
   split at h
   ·rename_i hc
    simp only [Bool.and_eq_true] at hc
    obtain ⟨⟨⟨c1,c2⟩,c3⟩,c4⟩:=hc
    have e1:=aa.aG c1
    subst e1
    have ha:a.off ρ=0:=SA.Af c4
    rw [IE.aS (σ.iI ρ ν) c2] at h1
    have:=hA.sg gi gT hg i1 i2 j h1 h2 h3
    rw [Dv c3] at this
    rw [ha,Nat.zero_add,this,aa.Bw (σ.iI ρ ν) gT (by simpa using hr)]
   ·cases h
  ·cases h
 ·rename_i hr
  have hr':¬gT.r<σ.lo:=by simpa using hr
  split at h
  ·rename_i g gj us sh n1 hct hn1
   split at h
   ·rename_i g' sh' hg' hsh
    split at h
    ·rename_i hc
     simp only [Bool.and_eq_true,beq_iff_eq,Bool.not_eq_true'] at hc
     obtain ⟨⟨⟨⟨⟨⟨⟨⟨⟨c1,c2⟩,c3⟩,c4⟩,c5⟩,c6⟩,c7⟩,c8⟩,c9⟩,c10⟩:=hc
     have e1:=aa.aG c1
     have e2:=rQ c2
     have e3:=IE.aG c4
     have e4:=oZ c9
     subst e1 e2 e3
     have hoff:=SA.IV (ρ:=ρ) hsh
     rw [Sub.T9 hn1] at h1
     have hb:0≤sh.den ρ∧sh.den ρ+n1.den ρ≤g.n1.den ρ:=by
      simp only [Option.some.injEq] at h
      split at h
      ·rename_i hq
       simp only [Bool.and_eq_true] at hq
       rw [IE.IU hq.1,IE.aG hq.2]
       simp
      ·subst h
       have b1:=of_decide_eq_true (ho (.aA (.lit 0) sh) (by simp))
       have b2:=of_decide_eq_true (ho (.aA (sh.iW n1) g.n1) (by simp))
       rw [IE.kG] at b2
       exact ⟨b1,b2⟩
     have hi:(((sh.den ρ).toNat+i1:Nat):Int)<g.n1.den ρ:=by omega
     have hg2:i2<g.n2:=by rw [←c6];exact h2
     have hj:j<g.ks.length:=by rw [←e4];exact h3
     have:=hA.sg gj g hg' ((sh.den ρ).toNat+i1) i2 j hi hg2 hj
     rw [hoff,c5,c7,c8]
     rw [show (sh.den ρ).toNat * g.s1+(i1 * g.s1+i2 * g.s2+g.lo+j)=((sh.den ρ).toNat+i1) * g.s1+i2 * g.s2+g.lo+j by rw [Nat.add_mul];omega]
     rw [this,ME hj c3,aa.Ab gT c10,e4]
     simp only [Sub.env,Sub.af,if_neg hr',hct,CV.I,CV.B,CV.V]
    ·cases h
   ·cases h
  ·rename_i cs s1 s2 lo n1 hct hn1
   split at h
   ·rename_i p hp
    split at h
    ·rename_i hc
     simp only [Bool.and_eq_true,beq_iff_eq,Bool.not_eq_true',List.isEmpty_iff] at hc
     obtain ⟨⟨⟨⟨⟨⟨c1,c2⟩,c3⟩,c4⟩,c5⟩,c6⟩,c7⟩:=hc
     have e1:=wN c2
     rw [Sub.T9 hn1] at h1
     simp only [IE.den] at h1
     have hf:=BB (BC c7 i1 (by omega)) i2 h2
     obtain ⟨c,hc,hk⟩:=BA hf j gT.ks[j] (List.getElem?_eq_getElem h3)
     have hh:c.isHole=false:=by
      cases hkd:gT.ks[j] <;> rw [hkd] at hk <;> cases c <;> simp_all [mY,SC.isHole]
     have hpos:i1 * gT.s1+i2 * gT.s2+gT.lo+j=gT.lo+i1 * gT.s1+i2 * gT.s2+j:=by omega
     have hc':A.cs[p+(i1 * gT.s1+i2 * gT.s2+gT.lo+j)]?=some c:=by
      rw [←List.getElem?_drop,←e1,hpos];exact hc
     rw [SA.aT hp,hA.ex _ _ hc' hh,OC hk,aa.Ab gT c6,List.getElem?_eq_getElem h3]
     have hgd:cs.getD (i1 * gT.s1+i2 * gT.s2+gT.lo+j) .hole=c:=by
      rw [List.getD_eq_getElem?_getD,hpos,hc];rfl
     simp only [Sub.env,Sub.af,if_neg hr',hct,CV.I,CV.B,CV.V,c3,c4,c5,hgd]
    ·cases h
   ·cases h
  ·cases h
def Dx (σ:Sub) (A:SB) (a:SA):List aa→Nat→Option (List BE)
 | [],_=>some []
 | g :: r,gi =>
  match MF σ A a g gi,Dx σ A a r (gi+1) with
  | some os,some os'=>some (os ++ os')
  | _,_=>none
theorem BD {σ:Sub} {A:SB} {a:SA}:∀{gs:List aa} {gi:Nat} {os:List BE},Dx σ A a gs gi=some os→∀k g,gs[k]?=some g →
  ∃os',MF σ A a g (gi+k)=some os'∧∀o∈os',o∈os
 | [],_,_,_,k,g,hk=>by simp at hk
 | x :: r,gi,os,h,k,g,hk=>by
  unfold Dx at h
  split at h
  ·rename_i o1 o2 h1 h2
   simp at h
   subst h
   cases k with
   | zero=>simp at hk;subst hk;exact ⟨o1,h1,fun o ho=>List.mem_append_left _ ho⟩
   | succ k =>
    obtain ⟨os',h3,h4⟩:=BD h2 k g (by simpa using hk)
    exact ⟨os',by rw [←h3];congr 1;omega,fun o ho=>List.mem_append_right _ (h4 o ho)⟩
  ·cases h
def vP (σ:Sub):List SC→List SC→Bool
 | [],_=>true
 | _ :: _,[]=>false
 | a :: r,b :: s=>(a.isHole || (jG σ a b && !b.isHole)) && vP σ r s
theorem yV {σ:Sub}:∀{t c:List SC},vP σ t c=true→∀(p:Nat) (x:SC),t[p]?=some x→x.isHole=false→∃y,c[p]?=some y∧y.isHole=false∧jG σ x y=true
 | [],_,_,p,x,hx,_=>by simp at hx
 | _ :: _,[],h,_,_,_,_=>by simp [vP] at h
 | a :: r,b :: s,h,p,x,hx,hh=>by
  simp only [vP,Bool.and_eq_true,Bool.or_eq_true,Bool.not_eq_true'] at h
  cases p with
  | zero =>
   simp at hx
   subst hx
   rcases h.1 with h1 | h1
   ·rw [hh] at h1;cases h1
   ·exact ⟨b,rfl,h1.2,h1.1⟩
  | succ p =>
   obtain ⟨y,h1,h2⟩:=yV h.2 p x (by simpa using hx) hh
   exact ⟨y,by simpa using h1,h2⟩
def WB (σ:Sub) (t a:Option (IE × Nat)):Bool :=
 match t,a with
 | none,_=>true
 | some (e,n),some (f,m)=>yT σ e f && n == m
 | _,_=>false
def YP (σ:Sub) (T A:SB) (a:SA):Option (List BE) :=
 if a.base && !A.ro && (T.opn || !T.bf.isEmpty || (A.bf.isEmpty && !A.opn && T.cs.length == A.cs.length)) && WB σ T.cap A.cap && vP σ T.cs A.cs && T.ups.isEmpty then
  Dx σ A a T.bf 0
 else none
def WC (σ:Sub) (T A:SB) (a:SA):Option (List BE) :=
 if T.cs.isEmpty && T.ups.isEmpty && EL T.cap && !T.bf.isEmpty then Dx σ A a T.bf 0
 else if T.bf.isEmpty && T.ups.isEmpty && EL T.cap && A.bf.isEmpty && !A.opn then
  match a.dH with
  | some o=>if Nat.ble (o+T.cs.length) A.cs.length && vP σ T.cs (A.cs.drop o) then some [] else none
  | none=>none
 else none
def BF (σ:Sub) (T A:SB) (a:SA):Option (List BE) :=
 if A.gone || !(T.t == A.t) || (T.own && (!A.own || T.ro)) || !yh σ T.nl A.nl || (T.ro && T.iU) then none
 else if T.ro then WC σ T A a else YP σ T A a
def IW (σ:Sub) (hp:List SB) (k:Nat) (T:SB):Option (List BE) :=
 if T.gone then some []
 else if Nat.blt k σ.az then
  match hp[k]? with
  | some A=>if T.wk A && T.sc σ.lo σ.az then some [] else BF σ T A {aI:=k}
  | none=>none
 else match assoc k σ.bk with
 | some a=>match hp[a.aI]? with | some A=>BF σ T A a | none=>none
 | none=>if σ.nb.contains k && yh σ T.nl (.lit true) then some [] else none
def Hq (σ:Sub) (hp:List SB):List SB→Nat→Option (List BE)
 | [],_=>some []
 | T :: r,k =>
  match IW σ hp k T,Hq σ hp r (k+1) with
  | some os,some os'=>some (os ++ os')
  | _,_=>none
theorem BG {σ:Sub} {hp:List SB}:∀{Ts:List SB} {k0:Nat} {os:List BE},Hq σ hp Ts k0=some os→∀k T,Ts[k]?=some T →
  ∃os',IW σ hp (k0+k) T=some os'∧∀o∈os',o∈os
 | [],_,_,_,k,g,hk=>by simp at hk
 | x :: r,gi,os,h,k,g,hk=>by
  unfold Hq at h
  split at h
  ·rename_i o1 o2 h1 h2
   simp at h
   subst h
   cases k with
   | zero=>simp at hk;subst hk;exact ⟨o1,h1,fun o ho=>List.mem_append_left _ ho⟩
   | succ k =>
    obtain ⟨os',h3,h4⟩:=BG h2 k g (by simpa using hk)
    exact ⟨os',by rw [←h3];congr 1;omega,fun o ho=>List.mem_append_right _ (h4 o ho)⟩
  ·cases h
def Sub.aI (σ:Sub) (k:Nat):Option Nat:=if Nat.blt k σ.az then some k else (assoc k σ.bk).map (·.aI)
def qQ (σ:Sub) (i:Nat) (ro:Bool) (b:Option Nat):List SB→Nat→Bool
 | [],_=>true
 | T :: r,j=>(i == j || T.gone || (ro && T.ro) || (match b,σ.aI j with | some x,some y=>!(x == y) | _,_=>true)) && qQ σ i ro b r (j+1)
def xh (σ:Sub) (all:List SB):List SB→Nat→Bool
 | [],_=>true
 | T :: r,i=>(Nat.blt i σ.az || T.gone || qQ σ i T.ro (σ.aI i) all 0) && xh σ all r (i+1)
theorem tq {σ:Sub} {i:Nat} {ro:Bool} {b:Option Nat}:∀{Ts:List SB} {j0:Nat},qQ σ i ro b Ts j0=true→∀j T,Ts[j]?=some T →
  i≠j0+j→T.gone=false→(ro && T.ro)=false→∀x y,b=some x→σ.aI (j0+j)=some y→x≠y
 | [],_,_,j,T,hj=>by simp at hj
 | T0 :: r,j0,h,j,T,hj=>by
  simp only [qQ,Bool.and_eq_true] at h
  cases j with
  | zero =>
   simp at hj
   subst hj
   intro hne hg hro x y hb hy
   rw [Nat.add_zero] at hne hy
   obtain ⟨h,-⟩:=h
   have hij:(i == j0)=false:=by simpa using hne
   rw [hij,hg,hro,hb,hy] at h
   simpa using h
  | succ j =>
   intro hne
   have:=tq h.2 j T (by simpa using hj)
   rw [show j0+1+j=j0+(j+1) by omega] at this
   exact this hne
theorem vo {σ:Sub} {all:List SB}:∀{Ts:List SB} {i0:Nat},xh σ all Ts i0=true→∀i T,Ts[i]?=some T→¬(i0+i<σ.az)→T.gone=false →
  qQ σ (i0+i) T.ro (σ.aI (i0+i)) all 0=true
 | [],_,_,j,T,hj=>by simp at hj
 | T0 :: r,j0,h,j,T,hj=>by
  simp only [xh,Bool.and_eq_true] at h
  cases j with
  | zero =>
   simp at hj
   subst hj
   intro hl hg
   rw [Nat.add_zero] at hl ⊢
   have hb:Nat.blt j0 σ.az=false:=by rw [←Bool.not_eq_true,Nat.blt_eq];exact hl
   simpa [hb,hg] using h.1
  | succ j =>
   have:=vo h.2 j T (by simpa using hj)
   rw [show j0+1+j=j0+(j+1) by omega] at this
   exact this
def nS (σ:Sub) (Ts hp:List SB):Option (List BE):=if xh σ Ts Ts 0 then Hq σ hp Ts 0 else none
section
variable {ρ:Env} {ν:Nat→Addr} {σ:Sub}
structure Ua (ρ:Env) (ν:Nat→Addr) (σ:Sub) (hp:List SB) (k:Nat) (T:SB) (a:SA) (A:SB):Prop where
 aI:σ.aI k=some a.aI
 hp:hp[a.aI]?=some A
 fQ:σ.fQ ρ ν k=(ν a.aI).add (a.off ρ)
 live:A.dead ρ=false
 t:T.t=A.t
 own:T.own=true→A.own=true
 ro:T.ro=false→A.ro=false∧a.off ρ=0
 rw_:T.ro=false→∀arr,A.has ρ ν arr→T.has (σ.env ρ ν) (σ.fQ ρ ν) arr
 rd:∀arr,A.has ρ ν arr→∃mf,T.has (σ.env ρ ν) (σ.fQ ρ ν) mf∧∀p v,mf[p]?=some v→arr[a.off ρ+p]?=some v
 mp:T.ro=true→A.ro=false→A.iU=false
 sg:T.ro=true→T.bf=[]→A.bf=[]
theorem K4 {T A:SB} {a:SA} {os:List BE} (h:BF σ T A a=some os) (ho:∀o∈os,o.den ρ=true) (hd:T.dead (σ.env ρ ν)=false) :
  A.dead ρ=false∧T.t=A.t∧(T.own=true→A.own=true)∧(T.ro=false→A.ro=false∧a.off ρ=0)∧(T.ro=false→∀arr,A.has ρ ν arr→T.has (σ.env ρ ν) (σ.fQ ρ ν) arr) ∧
  (∀arr,A.has ρ ν arr→∃mf,T.has (σ.env ρ ν) (σ.fQ ρ ν) mf∧∀p v,mf[p]?=some v→arr[a.off ρ+p]?=some v)∧(T.ro=true→A.ro=false→A.iU=false):=by
 unfold BF at h
 split at h
 ·cases h
 rename_i hc
 simp only [Bool.or_eq_true,Bool.not_eq_true',not_or,Bool.not_eq_true,beq_eq_false_iff_ne,ne_eq,Decidable.not_not,Bool.not_eq_false,Bool.and_eq_true,not_and] at hc
 obtain ⟨⟨⟨⟨c1,c2⟩,c3⟩,c4⟩,c5⟩:=hc
 have hlive:A.dead ρ=false:=by
  have:=nR (ρ:=ρ) (ν:=ν) c4
  unfold SB.dead at hd ⊢
  rw [c1,←this]
  simp at hd
  simp [hd.2]
 refine ⟨hlive,c2,fun h=>?_,?_⟩
 ·cases hA:A.own with
  | true=>rfl
  | false=>have:=c3 h;simp [hA] at this
 split at h
 ·rename_i hro
  refine ⟨fun h=>(by rw [hro] at h;cases h),fun h=>(by rw [hro] at h;cases h),fun arr hA=>?_,fun h _=>?_⟩
  rotate_left
  ·have:=c5 h
   unfold SB.iU at this ⊢
   rw [←c2]
   simpa using this
  unfold WC at h
  split at h
  ·rename_i hc
   simp only [Bool.and_eq_true,List.isEmpty_iff,Bool.not_eq_true'] at hc
   obtain ⟨⟨⟨d1,d2⟩,d3⟩,d4⟩:=hc
   refine ⟨(arr.toList.drop (a.off ρ)).toArray,⟨fun u hu=>(by rw [d2] at hu;cases hu),fun hs=>(by rw [hs] at d4;cases d4),fun e n he=>(by rw [Dw d3] at he;cases he),fun p c hp=>(by rw [d1] at hp;simp at hp),fun gi g hg i1 i2 j h1 h2 h3=>?_⟩,fun p v hp=>?_⟩
   ·obtain ⟨os',h4,h5⟩:=BD h gi g hg
    rw [Nat.zero_add] at h4
    have:=K3 h4 (fun o hm=>ho o (h5 o hm)) hA i1 i2 j h1 h2 h3
    rw [d2]
    simp only [cO,List.getElem?_toArray,List.getElem?_drop]
    simpa using this
   ·simpa [List.getElem?_drop] using hp
  ·split at h
   case isFalse=>cases h
   rename_i hc
   simp only [Bool.and_eq_true,List.isEmpty_iff,Bool.not_eq_true'] at hc
   obtain ⟨⟨⟨⟨d1,d2⟩,d3⟩,d4⟩,d5⟩:=hc
   split at h
   case h_2=>cases h
   rename_i o Zt
   have hoff:a.off ρ=o:=SA.aT Zt
   split at h
   case isFalse=>cases h
   rename_i hc2
   simp only [Bool.and_eq_true,Nat.ble_eq] at hc2
   have hsz:arr.size=A.cs.length:=hA.size d4 d5
   refine ⟨((arr.toList.drop o).take T.cs.length).toArray,⟨fun u hu=>(by rw [d2] at hu;cases hu),fun _ _=>(by simp;omega),fun e n he=>(by rw [Dw d3] at he;cases he),fun p c hp hh=>?_,fun gi g hg=>(by rw [d1] at hg;simp at hg)⟩,fun p v hp=>?_⟩
   ·obtain ⟨y,h1,h2,h3⟩:=yV hc2.2 p c hp hh
    rw [List.getElem?_drop] at h1
    have:=hA.ex (o+p) y h1 h2
    have hpl:p<T.cs.length:=(List.getElem?_eq_some_iff.1 hp).1
    rw [Dr (ρ:=ρ) (ν:=ν) h3,List.getElem?_toArray,List.getElem?_take_of_lt hpl,List.getElem?_drop,Array.getElem?_toList]
    exact this
   ·rw [hoff]
    rw [List.getElem?_toArray] at hp
    have hpl:p<T.cs.length:=by
     have:=(List.getElem?_eq_some_iff.1 hp).1
     simp at this
     omega
    rw [List.getElem?_take_of_lt hpl,List.getElem?_drop,Array.getElem?_toList] at hp
    exact hp
 ·rename_i hro
  unfold YP at h
  split at h
  ·rename_i hc
   simp only [Bool.and_eq_true,List.isEmpty_iff,Bool.not_eq_true',Bool.or_eq_true] at hc
   obtain ⟨⟨⟨⟨⟨d1,d2⟩,d3⟩,d4⟩,d5⟩,d6⟩:=hc
   have hoff:a.off ρ=0:=SA.Af d1
   have key:∀arr,A.has ρ ν arr→T.has (σ.env ρ ν) (σ.fQ ρ ν) arr:=by
    intro arr hA
    refine ⟨fun u hu=>(by rw [d6] at hu;cases hu),fun hs hop=>?_,fun e n he=>?_,fun p c hp hh=>?_,fun gi g hg i1 i2 j h1 h2 h3=>?_⟩
    ·rcases d3 with (d3 | d3) | d3
     ·rw [hop] at d3;cases d3
     ·rw [hs] at d3;cases d3
     ·simp only [beq_iff_eq] at d3
      rw [d3.2]
      exact hA.size d3.1.1 d3.1.2
    ·unfold WB at d4
     rw [he] at d4
     split at d4
     ·rename_i heq;cases heq
     ·rename_i e1 n1 f m heq hAc
      cases heq
      simp only [Bool.and_eq_true,beq_iff_eq] at d4
      rw [o6 (ν:=ν) d4.1,d4.2]
      exact hA.cap f m hAc
     ·cases d4
    ·obtain ⟨y,h1,h2,h3⟩:=yV d5 p c hp hh
     rw [Dr (ρ:=ρ) (ν:=ν) h3]
     exact hA.ex p y h1 h2
    ·obtain ⟨os',h4,h5⟩:=BD h gi g hg
     rw [Nat.zero_add] at h4
     have:=K3 h4 (fun o hm=>ho o (h5 o hm)) hA i1 i2 j h1 h2 h3
     rw [d6]
     simp only [cO]
     rw [hoff,Nat.zero_add] at this
     exact this
   exact ⟨fun _=>⟨d2,hoff⟩,fun _=>key,fun arr hA=>⟨arr,key arr hA,fun p v hp=>by rw [hoff,Nat.zero_add];exact hp⟩,fun h=>(hro h).elim⟩
  ·cases h
theorem F7 {T A:SB} {a:SA} {os:List BE} (h:BF σ T A a=some os) (hr:T.ro=true) (hs:T.bf=[]):A.bf=[]:=by
 unfold BF at h
 split at h
 ·cases h
 unfold WC at h
 split at h
 ·rename_i hc
  simp [hs] at hc
 ·split at h
  ·rename_i hc
   simp only [Bool.and_eq_true,List.isEmpty_iff,Bool.not_eq_true'] at hc
   exact hc.1.2
  ·cases h
theorem Vf {hp:List SB} {k:Nat} {T:SB} {os:List BE} (h:IW σ hp k T=some os) (ho:∀o∈os,o.den ρ=true) (hd:T.dead (σ.env ρ ν)=false):∃a A,Ua ρ ν σ hp k T a A:=by
 have hg:=SB.dO hd
 unfold IW at h
 rw [hg] at h
 simp only [Bool.false_eq_true,if_false] at h
 split at h
 ·rename_i hk
  have hk':k<σ.az:=by simpa using hk
  have vw:σ.fQ ρ ν k=(ν k).add (({aI:=k}:SA).off ρ):=by simp [Sub.fQ,hk',SA.off,IE.den,Addr.add_zero]
  have hblk:σ.aI k=some k:=by simp [Sub.aI,hk]
  split at h
  ·rename_i A hA
   split at h
   ·rename_i hc
    simp only [Bool.and_eq_true] at hc
    obtain ⟨e1,e2,e3,e4,e5,e6⟩:=SB.Dk (ρ:=ρ) (ν:=ν) hc.1 hg
    have hd':T.dead ρ=false:=by rwa [SB.ll (σ.iI ρ ν) hc.2] at hd
    have hh:∀arr,A.has ρ ν arr→T.has (σ.env ρ ν) (σ.fQ ρ ν) arr:=fun arr ha=>SB.yP (σ.iI ρ ν) hc.2 hg (e6 arr ha)
    have h0:({aI:=k}:SA).off ρ=0:=by simp [SA.off,IE.den]
    exact ⟨{aI:=k},A,⟨hblk,hA,vw,SB.vO hc.1 hd',e5,e4,fun hr=>⟨e3 ▸ hr,h0⟩,fun _=>hh,fun arr ha=>⟨arr,hh arr ha,fun p v hp=>by rw [h0,Nat.zero_add];exact hp⟩,fun hr hr'=>(by rw [e3,hr'] at hr;cases hr),fun _=>SB.KT hc.1 hg⟩⟩
   ·obtain ⟨h1,h2,h3,h4,h5,h6,h7⟩:=K4 (ν:=ν) h ho hd
    exact ⟨{aI:=k},A,⟨hblk,hA,vw,h1,h2,h3,h4,h5,h6,h7,F7 h⟩⟩
  ·cases h
 ·rename_i hk
  have hk':¬k<σ.az:=by simpa using hk
  split at h
  ·rename_i a ha
   split at h
   ·rename_i A hA
    obtain ⟨h1,h2,h3,h4,h5,h6,h7⟩:=K4 (ν:=ν) h ho hd
    exact ⟨a,A,⟨by simp [Sub.aI,hk,ha],hA,by simp [Sub.fQ,hk',ha,SA.den],h1,h2,h3,h4,h5,h6,h7,F7 h⟩⟩
   ·cases h
  ·split at h
   ·rename_i hc
    simp only [Bool.and_eq_true] at hc
    have:=nR (ρ:=ρ) (ν:=ν) hc.2
    simp only [SB.dead,hg,Bool.false_or] at hd
    rw [hd] at this
    cases this
   ·cases h
theorem block_add (a:Addr) (n:Nat):(a.add n).block=a.block:=by
 unfold Addr.add
 split <;> rfl
theorem oo {Ts hp:List SB} {os:List BE} (h:nS σ Ts hp=some os) (ho:∀o∈os,o.den ρ=true) {k:Nat} {T:SB} (hk:Ts[k]?=some T) (hd:T.dead (σ.env ρ ν)=false) :
  ∃a A,Ua ρ ν σ hp k T a A:=by
 unfold nS at h
 split at h
 ·obtain ⟨os',h1,h2⟩:=BG h k T hk
  rw [Nat.zero_add] at h1
  exact Vf h1 (fun o hm=>ho o (h2 o hm)) hd
 ·cases h
theorem MG {Ts hp:List SB} {os:List BE} (h:nS σ Ts hp=some os) {i j:Nat} {T U:SB} (hi:Ts[i]?=some T) (hj:Ts[j]?=some U) (hne:i≠j) (hg:T.gone=false) (hg':U.gone=false)
  (hr:T.ro=false∨U.ro=false) {x y:Nat} (hx:σ.aI i=some x) (hy:σ.aI j=some y):x≠y:=by
 unfold nS at h
 split at h
 ·rename_i hap
  by_cases h1:i<σ.az
  ·by_cases h2:j<σ.az
   ·simp [Sub.aI,h1] at hx
    simp [Sub.aI,h2] at hy
    omega
   ·have:=vo hap j U hj (by omega) hg'
    rw [Nat.zero_add] at this
    have:=tq this i T hi (by omega) hg (by rcases hr with hr | hr <;> simp [hr]) y x hy (by rw [Nat.zero_add];exact hx)
    exact fun e=>this e.symm
  ·have:=vo hap i T hi (by omega) hg
   rw [Nat.zero_add] at this
   exact tq this j U hj (by omega) hg' (by rcases hr with hr | hr <;> simp [hr]) x y hx (by rw [Nat.zero_add];exact hy)
 ·cases h
theorem EM {Ts hp:List SB} {os:List BE} (h:nS σ Ts hp=some os) (ho:∀o∈os,o.den ρ=true) {w:World} (hh:aN ρ ν hp w):aN (σ.env ρ ν) (σ.fQ ρ ν) Ts w:=by
 refine ⟨fun i j T U hi hj hT hU hr he=>?_,fun k T hk hT hr=>?_,fun k T hk hT hr=>?_⟩
 ·obtain ⟨a,A,hA⟩:=oo h ho hi hT
  obtain ⟨b,B,hB⟩:=oo h ho hj hU
  by_cases hne:i=j
  ·exact hne
  ·exfalso
   have hxy:=MG h hi hj hne (SB.dO hT) (SB.dO hU) (.inl hr) hA.aI hB.aI
   rw [hA.fQ,hB.fQ,block_add,block_add] at he
   exact hxy (hh.inj _ _ A B hA.hp hB.hp hA.live hB.live (hA.ro hr).1 he)
 ·obtain ⟨a,A,hA⟩:=oo h ho hk hT
  obtain ⟨h1,h2⟩:=hA.ro hr
  obtain ⟨h0,arr,h3,h4⟩:=hh.aI _ A hA.hp hA.live h1
  rw [hA.fQ,h2,Addr.add_zero]
  exact ⟨h0,arr,by rw [hA.t];exact h3,hA.rw_ hr arr h4⟩
 ·obtain ⟨a,A,hA⟩:=oo h ho hk hT
  obtain ⟨arr,h1,h2⟩:=hh.cells hA.hp hA.live (hA.mp hr)
  obtain ⟨mf,h3,h4⟩:=hA.rd arr h1
  rw [hA.fQ]
  refine ⟨by rw [block_add];exact (hh.Zp hA.hp hA.live (hA.mp hr)).of (hA.sg hr) hA.t (Nat.le_refl _) rfl,mf,h3,fun p v hp=>?_⟩
  rw [Addr.add_add]
  exact h2 _ _ (h4 p v hp)
end
end Go.Rex
namespace Go.Rex
def Sub.qf (σ:Sub) (t e:IE):Sub :=
 match t with
 | .var i=>if Nat.blt i σ.lo then σ else match assoc i σ.iv with | some _=>σ | none=>{σ with iv:=(i,e) :: σ.iv}
 | _=>σ
def Sub.xk (σ:Sub) (t e:BE):Sub :=
 match t with
 | .var i=>if Nat.blt i σ.lo then σ else match assoc i σ.bv with | some _=>σ | none=>{σ with bv:=(i,e) :: σ.bv}
 | _=>σ
def Sub.IX (σ:Sub) (t:Nat) (a:SA):Sub :=
 if Nat.blt t σ.az then σ else match assoc t σ.bk with | some _=>σ | none=>{σ with bk:=(t,a) :: σ.bk}
def Sub.MH (σ:Sub) (t a:SA):Sub :=
 match t.i1 with
 | .var o=>(σ.IX t.aI {a with i1:=.lit 0}).qf (.var o) a.i1
 | _=>σ.IX t.aI a
def WE (σ:Sub):List Nat→List Nat→Sub
 | a :: r,b :: s=>WE (σ.IX a {aI:=b}) r s
 | _,_=>σ
def OH (σ:Sub):SC→SC→Sub
 | .int _ e,.int _ f=>σ.qf e f
 | .bool e,.bool f=>σ.xk e f
 | .val i,c=>if Nat.blt i σ.lo then σ else match assoc i σ.vv with | some _=>σ | none=>{σ with vv:=(i,c) :: σ.vv}
 | .ptr a,.ptr b=>σ.MH a b
 | .sl a l c,.sl b m d=>((σ.MH a b).qf l m).qf c d
 | .fF k a l c,.sl b m d=>(((σ.xk k (.lit false)).MH a b).qf l m).qf c d
 | .fF k a l c,.fF k' b m d=>(((σ.xk k k').MH a b).qf l m).qf c d
 | .fF k a l c,.bT=>let K5:=((σ.xk k (.lit true)).qf l (.lit 0)).qf c (.lit 0);{K5 with nb:=a.aI :: K5.nb}
 | .fn _ a,.fn _ b=>WE σ a b
 | .iface _ c,.iface _ d=>OH σ c d
 | .jd k c,.jd k' d=>OH (σ.xk k k') c d
 | .jd k c,.dD=>let K5:=σ.xk k (.lit true);match c with | .iface _ (.ptr a)=>{K5 with nb:=a.aI :: K5.nb} | _=>K5
 | .jd k (.iface _ c),.iface _ d=>OH (σ.xk k (.lit false)) c d
 | .mp a,.mp b=>σ.IX a {aI:=b}
 | _,_=>σ
def Rh (σ:Sub):List SC→List SC→Sub
 | a :: r,b :: s=>Rh (OH σ a b) r s
 | _,_=>σ
def WG (σ:Sub):SW→SW→Sub
 | .one a,.one b=>OH σ a b
 | .agg a,.agg b=>Rh σ a b
 | _,_=>σ
def MI (σ:Sub):List SW→List SW→Sub
 | a :: r,b :: s=>MI (WG σ a b) r s
 | _,_=>σ
def WH (σ:Sub):SV→SV→Sub
 | .w a,.w b=>WG σ a b
 | .je a,.je b=>MI σ a b
 | .gd c a,.gd d b=>WG (σ.xk c d) a b
 | _,_=>σ
def Sub.WI (σ:Sub) (r:Nat) (c:CV):Sub :=
 if Nat.blt r σ.lo then σ else match assoc r σ.ct with | some _=>σ | none=>{σ with ct:=(r,c) :: σ.ct}
def MJ (σ:Sub) (A:SB) (a:SA):List aa→Nat→Sub
 | [],_=>σ
 | g :: r,gi =>
  match A.bf[gi]? with
  | some h=>MJ ((σ.qf g.n1 h.n1).WI g.r (.up h gi A.ups ((a.shift g.s1).getD (.lit 0)))) A a r (gi+1)
  | none=>let cs:=A.cs.drop (a.dH.getD 0);MJ ((σ.qf g.n1 (.lit (cs.length / g.s1:Nat))).WI g.r (.ex cs g.s1 g.s2 g.lo)) A a r (gi+1)
def YQ (σ:Sub) (T A:SB) (a:SA):Sub :=
 let σ:=Rh (σ.xk T.nl A.nl) T.cs A.cs
 let σ:=match T.cap,A.cap with | some (e,_),some (f,_)=>σ.qf e f | _,_=>σ
 MJ σ A a T.bf 0
def K6 (σ:Sub) (hp:List SB):List SB→Nat→Sub
 | [],_=>σ
 | T :: r,k =>
  if T.gone then K6 σ hp r (k+1)
  else if Nat.blt k σ.az then
   match hp[k]? with
   | some A=>K6 (if T.wk A && T.sc σ.lo σ.az then σ else YQ σ T A {aI:=k}) hp r (k+1)
   | none=>σ
  else match assoc k σ.bk with
   | some a=>match hp[a.aI]? with | some A=>K6 (YQ σ T A a) hp r (k+1) | none=>σ
   | none=>K6 σ hp r (k+1)
def EN (σ:Sub) (hp Ts:List SB):Sub:=K6 (K6 σ hp Ts 0) hp Ts 0
structure eH where
 f:FuncId
 nv:Nat
 gl:List (Nat × Nat):=[]
 args:List SW
 hp:List SB
 jL:Nat
 ret:SV
 hp':List SB
 deriving Inhabited
structure Tr where
 σ:Sub
 m:Nat
 d:Nat
 n:Nat
 n0:Nat
def iE {α β γ:Type} (f:α→β→γ):Option α→Option β→Option γ
 | some a,some b=>some (f a b)
 | _,_=>none
theorem gq {α β γ:Type} {f:α→β→γ} {x:Option α} {y:Option β} {z:γ} (h:iE f x y=some z):∃a b,x=some a∧y=some b∧z=f a b:=by
 cases x <;> cases y <;> simp [iE] at h
 exact ⟨_,_,rfl,rfl,h.symm⟩
def IE.tr (t:Tr):IE→Option IE
 | .lit n=>some (.lit n)
 | .var i=>if Nat.blt i t.m then assoc i t.σ.iv else some (.var (i-t.m+t.d))
 | .add a b=>iE .add (a.tr t) (b.tr t)
 | .sub a b=>iE .sub (a.tr t) (b.tr t)
 | .mul a b=>iE .mul (a.tr t) (b.tr t)
 | .div a b=>iE .div (a.tr t) (b.tr t)
 | .mod a b=>iE .mod (a.tr t) (b.tr t)
 | .wrap k a=>(a.tr t).map (.wrap k)
 | .pV a b=>iE .pV (a.tr t) (b.tr t)
 | .imax a b=>iE .imax (a.tr t) (b.tr t)
 | .cell r a b j=>if Nat.blt r t.m then none else iE (fun a b=>.cell (r-t.m+t.d) a b j) (a.tr t) (b.tr t)
def BE.tr (t:Tr):BE→Option BE
 | .lit n=>some (.lit n)
 | .var i=>if Nat.blt i t.m then assoc i t.σ.bv else some (.var (i-t.m+t.d))
 | .not a=>(a.tr t).map .not
 | .and a b=>iE .and (a.tr t) (b.tr t)
 | .or a b=>iE .or (a.tr t) (b.tr t)
 | .ite c a b=>match c.tr t,a.tr t,b.tr t with | some c,some a,some b=>some (.ite c a b) | _,_,_=>none
 | .aC a b=>iE .aC (IE.tr t a) (IE.tr t b)
 | .aA a b=>iE .aA (IE.tr t a) (IE.tr t b)
 | .bS a b=>iE .bS (IE.tr t a) (IE.tr t b)
 | .beq a b=>iE .beq (a.tr t) (b.tr t)
 | .inr k a=>(IE.tr t a).map (.inr k)
 | .cell r a b j=>if Nat.blt r t.m then none else iE (fun a b=>.cell (r-t.m+t.d) a b j) (IE.tr t a) (IE.tr t b)
def IY (t:Tr) (k:Nat):Option Nat :=
 if Nat.blt k t.n then match assoc k t.σ.bk with | some a=>if a.base then some a.aI else none | none=>none
 else some (k-t.n+t.n0)
def SA.tr (t:Tr) (a:SA):Option SA :=
 match IY t a.aI,a.i1.tr t,a.i2.tr t with
 | some b,some i1,some i2=>some {a with aI:=b,i1:=i1,i2:=i2}
 | _,_,_=>none
def Hr (t:Tr):List Nat→Option (List Nat)
 | []=>some []
 | k :: r=>iE List.cons (IY t k) (Hr t r)
def SC.tr (t:Tr):SC→Option SC
 | .int k e=>(e.tr t).map (.int k)
 | .bool b=>(b.tr t).map .bool
 | .str l=>some (.str l)
 | .val i=>if Nat.blt i t.m then (match assoc i t.σ.vv with | some c=>if c.isHole then none else some c | none=>none) else some (.val (i-t.m+t.d))
 | .jR r a b j=>if Nat.blt r t.m then none else iE (fun a b=>.jR (r-t.m+t.d) a b j) (a.tr t) (b.tr t)
 | .ptr a=>(a.tr t).map .ptr
 | .bM=>some .bM
 | .sl a l c=>match a.tr t,l.tr t,c.tr t with | some a,some l,some c=>some (.sl a l c) | _,_,_=>none
 | .bT=>some .bT
 | .fF k a l c=>match k.tr t,a.tr t,l.tr t,c.tr t with | some k,some a,some l,some c=>some (.fF k a l c) | _,_,_,_=>none
 | .fn f jV=>(Hr t jV).map (.fn f)
 | .aO=>some .aO
 | .iface u c=>(c.tr t).map (.iface u)
 | .jd k c=>match k.tr t,c.tr t with | some k,some c=>some (.jd k c) | _,_=>none
 | .mp b=>(IY t b).map .mp
 | .qH=>some .qH
 | .rt t b o=>some (.rt t b o)
 | .dD=>some .dD
 | .hole=>some .hole
def xm (t:Tr):List SC→Option (List SC)
 | []=>some []
 | c :: r=>iE List.cons (c.tr t) (xm t r)
def SW.tr (t:Tr):SW→Option SW
 | .one c=>(c.tr t).map .one
 | .agg cs=>(xm t cs).map .agg
def Ht (t:Tr):List SW→Option (List SW)
 | []=>some []
 | c :: r=>iE List.cons (c.tr t) (Ht t r)
def SV.tr (t:Tr):SV→Option SV
 | .w x=>(x.tr t).map .w
 | .je xs=>(Ht t xs).map .je
 | .gd c x=>iE .gd (c.tr t) (x.tr t)
def yX (t:Tr):List aa→Option (List aa)
 | []=>some []
 | g :: r=>if Nat.blt g.r t.m then none else iE (fun n s=>{g with r:=g.r-t.m+t.d,n1:=n} :: s) (g.n1.tr t) (yX t r)
def SB.tr (t:Tr) (b:SB):Option SB :=
 if b.gone then some dJ
 else if b.ups.isEmpty then
  match xm t b.cs,yX t b.bf,b.nl.tr t with
  | some cs,some bf,some nl =>
   match b.cap with
   | none=>some {b with cs:=cs,bf:=bf,nl:=nl}
   | some (e,n)=>match e.tr t with | some e=>some {b with cs:=cs,bf:=bf,nl:=nl,cap:=some (e,n)} | none=>none
  | _,_,_=>none
 else none
structure YR (t:Tr) (dB ρ':Env) (fG aQ:Nat→Addr):Prop where
 i:∀i e,i<t.m→assoc i t.σ.iv=some e→e.den ρ'=dB.iv i
 b:∀i e,i<t.m→assoc i t.σ.bv=some e→e.den ρ'=dB.bv i
 v:∀i e,i<t.m→assoc i t.σ.vv=some e→e.den ρ' aQ=dB.vv i
 iv:∀i,t.m≤i→ρ'.iv (i-t.m+t.d)=dB.iv i
 bv:∀i,t.m≤i→ρ'.bv (i-t.m+t.d)=dB.bv i
 vv:∀i,t.m≤i→ρ'.vv (i-t.m+t.d)=dB.vv i
 ic:∀i,t.m≤i→ρ'.ic (i-t.m+t.d)=dB.ic i
 bc:∀i,t.m≤i→ρ'.bc (i-t.m+t.d)=dB.bc i
 vc:∀i,t.m≤i→ρ'.vc (i-t.m+t.d)=dB.vc i
 bo:∀k a,k<t.n→assoc k t.σ.bk=some a→a.base=true→aQ a.aI=fG k
 bn:∀k,t.n≤k→aQ (k-t.n+t.n0)=fG k
section
variable {t:Tr} {dB ρ':Env} {fG aQ:Nat→Addr} (H:YR t dB ρ' fG aQ)
include H
theorem IE.dw:∀{e e':IE},e.tr t=some e'→e'.den ρ'=e.den dB:=by
 intro e
 induction e with
 | lit n=>intro e' h;simp [IE.tr] at h;subst h;rfl
 | var i =>
  intro e' h
  simp only [IE.tr] at h
  split at h
  ·rename_i hi;exact H.i i e' (by simpa using hi) h
  ·rename_i hi
   simp at h
   subst h
   exact H.iv i (by simpa using hi)
 | add a b iha ihb | sub a b iha ihb | mul a b iha ihb | div a b iha ihb | mod a b iha ihb | pV a b iha ihb | imax a b iha ihb =>
  intro e' h
  obtain ⟨x,y,h1,h2,rfl⟩:=gq h
  simp only [IE.den,iha h1,ihb h2]
 | wrap k a ih =>
  intro e' h
  simp only [IE.tr,Option.map_eq_some_iff] at h
  obtain ⟨x,h1,rfl⟩:=h
  simp only [IE.den,ih h1]
 | cell r a b j iha ihb =>
  intro e' h
  simp only [IE.tr] at h
  split at h
  ·cases h
  ·rename_i hr
   obtain ⟨x,y,h1,h2,rfl⟩:=gq h
   simp only [IE.den,iha h1,ihb h2,H.ic r (by simpa using hr)]
theorem BE.dw:∀{e e':BE},e.tr t=some e'→e'.den ρ'=e.den dB:=by
 intro e
 induction e with
 | lit n=>intro e' h;simp [BE.tr] at h;subst h;rfl
 | var i =>
  intro e' h
  simp only [BE.tr] at h
  split at h
  ·rename_i hi;exact H.b i e' (by simpa using hi) h
  ·rename_i hi
   simp at h
   subst h
   exact H.bv i (by simpa using hi)
 | and a b iha ihb | or a b iha ihb | beq a b iha ihb =>
  intro e' h
  obtain ⟨x,y,h1,h2,rfl⟩:=gq h
  simp only [BE.den,iha h1,ihb h2]
 | aC a b | aA a b | bS a b =>
  intro e' h
  obtain ⟨x,y,h1,h2,rfl⟩:=gq h
  simp only [BE.den,IE.dw H h1,IE.dw H h2]
 | not a ih =>
  intro e' h
  simp only [BE.tr,Option.map_eq_some_iff] at h
  obtain ⟨x,h1,rfl⟩:=h
  simp only [BE.den,ih h1]
 | inr k a =>
  intro e' h
  simp only [BE.tr,Option.map_eq_some_iff] at h
  obtain ⟨x,h1,rfl⟩:=h
  simp only [BE.den,IE.dw H h1]
 | ite c a b WA iha ihb =>
  intro e' h
  simp only [BE.tr] at h
  split at h
  ·rename_i x y z h1 h2 h3
   simp at h
   subst h
   simp only [BE.den,WA h1,iha h2,ihb h3]
  ·cases h
 | cell r a b j =>
  intro e' h
  simp only [BE.tr] at h
  split at h
  ·cases h
  ·rename_i hr
   obtain ⟨x,y,h1,h2,rfl⟩:=gq h
   simp only [BE.den,IE.dw H h1,IE.dw H h2,H.bc r (by simpa using hr)]
theorem EO {k b:Nat} (h:IY t k=some b):aQ b=fG k:=by
 unfold IY at h
 split at h
 ·rename_i hk
  split at h
  ·rename_i a ha
   split at h
   ·rename_i hb
    simp at h
    subst h
    exact H.bo k a (by simpa using hk) ha hb
   ·cases h
  ·cases h
 ·rename_i hk
  simp at h
  subst h
  exact H.bn k (by simpa using hk)
theorem SA.dw {a a':SA} (h:a.tr t=some a'):a'.den ρ' aQ=a.den dB fG:=by
 unfold SA.tr at h
 split at h
 ·rename_i b i1 i2 h1 h2 h3
  simp at h
  subst h
  simp only [SA.den,SA.off,EO H h1,IE.dw H h2,IE.dw H h3]
 ·cases h
theorem IZ:∀{l l':List Nat},Hr t l=some l'→l'.map aQ=l.map fG
 | [],l',h=>by simp [Hr] at h;subst h;rfl
 | k :: r,l',h=>by
  obtain ⟨x,y,h1,h2,rfl⟩:=gq h
  simp only [List.map_cons,EO H h1,IZ h2]
theorem SC.dw:∀{c c':SC},c.tr t=some c'→c'.den ρ' aQ=c.den dB fG∧(c.isHole=false→c'.isHole=false)∧(c.isHole=true→c'.isHole=true):=by
 intro c
 induction c with
 | int k e =>
  intro c' h
  simp only [SC.tr,Option.map_eq_some_iff] at h
  obtain ⟨x,h1,rfl⟩:=h
  exact ⟨by simp only [SC.den,IE.dw H h1],fun _=>rfl,fun h=>by cases h⟩
 | bool e =>
  intro c' h
  simp only [SC.tr,Option.map_eq_some_iff] at h
  obtain ⟨x,h1,rfl⟩:=h
  exact ⟨by simp only [SC.den,BE.dw H h1],fun _=>rfl,fun h=>by cases h⟩
 | val i =>
  intro c' h
  simp only [SC.tr] at h
  split at h
  ·rename_i hi
   split at h
   ·rename_i c hc
    split at h
    ·cases h
    ·rename_i hh
     simp at h
     subst h
     have:=H.v i c (by simpa using hi) hc
     refine ⟨?_,fun _=>by simpa using hh,fun h=>by cases h⟩
     simp only [SC.den,←this]
     exact (zT (SC.su c (by simpa using hh))).symm
   ·cases h
  ·rename_i hi
   simp at h
   subst h
   exact ⟨by simp only [SC.den,H.vv i (by simpa using hi)],fun _=>rfl,fun h=>by cases h⟩
 | jR r a b j =>
  intro c' h
  simp only [SC.tr] at h
  split at h
  ·cases h
  ·rename_i hr
   obtain ⟨x,y,h1,h2,rfl⟩:=gq h
   exact ⟨by simp only [SC.den,IE.dw H h1,IE.dw H h2,H.vc r (by simpa using hr)],fun _=>rfl,fun h=>by cases h⟩
 | ptr a =>
  intro c' h
  simp only [SC.tr,Option.map_eq_some_iff] at h
  obtain ⟨x,h1,rfl⟩:=h
  exact ⟨by simp only [SC.den,SA.dw H h1],fun _=>rfl,fun h=>by cases h⟩
 | sl a l c =>
  intro c' h
  simp only [SC.tr] at h
  split at h
  ·rename_i x y z h1 h2 h3
   simp at h
   subst h
   exact ⟨by simp only [SC.den,SA.dw H h1,IE.dw H h2,IE.dw H h3],fun _=>rfl,fun h=>by cases h⟩
  ·cases h
 | fF k a l c =>
  intro c' h
  simp only [SC.tr] at h
  split at h
  ·rename_i k x y z h0 h1 h2 h3
   simp at h
   subst h
   exact ⟨by simp only [SC.den,BE.dw H h0,SA.dw H h1,IE.dw H h2,IE.dw H h3],fun _=>rfl,fun h=>by cases h⟩
  ·cases h
 | fn f jV =>
  intro c' h
  simp only [SC.tr,Option.map_eq_some_iff] at h
  obtain ⟨x,h1,rfl⟩:=h
  have:=IZ H h1
  refine ⟨?_,fun _=>rfl,fun h=>by cases h⟩
  simp only [SC.den]
  have e:∀(μ:Nat→Addr) (l:List Nat),(l.map fun b=>Value.pointer (some (μ b)))=(l.map μ).map fun a=>Value.pointer (some a):=fun μ l=>by simp
  rw [e,e,this]
 | iface u c ih =>
  intro c' h
  simp only [SC.tr,Option.map_eq_some_iff] at h
  obtain ⟨x,h1,rfl⟩:=h
  exact ⟨by simp only [SC.den,(ih h1).1],fun _=>rfl,fun h=>by cases h⟩
 | jd k c ih =>
  intro c' h
  simp only [SC.tr] at h
  split at h
  ·rename_i k' x h0 h1
   simp at h
   subst h
   obtain ⟨i1,i2,i3⟩:=ih h1
   exact ⟨by simp only [SC.den,BE.dw H h0,i1],i2,i3⟩
  ·cases h
 | mp b =>
  intro c' h
  simp only [SC.tr,Option.map_eq_some_iff] at h
  obtain ⟨x,h1,rfl⟩:=h
  exact ⟨by simp only [SC.den,EO H h1],fun _=>rfl,fun h=>by cases h⟩
 | _ =>
  intro c' h
  simp only [SC.tr,Option.some.injEq] at h
  subst h
  exact ⟨rfl,fun h=>h,fun h=>h⟩
theorem I1:∀{l l':List SC},xm t l=some l'→l'.length=l.length∧∀(p:Nat) (c':SC),l'[p]?=some c'→∃c,l[p]?=some c∧c.tr t=some c'
 | [],l',h=>by have _:=H;simp [xm] at h;subst h;exact ⟨rfl,fun p c h=>by simp at h⟩
 | c :: r,l',h=>by
  obtain ⟨x,y,h1,h2,rfl⟩:=gq h
  obtain ⟨h3,h4⟩:=I1 h2
  refine ⟨by simp [h3],fun p c' hp=>?_⟩
  cases p with
  | zero=>simp at hp;subst hp;exact ⟨c,rfl,h1⟩
  | succ p=>simpa using h4 p c' (by simpa using hp)
theorem F8:∀{l l':List SC},xm t l=some l'→l'.map (·.den ρ' aQ)=l.map (·.den dB fG)
 | [],l',h=>by simp [xm] at h;subst h;rfl
 | c :: r,l',h=>by
  obtain ⟨x,y,h1,h2,rfl⟩:=gq h
  simp only [List.map_cons,(SC.dw H h1).1,F8 h2]
theorem SW.dw {x x':SW} (h:x.tr t=some x'):x'.den ρ' aQ=x.den dB fG:=by
 cases x <;> simp only [SW.tr,Option.map_eq_some_iff] at h <;> obtain ⟨y,h1,rfl⟩:=h
 ·exact (SC.dw H h1).1
 ·simp only [SW.den,F8 H h1]
theorem F9:∀{l l':List SW},Ht t l=some l'→l'.map (·.den ρ' aQ)=l.map (·.den dB fG)
 | [],l',h=>by simp [Ht] at h;subst h;rfl
 | c :: r,l',h=>by
  obtain ⟨x,y,h1,h2,rfl⟩:=gq h
  simp only [List.map_cons,SW.dw H h1,F9 h2]
theorem SV.dw {x x':SV} (h:x.tr t=some x'):x'.den ρ' aQ=x.den dB fG:=by
 cases x <;> simp only [SV.tr] at h
 ·simp only [Option.map_eq_some_iff] at h
  obtain ⟨y,h1,rfl⟩:=h
  exact SW.dw H h1
 ·simp only [Option.map_eq_some_iff] at h
  obtain ⟨y,h1,rfl⟩:=h
  simp only [SV.den,F9 H h1]
 ·obtain ⟨y,z,h1,h2,rfl⟩:=gq h
  simp only [SV.den,BE.dw H h1,SW.dw H h2]
theorem Ga:∀{l l':List aa},yX t l=some l'→(l=[]↔l'=[])∧∀(p:Nat) (g':aa),l'[p]?=some g'→∃g n,l[p]?=some g∧t.m≤g.r∧g.n1.tr t=some n∧g'={g with r:=g.r-t.m+t.d,n1:=n}
 | [],l',h=>by have _:=H;simp [yX] at h;subst h;exact ⟨Iff.rfl,fun p c h=>by simp at h⟩
 | g :: r,l',h=>by
  simp only [yX] at h
  split at h
  ·cases h
  rename_i hr
  obtain ⟨x,y,h1,h2,rfl⟩:=gq h
  obtain ⟨-,h4⟩:=Ga h2
  refine ⟨by simp,fun p c' hp=>?_⟩
  cases p with
  | zero=>simp at hp;subst hp;exact ⟨g,x,rfl,by simpa using hr,h1,rfl⟩
  | succ p=>simpa using h4 p c' (by simpa using hp)
theorem SB.Ub {b b':SB} (h:b.tr t=some b') (hg:b'.gone=false):b.gone=false∧b'.t=b.t∧b'.ro=b.ro∧b'.own=b.own∧b'.nl.den ρ'=b.nl.den dB∧∀arr,b.has dB fG arr→b'.has ρ' aQ arr:=by
 unfold SB.tr at h
 split at h
 ·simp at h;subst h;cases hg
 rename_i hbg
 split at h
 case isFalse=>cases h
 rename_i hu
 have hu':b.ups=[]:=by simpa using hu
 split at h
 case h_2=>cases h
 rename_i cs bf nl h1 h2 h3
 obtain ⟨c1,c2⟩:=I1 H h1
 obtain ⟨s1,s2⟩:=Ga H h2
 have key:∀b2:SB,b2.cs=cs→b2.bf=bf→b2.ups=b.ups→b2.opn=b.opn→(∀e n,b2.cap=some (e,n)→∃e0,b.cap=some (e0,n)∧e0.tr t=some e)→∀arr,b.has dB fG arr→b2.has ρ' aQ arr:=by
  intro b2 e1 e2 e3 e4 e5 arr hb
  refine ⟨fun u hu=>(by rw [e3,hu'] at hu;cases hu),fun hs ho=>?_,fun e n he=>?_,fun p c hp hh=>?_,fun gi g hgi i1 i2 j a1 a2 a3=>?_⟩
  ·rw [e1,c1]
   exact hb.size (s1.2 (e2 ▸ hs)) (e4 ▸ ho)
  ·obtain ⟨e0,h5,h6⟩:=e5 e n he
   rw [IE.dw H h6]
   exact hb.cap e0 n h5
  ·obtain ⟨c0,h5,h6⟩:=c2 p c (e1 ▸ hp)
   obtain ⟨h7,-,h9⟩:=SC.dw H h6
   rw [h7]
   refine hb.ex p c0 h5 ?_
   cases hc:c0.isHole with
   | false=>rfl
   | true=>rw [h9 hc] at hh;cases hh
  ·obtain ⟨g0,n,h5,h6,h7,rfl⟩:=s2 gi g (e2 ▸ hgi)
   simp only [IE.dw H h7] at a1
   have:=hb.sg gi g0 h5 i1 i2 j a1 a2 a3
   rw [hu'] at this
   rw [e3,hu']
   simp only [cO] at this ⊢
   rw [this]
   simp only [aa.base,H.ic _ h6,H.bc _ h6,H.vc _ h6]
 split at h
 ·rename_i hcap
  simp at h
  subst h
  exact ⟨by simpa using hbg,rfl,rfl,rfl,BE.dw H h3,key _ rfl rfl rfl rfl (fun e n he=>by rw [hcap] at he;cases he)⟩
 ·rename_i e n hcap
  split at h
  ·rename_i e' he'
   simp at h
   subst h
   refine ⟨by simpa using hbg,rfl,rfl,rfl,BE.dw H h3,key _ rfl rfl rfl rfl (fun e1 n1 he=>?_)⟩
   simp at he
   exact ⟨e,by rw [hcap,he.2],by rw [←he.1];exact he'⟩
  ·cases h
end
end Go.Rex
