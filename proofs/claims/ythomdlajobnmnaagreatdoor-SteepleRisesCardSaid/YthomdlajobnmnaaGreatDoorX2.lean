/- part 2 of the proof -/
import Derived.Test.YthomdlajobnmnaaGreatDoorX1
set_option linter.unusedSimpArgs false
set_option linter.unusedVariables false
namespace Go.Rex
inductive CV where
 | up (g:aU) (gi:Nat) (us:List Up) (sh:IE)
 | ex (cs:List SC) (s1 s2 lo:Nat)
 deriving Inhabited
def SC.I (ρ:Env):SC->Int
 | .int _ e=>e.den ρ
 | _=>0
def SC.B (ρ:Env):SC->Bool
 | .bool b=>b.den ρ
 | _=>false
def uI (ρ:Env):List Up->Nat->Nat->Nat->Nat->Int->Int
 | [],_,_,_,_,b=>b
 | u :: r,g,a,c,j,b =>
  if u.g=g/\(u.i1.den ρ).toNat=a/\(u.i2.den ρ).toNat=c/\u.j=j then u.c.I ρ else uI ρ r g a c j b
def uJ (ρ:Env):List Up->Nat->Nat->Nat->Nat->Bool->Bool
 | [],_,_,_,_,b=>b
 | u :: r,g,a,c,j,b =>
  if u.g=g/\(u.i1.den ρ).toNat=a/\(u.i2.den ρ).toNat=c/\u.j=j then u.c.B ρ else uJ ρ r g a c j b
def aU.I (ρ:Env) (g:aU) (a b j:Nat):Int:=if g.z then 0 else ρ.ic g.r a b j
def aU.B (ρ:Env) (g:aU) (a b j:Nat):Bool:=if g.z then false else ρ.bc g.r a b j
def CV.I (ρ:Env):CV->Nat->Nat->Nat->Int
 | .up g h d c,a,b,j=>uI ρ d h ((c.den ρ).toNat+a) b j (g.I ρ ((c.den ρ).toNat+a) b j)
 | .ex e s1 s2 f,a,b,j=>(e.getD (a * s1+b * s2+f+j) .hole).I ρ
def CV.B (ρ:Env):CV->Nat->Nat->Nat->Bool
 | .up g h d c,a,b,j=>uJ ρ d h ((c.den ρ).toNat+a) b j (g.B ρ ((c.den ρ).toNat+a) b j)
 | .ex e s1 s2 f,a,b,j=>(e.getD (a * s1+b * s2+f+j) .hole).B ρ
def CV.V (ρ:Env) (ν:Nat->Addr):CV->Nat->Nat->Nat->Value
 | .up g h d c,a,b,j=>dD ρ ν d h ((c.den ρ).toNat+a) b j (g.base ρ ((c.den ρ).toNat+a) b j)
 | .ex e s1 s2 f,a,b,j=>(e.getD (a * s1+b * s2+f+j) .hole).den ρ ν
def pI:Kd->SC->Bool
 | .int k,.int l _=>lX k l
 | .bool,.bool _=>true
 | .val,c=>!c.isHole
 | _,_=>false
def oK (a:List Kd) (gi:Nat):List Up->Bool
 | []=>true
 | u :: r=>(!(u.g == gi) || (match a[u.j]? with | some k=>pI k u.c | none=>true)) && oK a gi r
theorem Md {k:IntKind} {c:SC} (h:pI (.int k) c=true) (ρ:Env) (ν:Nat->Addr):c.den ρ ν=.int k (c.I ρ):=by
 cases c <;> simp [pI] at h
 rw [jK h];rfl
theorem IM {c:SC} (h:pI .bool c=true) (ρ:Env) (ν:Nat->Addr):c.den ρ ν=.bool (c.B ρ):=by
 cases c <;> simp [pI] at h
 rfl
theorem Me {c:SC} (h:pI .val c=true) (ρ:Env) (ν:Nat->Addr):(c.den ρ ν).oneCell'=true:=by
 grind [SC.vJ,pI,SC.isHole]
section
variable {ρ:Env} {ν:Nat->Addr} {l:List Kd} {gi:Nat}
theorem IP {k:IntKind} {c e j:Nat} {b:Int} (d:l[j]?=some (.int k)):∀{us:List Up},oK l gi us=true ->
  dD ρ ν us gi c e j (.int k b)=.int k (uI ρ us gi c e j b)
 | [],_=>rfl
 | u :: r,h=>by
  simp only [oK,Bool.and_eq_true,Bool.or_eq_true,Bool.not_eq_true',beq_eq_false_iff_ne,ne_eq] at h
  unfold dD uI
  split
  ·rename_i g
   obtain ⟨f,-,-,i⟩:=g
   rcases h.1 with a | a
   ·exact absurd f a
   ·rw [i,d] at a
    exact Md a ρ ν
  ·exact IP d h.2
theorem FL {c e j:Nat} {b:Bool} (d:l[j]?=some .bool):∀{us:List Up},oK l gi us=true ->
  dD ρ ν us gi c e j (.bool b)=.bool (uJ ρ us gi c e j b)
 | [],_=>rfl
 | u :: r,h=>by
  simp only [oK,Bool.and_eq_true,Bool.or_eq_true,Bool.not_eq_true',beq_eq_false_iff_ne,ne_eq] at h
  unfold dD uJ
  split
  ·rename_i g
   obtain ⟨f,-,-,i⟩:=g
   rcases h.1 with a | a
   ·exact absurd f a
   ·rw [i,d] at a
    exact IM a ρ ν
  ·exact FL d h.2
theorem IQ {e g j:Nat} {b:Value} (d:b.oneCell'=true) (c:l[j]?=some .val):∀{us:List Up},oK l gi us=true ->
  (dD ρ ν us gi e g j b).oneCell'=true
 | [],_=>d
 | u :: r,h=>by
  simp only [oK,Bool.and_eq_true,Bool.or_eq_true,Bool.not_eq_true',beq_eq_false_iff_ne,ne_eq] at h
  unfold dD
  split
  ·rename_i i
   obtain ⟨f,-,-,k⟩:=i
   rcases h.1 with a | a
   ·exact absurd f a
   ·rw [k,c] at a
    exact Me a ρ ν
  ·exact IQ d c h.2
def qB (a:Option Kd) (i:Int) (b:Bool) (v:Value):Value :=
 match a with
 | some (.int k)=>.int k i
 | some .bool=>.bool b
 | _=>CG v
theorem aU.Ku (g:aU) (c:g.z=false) (a b j:Nat):g.base ρ a b j=qB g.ks[j]? (ρ.ic g.r a b j) (ρ.bc g.r a b j) (ρ.vc g.r a b j):=by
 unfold aU.base qB
 rw [c]
 rfl
theorem Um {g:aU} {us:List Up} {b c j:Nat} (h:j<g.ks.length) (f:oK g.ks gi us=true) :
  dD ρ ν us gi b c j (g.base ρ b c j)=qB g.ks[j]? (uI ρ us gi b c j (g.I ρ b c j)) (uJ ρ us gi b c j (g.B ρ b c j)) (dD ρ ν us gi b c j (g.base ρ b c j)):=by
 have a:g.ks[j]?=some g.ks[j]:=List.getElem?_eq_getElem h
 cases e:g.ks[j] with
 | int k =>
  rw [e] at a
  have d:g.base ρ b c j=.int k (g.I ρ b c j):=by unfold aU.base;rw [a];rfl
  rw [a,d,IP a f]
  rfl
 | bool =>
  rw [e] at a
  have d:g.base ρ b c j=.bool (g.B ρ b c j):=by unfold aU.base;rw [a];rfl
  rw [a,d,FL a f]
  rfl
 | val =>
  grind [aU.base,Gi,qB,EK,IQ]
theorem WK {a:Kd} {c:SC} (h:pI a c=true):c.den ρ ν=qB (some a) (c.I ρ) (c.B ρ) (c.den ρ ν):=by
 cases a with
 | int k=>simpa [qB] using Md h ρ ν
 | bool=>simpa [qB] using IM h ρ ν
 | val=>simp only [qB];rw [EK (Me h ρ ν)]
end
structure Sub where
 lo:Nat
 ae:Nat
 iv:List (Nat × IE):=[]
 bv:List (Nat × BE):=[]
 vv:List (Nat × SC):=[]
 ct:List (Nat × CV):=[]
 bk:List (Nat × SA):=[]
 nb:List Nat:=[]
 deriving Inhabited
def Env.num (ρ:Env):Env:={ρ with vv:=λ_=>undef,vc:=λ_ _ _ _=>undef}
def Sub.bT (σ:Sub) (ρ:Env):Env where
 iv:=λi=>if i<σ.lo then ρ.iv i else match assoc i σ.iv with | some e=>e.den ρ | none=>0
 bv:=λi=>if i<σ.lo then ρ.bv i else match assoc i σ.bv with | some e=>e.den ρ | none=>false
 ic:=λr=>if r<σ.lo then ρ.ic r else match assoc r σ.ct with | some c=>c.I ρ | none=>λ_ _ _=>0
 bc:=λr=>if r<σ.lo then ρ.bc r else match assoc r σ.ct with | some c=>c.B ρ | none=>λ_ _ _=>false
def Sub.env (σ:Sub) (ρ:Env) (ν:Nat->Addr):Env :=
 {σ.bT ρ with
   vv:=λi=>if i<σ.lo then ρ.vv i else match assoc i σ.vv with | some e=>e.den ρ ν | none=>undef
   vc:=λr=>if r<σ.lo then ρ.vc r else match assoc r σ.ct with | some c=>c.V ρ ν | none=>λ_ _ _=>undef}
def Sub.eX (σ:Sub) (ρ:Env) (ν:Nat->Addr):Nat->Addr :=
 λk=>if k<σ.ae then ν k else match assoc k σ.bk with | some a=>a.den ρ ν | none=>⟨0,0,none⟩
theorem Sub.gZ (σ:Sub) (ρ:Env) (ν:Nat->Addr):bY σ.lo σ.ae ρ (σ.env ρ ν) ν (σ.eX ρ ν) :=
 ⟨λi a=>by simp [Sub.env,Sub.bT,a],λi a=>by simp [Sub.env,Sub.bT,a],λi a=>by simp [Sub.env,a],λi a=>by simp [Sub.env,Sub.bT,a],
  λi a=>by simp [Sub.env,Sub.bT,a],λi a=>by simp [Sub.env,a],λi a=>by simp [Sub.eX,a]⟩
def C9 (σ:Sub) (t e:IE):Bool :=
 match t with
 | .var i=>if Nat.blt i σ.lo then t.same e else match assoc i σ.iv with | some x=>x.same e | none=>false
 | _=>t.same e && t.sc σ.lo
def Cj (σ:Sub) (t e:BE):Bool :=
 match t with
 | .var i=>if Nat.blt i σ.lo then t.same e else match assoc i σ.bv with | some x=>x.same e | none=>false
 | _=>t.same e && t.sc σ.lo
def IE.RP:IE->Bool
 | .lit 0=>true
 | _=>false
theorem IE.IU {ρ:Env} {a:IE} (h:a.RP=true):a.den ρ=0:=by
 unfold IE.RP at h
 split at h
 ·rfl
 ·cases h
def RQ (σ:Sub) (t a:SA):Bool :=
 if Nat.blt t.ak σ.ae then t.same a && t.sc σ.lo σ.ae
 else match t.i1 with
  | .var o=>C9 σ (.var o) a.i1 && t.s1 == a.s1 && t.i2.RP && a.i2.RP && t.j == 0 && a.j == 0 && (match assoc t.ak σ.bk with | some x=>x.ak == a.ak && x.i1.RP && x.i2.RP && x.j == 0 | none=>false)
  | _=>(match t.dM with | some 0=>true | _=>false) && (match assoc t.ak σ.bk with | some x=>x.same a | none=>false)
def RU (σ:Sub) (t b:Nat):Bool :=
 if Nat.blt t σ.ae then t == b else match assoc t σ.bk with | some x=>x.same {ak:=b} | none=>false
def Kv (σ:Sub):List Nat->List Nat->Bool
 | [],[]=>true
 | a :: r,b :: s=>RU σ a b && Kv σ r s
 | _,_=>false
def kF (σ:Sub):SC->SC->Bool
 | .int k e,.int l f=>lX k l && C9 σ e f
 | .bool e,.bool f=>Cj σ e f
 | .val i,c=>if Nat.blt i σ.lo then (SC.val i).same c else match assoc i σ.vv with | some x=>x.same c && !c.isHole | none=>false
 | .ptr a,.ptr b=>RQ σ a b
 | .sl a l c,.sl b m d=>RQ σ a b && C9 σ l m && C9 σ c d
 | .eu k a l c,.sl b m d=>Cj σ k (.lit false) && RQ σ a b && C9 σ l m && C9 σ c d
 | .eu k a l c,.eu h b m d=>Cj σ k h && RQ σ a b && C9 σ l m && C9 σ c d
 | .eu k _ _ _,.dA=>Cj σ k (.lit true)
 | .fn f a,.fn g b=>f == g && Kv σ a b
 | .iface t c,.iface u d=>t == u && kF σ c d
 | .jH k c,.jH h d=>Cj σ k h && kF σ c d
 | .jH k _,.dW=>Cj σ k (.lit true)
 | .jH k c,.iface u d=>Cj σ k (.lit false) && kF σ c (.iface u d)
 | .mp a,.mp b=>RU σ a b
 | t,c=>t.same c && t.sc σ.lo σ.ae
def Kw (σ:Sub):List SC->List SC->Bool
 | [],[]=>true
 | a :: r,b :: s=>kF σ a b && Kw σ r s
 | _,_=>false
def WL (σ:Sub):SW->SW->Bool
 | .one a,.one b=>kF σ a b
 | .agg a,.agg b=>Kw σ a b
 | _,_=>false
def Gt (σ:Sub):List SW->List SW->Bool
 | [],[]=>true
 | a :: r,b :: s=>WL σ a b && Gt σ r s
 | _,_=>false
def mSV (σ:Sub):SV->SV->Bool
 | .w a,.w b=>WL σ a b
 | .iB a,.iB b=>Gt σ a b
 | .gd c a,.gd d b=>Cj σ c d && WL σ a b
 | _,_=>false
section
variable {ρ:Env} {ν:Nat->Addr} {σ:Sub}
theorem wB {t e:IE} (h:C9 σ t e=true):t.den (σ.env ρ ν)=e.den ρ:=by
 unfold C9 at h
 split at h
 ·rename_i i
  split at h
  ·rename_i a
   rw [<-IE.aA h]
   exact IE.aT (σ.gZ ρ ν) (e:=.var i) a
  ·rename_i a
   split at h
   ·rename_i x c
    have b:¬i<σ.lo:=by simpa using a
    all_goals grind [IE.den,Sub.env,Sub.bT,IE.aA]
   ·cases h
 ·simp only [Bool.and_eq_true] at h
  all_goals grind [IE.aA,IE.aT,Sub.gZ]
theorem qg {t e:BE} (h:Cj σ t e=true):t.den (σ.env ρ ν)=e.den ρ:=by
 unfold Cj at h
 split at h
 ·rename_i i
  split at h
  ·rename_i a
   rw [<-BE.aA h]
   exact BE.aT (σ.gZ ρ ν) (e:=.var i) a
  ·rename_i a
   split at h
   ·rename_i x c
    have b:¬i<σ.lo:=by simpa using a
    all_goals grind [BE.den,Sub.env,Sub.bT,BE.aA]
   ·cases h
 ·simp only [Bool.and_eq_true] at h
  all_goals grind [BE.aA,BE.aT,Sub.gZ]
theorem IV {t a:SA} (h:RQ σ t a=true):t.den (σ.env ρ ν) (σ.eX ρ ν)=a.den ρ ν:=by
 unfold RQ at h
 split at h
 ·simp only [Bool.and_eq_true] at h
  all_goals grind [SA.aA,SA.aT,Sub.gZ]
 ·rename_i e
  have c:¬t.ak<σ.ae:=by simpa using e
  split at h
  ·rename_i o k
   simp only [Bool.and_eq_true,beq_iff_eq] at h
   obtain ⟨⟨⟨⟨⟨⟨g,d⟩,m⟩,f⟩,i⟩,p⟩,b⟩:=h
   split at b
   ·rename_i x n
    simp only [Bool.and_eq_true,beq_iff_eq] at b
    obtain ⟨⟨⟨l,g2⟩,s⟩,j⟩:=b
    have q:=wB (ρ:=ρ) (ν:=ν) g
    have r:σ.eX ρ ν t.ak=ν a.ak:=by
     simp only [Sub.eX,if_neg c,n]
     simp [SA.den,SA.off,IE.IU g2,IE.IU s,j,l,Addr.add_zero]
    simp only [SA.den,SA.off,k,q,r,d,i,p,IE.IU m,IE.IU f,Int.toNat_zero,Nat.zero_mul]
   ·cases b
  simp only [Bool.and_eq_true] at h
  all_goals grind [SA.den,SA.df,Addr.add_zero,Sub.eX,SA.aA]
theorem OC {t b:Nat} (h:RU σ t b=true):σ.eX ρ ν t=ν b:=by
 unfold RU at h
 split at h
 ·rename_i c
  simp only [beq_iff_eq] at h
  subst h
  simp only [Sub.eX,if_pos (show t<σ.ae by simpa using c)]
 ·rename_i c
  have a:¬t<σ.ae:=by simpa using c
  split at h
  ·rename_i x d
   simp only [Sub.eX,if_neg a,d,SA.aA h]
   simp [SA.den,SA.off,IE.den,Addr.add_zero]
  ·cases h
theorem RV:∀{t b:List Nat},Kv σ t b=true->(t.map λk=>Value.pointer (some (σ.eX ρ ν k)))=b.map λk=>Value.pointer (some (ν k))
 | [],[],_=>rfl
 | [],_ :: _,h=>by simp [Kv] at h
 | _ :: _,[],h=>by simp [Kv] at h
 | a :: r,b :: s,h=>by
  simp only [Kv,Bool.and_eq_true] at h
  simp only [List.map_cons,OC (ρ:=ρ) (ν:=ν) h.1,RV h.2]
theorem IW:∀{t c:SC},kF σ t c=true->t.den (σ.env ρ ν) (σ.eX ρ ν)=c.den ρ ν:=by
 intro t
 have j:∀{t c:SC},(t.same c && t.sc σ.lo σ.ae)=true->t.den (σ.env ρ ν) (σ.eX ρ ν)=c.den ρ ν:=by
  intro t c h
  simp only [Bool.and_eq_true] at h
  all_goals grind [SC.aA,SC.aT,Sub.gZ]
 induction t with
 | int k e =>
  intro c h
  cases c with
  | int l f =>
   simp only [kF,Bool.and_eq_true] at h
   all_goals grind [SC.den,wB,jK]
  | _=>exact j (by simpa [kF] using h)
 | bool e =>
  intro c h
  cases c with
  | bool f =>
   grind [kF,SC.den,qg]
  | _=>exact j (by simpa [kF] using h)
 | val i =>
  intro c h
  simp only [kF] at h
  split at h
  ·rename_i n
   rw [<-SC.aA h]
   exact SC.aT (σ.gZ ρ ν) (c:=.val i) n
  ·rename_i n
   have q:¬i<σ.lo:=by simpa using n
   split at h
   ·rename_i x s
    simp only [Bool.and_eq_true,Bool.not_eq_true'] at h
    all_goals grind [SC.den,Sub.env,SC.aA,EK,SC.vJ]
   ·cases h
 | ptr a =>
  intro c h
  cases c with
  | ptr b =>
   grind [kF,SC.den,IV]
  | _=>exact j (by simpa [kF] using h)
 | sl a l k =>
  intro c h
  cases c with
  | sl b m d =>
   simp only [kF,Bool.and_eq_true] at h
   all_goals grind [SC.den,IV,wB]
  | _=>exact j (by simpa [kF] using h)
 | eu k a l x =>
  intro c h
  cases c with
  | sl b m d =>
   simp only [kF,Bool.and_eq_true] at h
   simp only [SC.den,qg (ν:=ν) h.1.1.1,BE.den,IV (ρ:=ρ) (ν:=ν) h.1.1.2,wB (ν:=ν) h.1.2,wB (ν:=ν) h.2]
   rfl
  | eu r b m d =>
   simp only [kF,Bool.and_eq_true] at h
   all_goals grind [SC.den,qg,IV,wB]
  | dA =>
   simp only [kF] at h
   simp only [SC.den,qg (ν:=ν) h,BE.den,if_true]
  | _=>exact j (by simpa [kF] using h)
 | fn f a =>
  intro c h
  cases c with
  | fn g b =>
   simp only [kF,Bool.and_eq_true,beq_iff_eq] at h
   simp only [SC.den,h.1,RV (ρ:=ρ) (ν:=ν) h.2]
  | _=>exact j (by simpa [kF] using h)
 | iface t x o =>
  intro c h
  cases c with
  | iface u d =>
   simp only [kF,Bool.and_eq_true,beq_iff_eq] at h
   simp only [SC.den,h.1,o h.2]
  | _=>exact j (by simpa [kF] using h)
 | jH k x o =>
  intro c h
  cases c with
  | jH r d =>
   simp only [kF,Bool.and_eq_true] at h
   all_goals grind [SC.den,qg]
  | dW =>
   simp only [kF] at h
   simp only [SC.den,qg (ν:=ν) h,BE.den,if_true]
  | iface u d =>
   simp only [kF,Bool.and_eq_true] at h
   have p:=o h.2
   simp only [SC.den,qg (ν:=ν) h.1,BE.den,Bool.false_eq_true,if_false] at p ⊢
   exact p
  | _=>exact j (by simpa [kF] using h)
 | mp a =>
  intro c h
  cases c with
  | mp b =>
   grind [kF,SC.den,OC]
  | _=>exact j (by simpa [kF] using h)
 | _ =>
  grind [kF]
theorem RX:∀{t c:List SC},Kw σ t c=true->(t.map λx=>x.den (σ.env ρ ν) (σ.eX ρ ν))=c.map λx=>x.den ρ ν
 | [],[],_=>rfl
 | [],_ :: _,h=>by simp [Kw] at h
 | _ :: _,[],h=>by simp [Kw] at h
 | a :: r,b :: s,h=>by
  simp only [Kw,Bool.and_eq_true] at h
  simp only [List.map_cons,IW h.1,RX h.2]
theorem OD {t x:SW} (h:WL σ t x=true):t.den (σ.env ρ ν) (σ.eX ρ ν)=x.den ρ ν:=by
 cases t <;> cases x <;> simp only [WL] at h
 all_goals grind [IW,SW.den,RX]
theorem Ky:∀{t c:List SW},Gt σ t c=true->(t.map λx=>x.den (σ.env ρ ν) (σ.eX ρ ν))=c.map λx=>x.den ρ ν
 | [],[],_=>rfl
 | [],_ :: _,h=>by simp [Gt] at h
 | _ :: _,[],h=>by simp [Gt] at h
 | a :: r,b :: s,h=>by
  simp only [Gt,Bool.and_eq_true] at h
  simp only [List.map_cons,OD h.1,Ky h.2]
theorem WM {t x:SV} (h:mSV σ t x=true):t.den (σ.env ρ ν) (σ.eX ρ ν)=x.den ρ ν:=by
 cases t <;> cases x <;> simp only [mSV] at h <;> try cases h
 ·exact OD h
 ·grind [SV.den,Ky]
 ·simp only [Bool.and_eq_true] at h
  all_goals grind [SV.den,qg,OD]
end
def Sub.ie (σ:Sub) (t:IE):Option IE :=
 match t with
 | .var i=>if Nat.blt i σ.lo then some t else assoc i σ.iv
 | _=>if t.sc σ.lo then some t else none
theorem Sub.abW {σ:Sub} {t e:IE} {ρ:Env} {ν:Nat->Addr} (h:σ.ie t=some e):t.den (σ.env ρ ν)=e.den ρ:=by
 unfold Sub.ie at h
 split at h
 ·rename_i i
  split at h
  ·rename_i b
   simp at h
   subst h
   exact IE.aT (σ.gZ ρ ν) (e:=.var i) b
  ·rename_i b
   have a:¬i<σ.lo:=by simpa using b
   simp only [IE.den,Sub.env,Sub.bT,if_neg a,h]
 ·split at h
  ·rename_i c
   simp at h
   subst h
   exact IE.aT (σ.gZ ρ ν) c
  ·cases h
def ET (cs:List SC):List Kd->Nat->Bool
 | [],_=>true
 | k :: r,p=>(match cs[p]? with | some c=>pI k c | none=>false) && ET cs r (p+1)
def IX (cs:List SC) (a:List Kd) (s2:Nat):Nat->Nat->Bool
 | 0,_=>true
 | n+1,p=>ET cs a p && IX cs a s2 n (p+s2)
def IY (cs:List SC) (a:List Kd) (s2 b s1:Nat):Nat->Nat->Bool
 | 0,_=>true
 | n+1,p=>IX cs a s2 b p && IY cs a s2 b s1 n (p+s1)
theorem Gu {cs:List SC}:∀{d:List Kd} {p:Nat},ET cs d p=true->∀(j:Nat) (k:Kd),d[j]?=some k->∃c,cs[p+j]?=some c/\pI k c=true
 | [],p,_,j,k,a=>by simp at a
 | x :: r,p,h,j,k,a=>by
  simp only [ET,Bool.and_eq_true] at h
  cases j with
  | zero =>
   simp at a
   subst a
   obtain ⟨h,-⟩:=h
   split at h
   ·rename_i c b;exact ⟨c,b,h⟩
   ·cases h
  | succ j =>
   obtain ⟨c,b,e⟩:=Gu h.2 j k (by simpa using a)
   exact ⟨c,by rw [<-b];congr 1;omega,e⟩
theorem Gv {cs:List SC} {a:List Kd} {s2:Nat}:∀{n p:Nat},IX cs a s2 n p=true->∀i,i<n->ET cs a (p+i * s2)=true
 | 0,_,_,i,b=>by omega
 | n+1,p,h,i,b=>by
  simp only [IX,Bool.and_eq_true] at h
  cases i with
  | zero=>simpa using h.1
  | succ i =>
   have:=Gv h.2 i (by omega)
   rwa [show p+s2+i * s2=p+(i+1) * s2 by rw [Nat.add_mul];omega] at this
theorem Gw {cs:List SC} {a:List Kd} {s2 b s1:Nat}:∀{n p:Nat},IY cs a s2 b s1 n p=true->∀i,i<n->IX cs a s2 b (p+i * s1)=true
 | 0,_,_,i,c=>by omega
 | n+1,p,h,i,c=>by
  simp only [IY,Bool.and_eq_true] at h
  cases i with
  | zero=>simpa using h.1
  | succ i =>
   have:=Gw h.2 i (by omega)
   rwa [show p+s1+i * s1=p+(i+1) * s1 by rw [Nat.add_mul];omega] at this
def EU (gi:Nat):List Up->Bool
 | []=>true
 | u :: r=>!(u.g == gi) && EU gi r
theorem IZ {ρ:Env} {ν:Nat->Addr} {gi a c j:Nat} {b:Value}:∀{us:List Up},EU gi us=true->dD ρ ν us gi a c j b=b
 | [],_=>rfl
 | u :: r,h=>by
  simp only [EU,Bool.and_eq_true,Bool.not_eq_true',beq_eq_false_iff_ne,ne_eq] at h
  unfold dD
  rw [if_neg (λd=>h.1 d.1),IZ h.2]
def IE.WN:IE->Bool
 | .lit 0=>true
 | _=>false
theorem IE.OE {ρ:Env} {e:IE} (h:e.WN=true):e.den ρ=0:=by
 unfold IE.WN at h
 split at h
 ·rfl
 ·cases h
def SA.base (a:SA):Bool:=match a.dM with | some 0=>true | _=>false
theorem SA.EW {ρ:Env} {a:SA} (h:a.base=true):a.off ρ=0:=by
 unfold SA.base at h
 split at h
 ·rename_i b;exact SA.df b
 ·cases h
def Kz (c:Option (IE × Nat)):Bool:=match c with | none=>true | _=>false
theorem I4 {c:Option (IE × Nat)} (h:Kz c=true):c=none:=by
 cases c with
 | none=>rfl
 | some p=>cases h
def SA.shift (a:SA) (s1:Nat):Option IE :=
 if a.i2.WN && a.j == 0 && (a.i1.WN || a.s1 == s1) then some a.i1 else none
theorem SA.OG {ρ:Env} {a:SA} {s1:Nat} {d:IE} (h:a.shift s1=some d):a.off ρ=(d.den ρ).toNat * s1:=by
 unfold SA.shift at h
 split at h
 ·rename_i c
  simp only [Bool.and_eq_true,Bool.or_eq_true,beq_iff_eq] at c
  obtain ⟨⟨f,e⟩,b⟩:=c
  simp at h
  subst h
  simp only [SA.off,IE.OE f,e]
  rcases b with b | b
  ·simp [IE.OE b]
  ·simp [b]
 ·cases h
def Un (σ:Sub) (A:SB) (a:SA) (b:aU) (gi:Nat):Option (List BE) :=
 if Nat.blt b.r σ.lo then
  match A.bz[gi]? with
  | some g=>if b.same g && b.n1.sc σ.lo && EU gi A.ups && a.base then some [] else none
  | none=>none
 else
 match assoc b.r σ.ct,σ.ie b.n1 with
 | some (.up g f i c),some d =>
  match A.bz[f]?,a.shift b.s1 with
  | some j,some e =>
   if g.same j && nZ i A.ups && oK g.ks f i && c.same e && b.s1 == g.s1 && b.n2 == g.n2 && b.s2 == g.s2 && b.lo == g.lo && mM b.ks g.ks && !b.z then
    some (if c.WN && d.same g.n1 then [] else [.ah (.lit 0) c,.ah (c.jL d) g.n1])
   else none
  | _,_=>none
 | some (.ex h s1 s2 k),some (.lit d) =>
  match a.dM with
  | some p=>if A.bz.isEmpty && xy h (A.cs.drop p) && s1 == b.s1 && s2 == b.s2 && k == b.lo && !b.z && IY h b.ks b.s2 b.n2 b.s1 d.toNat b.lo then some [] else none
  | none=>none
 | _,_=>none
theorem RY {σ:Sub} {ρ:Env} {ν:Nat->Addr} {A:SB} {a:SA} {b:aU} {gi:Nat} {os:List BE} {arr:Array Value} (h:Un σ A a b gi=some os)
  (M:∀o∈os,o.den ρ=true) (D:A.has ρ ν arr) (e d j:Nat) (q:(e:Int)<b.n1.den (σ.env ρ ν)) (w:d<b.n2) (t:j<b.ks.length) :
  arr[a.off ρ+(e * b.s1+d * b.s2+b.lo+j)]?=some (b.base (σ.env ρ ν) e d j):=by
 unfold Un at h
 split at h
 ·rename_i G
  split at h
  ·rename_i g S
   split at h
   ·rename_i f
    simp only [Bool.and_eq_true] at f
    obtain ⟨⟨⟨c1,c2⟩,c3⟩,c4⟩:=f
    have r:=aU.aA c1
    subst r
    have ha:a.off ρ=0:=SA.EW c4
    rw [IE.aT (σ.gZ ρ ν) c2] at q
    have:=D.sg gi b S e d j q w t
    rw [IZ c3] at this
    rw [ha,Nat.zero_add,this,aU.Gs (σ.gZ ρ ν) b (by simpa using G)]
   ·cases h
  ·cases h
 ·rename_i G
  have n:¬b.r<σ.lo:=by simpa using G
  split at h
  ·rename_i g V us i J m l
   split at h
   ·rename_i g' T x I
    split at h
    ·rename_i f
     simp only [Bool.and_eq_true,beq_iff_eq,Bool.not_eq_true'] at f
     obtain ⟨⟨⟨⟨⟨⟨⟨⟨⟨c1,c2⟩,c3⟩,c4⟩,H⟩,K⟩,B⟩,R⟩,U⟩,F⟩:=f
     have r:=aU.aA c1
     have X:=uZ c2
     have e3:=IE.aA c4
     have P:=rJ U
     subst r X e3
     have s:=SA.OG (ρ:=ρ) I
     rw [Sub.abW l] at q
     have hb:0<=i.den ρ/\i.den ρ+J.den ρ<=g.n1.den ρ:=by
      simp only [Option.some.injEq] at h
      split at h
      ·rename_i y
       simp only [Bool.and_eq_true] at y
       rw [IE.OE y.1,IE.aA y.2]
       simp
      ·subst h
       have Q:=of_decide_eq_true (M (.ah (.lit 0) i) (by simp))
       have N:=of_decide_eq_true (M (.ah (i.jL J) g.n1) (by simp))
       rw [IE.nG] at N
       exact ⟨Q,N⟩
     have hi:(((i.den ρ).toNat+e:Nat):Int)<g.n1.den ρ:=by omega
     have E:d<g.n2:=by rw [<-K];exact w
     have O:j<g.ks.length:=by rw [<-P];exact t
     have:=D.sg V g x ((i.den ρ).toNat+e) d j hi E O
     rw [s,H,B,R]
     rw [show (i.den ρ).toNat * g.s1+(e * g.s1+d * g.s2+g.lo+j)=((i.den ρ).toNat+e) * g.s1+d * g.s2+g.lo+j by rw [Nat.add_mul];omega]
     rw [this,Um O c3,aU.Ku b F,P]
     simp only [Sub.env,Sub.bT,if_neg n,m,CV.I,CV.B,CV.V]
    ·cases h
   ·cases h
  ·rename_i W s1 s2 lo J m l
   split at h
   ·rename_i p Y
    split at h
    ·rename_i f
     simp only [Bool.and_eq_true,beq_iff_eq,Bool.not_eq_true',List.isEmpty_iff] at f
     obtain ⟨⟨⟨⟨⟨⟨c1,c2⟩,c3⟩,c4⟩,H⟩,K⟩,B⟩:=f
     have r:=Ag c2
     rw [Sub.abW l] at q
     simp only [IE.den] at q
     have Z:=Gv (Gw B e (by omega)) d w
     obtain ⟨c,f,L⟩:=Gu Z j b.ks[j] (List.getElem?_eq_getElem t)
     have hh:c.isHole=false:=by
      cases C:b.ks[j] <;> rw [C] at L <;> cases c <;> simp_all [pI,SC.isHole]
     have k:e * b.s1+d * b.s2+b.lo+j=b.lo+e * b.s1+d * b.s2+j:=by omega
     have z:A.cs[p+(e * b.s1+d * b.s2+b.lo+j)]?=some c:=by
      rw [<-List.getElem?_drop,<-r,k];exact f
     rw [SA.df Y,D.ex _ _ z hh,WK L,aU.Ku b K,List.getElem?_eq_getElem t]
     have u:W.getD (e * b.s1+d * b.s2+b.lo+j) .hole=c:=by
      rw [List.getD_eq_getElem?_getD,k,f];rfl
     simp only [Sub.env,Sub.bT,if_neg n,m,CV.I,CV.B,CV.V,c3,c4,H,u]
    ·cases h
   ·cases h
  ·cases h
def I5 (σ:Sub) (A:SB) (a:SA):List aU->Nat->Option (List BE)
 | [],_=>some []
 | g :: r,c =>
  match Un σ A a g c,I5 σ A a r (c+1) with
  | some d,some b=>some (d ++ b)
  | _,_=>none
theorem Gx {σ:Sub} {A:SB} {a:SA}:∀{gs:List aU} {gi:Nat} {os:List BE},I5 σ A a gs gi=some os->∀k g,gs[k]?=some g ->
  ∃b,Un σ A a g (gi+k)=some b/\∀o∈b,o∈os
 | [],_,_,_,k,g,c=>by simp at c
 | x :: r,gi,os,h,k,g,c=>by
  unfold I5 at h
  split at h
  ·rename_i j m i e
   simp at h
   subst h
   cases k with
   | zero=>simp at c;subst c;exact ⟨j,i,λo d=>List.mem_append_left _ d⟩
   | succ k =>
    obtain ⟨b,l,f⟩:=Gx e k g (by simpa using c)
    exact ⟨b,by rw [<-l];congr 1;omega,λo d=>List.mem_append_right _ (f o d)⟩
  ·cases h
def zn (σ:Sub):List SC->List SC->Bool
 | [],_=>true
 | _ :: _,[]=>false
 | a :: r,b :: s=>(a.isHole || (kF σ a b && !b.isHole)) && zn σ r s
theorem Db {σ:Sub}:∀{t c:List SC},zn σ t c=true->∀(p:Nat) (x:SC),t[p]?=some x->x.isHole=false->∃y,c[p]?=some y/\y.isHole=false/\kF σ x y=true
 | [],_,_,p,x,e,_=>by simp at e
 | _ :: _,[],h,_,_,_,_=>by simp [zn] at h
 | a :: r,b :: s,h,p,x,e,f=>by
  simp only [zn,Bool.and_eq_true,Bool.or_eq_true,Bool.not_eq_true'] at h
  cases p with
  | zero =>
   simp at e
   subst e
   rcases h.1 with d | d
   ·rw [f] at d;cases d
   ·exact ⟨b,rfl,d.2,d.1⟩
  | succ p =>
   obtain ⟨y,d,g⟩:=Db h.2 p x (by simpa using e) f
   exact ⟨y,by simpa using d,g⟩
def afI (σ:Sub) (t a:Option (IE × Nat)):Bool :=
 match t,a with
 | none,_=>true
 | some (e,n),some (f,m)=>C9 σ e f && n == m
 | _,_=>false
def mRw (σ:Sub) (T A:SB) (a:SA):Option (List BE) :=
 if a.base && !A.ro && (T.opn || !T.bz.isEmpty || (A.bz.isEmpty && !A.opn && T.cs.length == A.cs.length)) && afI σ T.cap A.cap && zn σ T.cs A.cs && T.ups.isEmpty then
  I5 σ A a T.bz 0
 else none
def mRo (σ:Sub) (T A:SB) (a:SA):Option (List BE) :=
 if T.cs.isEmpty && T.ups.isEmpty && Kz T.cap && !T.bz.isEmpty then I5 σ A a T.bz 0
 else if T.bz.isEmpty && T.ups.isEmpty && Kz T.cap && A.bz.isEmpty && !A.opn then
  match a.dM with
  | some o=>if Nat.ble (o+T.cs.length) A.cs.length && zn σ T.cs (A.cs.drop o) then some [] else none
  | none=>none
 else none
def Gy (σ:Sub) (T A:SB) (a:SA):Option (List BE) :=
 if A.gone || !(T.t == A.t) || (T.own && (!A.own || T.ro)) || !Cj σ T.nl A.nl || (T.ro && T.lY) then none
 else if T.ro then mRo σ T A a else mRw σ T A a
def OH (σ:Sub) (b:List SB) (k:Nat) (T:SB):Option (List BE) :=
 if T.gone then some []
 else if Nat.blt k σ.ae then
  match b[k]? with
  | some A=>if T.wk A && T.sc σ.lo σ.ae then some [] else Gy σ T A {ak:=k}
  | none=>none
 else match assoc k σ.bk with
 | some a=>match b[a.ak]? with | some A=>Gy σ T A a | none=>none
 | none=>if σ.nb.contains k && Cj σ T.nl (.lit true) then some [] else none
def Nn (σ:Sub) (b:List SB):List SB->Nat->Option (List BE)
 | [],_=>some []
 | T :: r,k =>
  match OH σ b k T,Nn σ b r (k+1) with
  | some c,some a=>some (c ++ a)
  | _,_=>none
theorem Gz {σ:Sub} {e:List SB}:∀{f:List SB} {d:Nat} {os:List BE},Nn σ e f d=some os->∀k T,f[k]?=some T ->
  ∃a,OH σ e (d+k) T=some a/\∀o∈a,o∈os
 | [],_,_,_,k,g,b=>by simp at b
 | x :: r,q,os,h,k,g,b=>by
  unfold Nn at h
  split at h
  ·rename_i m p l i
   simp at h
   subst h
   cases k with
   | zero=>simp at b;subst b;exact ⟨m,l,λo c=>List.mem_append_left _ c⟩
   | succ k =>
    obtain ⟨a,n,j⟩:=Gz i k g (by simpa using b)
    exact ⟨a,by rw [<-n];congr 1;omega,λo c=>List.mem_append_right _ (j o c)⟩
  ·cases h
def Sub.ak (σ:Sub) (k:Nat):Option Nat:=if Nat.blt k σ.ae then some k else (assoc k σ.bk).map (·.ak)
def uq (σ:Sub) (i:Nat) (a:Bool) (b:Option Nat):List SB->Nat->Bool
 | [],_=>true
 | T :: r,j=>(i == j || T.gone || (a && T.ro) || (match b,σ.ak j with | some x,some y=>!(x == y) | _,_=>true)) && uq σ i a b r (j+1)
def AL (σ:Sub) (all:List SB):List SB->Nat->Bool
 | [],_=>true
 | T :: r,i=>(Nat.blt i σ.ae || T.gone || uq σ i T.ro (σ.ak i) all 0) && AL σ all r (i+1)
theorem wC {σ:Sub} {i:Nat} {g:Bool} {b:Option Nat}:∀{k:List SB} {c:Nat},uq σ i g b k c=true->∀j T,k[j]?=some T ->
  i≠c+j->T.gone=false->(g && T.ro)=false->∀x y,b=some x->σ.ak (c+j)=some y->x≠y
 | [],_,_,j,T,d=>by simp at d
 | o :: r,c,h,j,T,d=>by
  simp only [uq,Bool.and_eq_true] at h
  cases j with
  | zero =>
   simp at d
   subst d
   intro a n f x y m l
   rw [Nat.add_zero] at a l
   obtain ⟨h,-⟩:=h
   have e:(i == c)=false:=by simpa using a
   rw [e,n,f,m,l] at h
   simpa using h
  | succ j =>
   intro a
   have:=wC h.2 j T (by simpa using d)
   rw [show c+1+j=c+(j+1) by omega] at this
   exact this a
theorem yA {σ:Sub} {all:List SB}:∀{d:List SB} {b:Nat},AL σ all d b=true->∀i T,d[i]?=some T->¬(b+i<σ.ae)->T.gone=false ->
  uq σ (b+i) T.ro (σ.ak (b+i)) all 0=true
 | [],_,_,j,T,a=>by simp at a
 | k :: r,c,h,j,T,a=>by
  simp only [AL,Bool.and_eq_true] at h
  cases j with
  | zero =>
   simp at a
   subst a
   intro e g
   rw [Nat.add_zero] at e ⊢
   have f:Nat.blt c σ.ae=false:=by rw [<-Bool.not_eq_true,Nat.blt_eq];exact e
   simpa [f,g] using h.1
  | succ j =>
   have:=yA h.2 j T (by simpa using a)
   rw [show c+1+j=c+(j+1) by omega] at this
   exact this
def qh (σ:Sub) (a b:List SB):Option (List BE):=if AL σ a a 0 then Nn σ b a 0 else none
section
variable {ρ:Env} {ν:Nat->Addr} {σ:Sub}
structure Np (ρ:Env) (ν:Nat->Addr) (σ:Sub) (hp:List SB) (k:Nat) (T:SB) (a:SA) (A:SB):Prop where
 ak:σ.ak k=some a.ak
 hp:hp[a.ak]?=some A
 eX:σ.eX ρ ν k=(ν a.ak).add (a.off ρ)
 live:A.dead ρ=false
 t:T.t=A.t
 own:T.own=true->A.own=true
 ro:T.ro=false->A.ro=false/\a.off ρ=0
 rw_:T.ro=false->∀arr,A.has ρ ν arr->T.has (σ.env ρ ν) (σ.eX ρ ν) arr
 rd:∀arr,A.has ρ ν arr->∃oL,T.has (σ.env ρ ν) (σ.eX ρ ν) oL/\∀p v,oL[p]?=some v->arr[a.off ρ+p]?=some v
 mp:T.ro=true->A.ro=false->A.lY=false
 sg:T.ro=true->T.bz=[]->A.bz=[]
theorem RZ {T A:SB} {a:SA} {os:List BE} (h:Gy σ T A a=some os) (P:∀o∈os,o.den ρ=true) (hd:T.dead (σ.env ρ ν)=false) :
  A.dead ρ=false/\T.t=A.t/\(T.own=true->A.own=true)/\(T.ro=false->A.ro=false/\a.off ρ=0)/\(T.ro=false->∀arr,A.has ρ ν arr->T.has (σ.env ρ ν) (σ.eX ρ ν) arr) /\
  (∀arr,A.has ρ ν arr->∃Q,T.has (σ.env ρ ν) (σ.eX ρ ν) Q/\∀p v,Q[p]?=some v->arr[a.off ρ+p]?=some v)/\(T.ro=true->A.ro=false->A.lY=false):=by
 unfold Gy at h
 split at h
 ·cases h
 rename_i k
 simp only [Bool.or_eq_true,Bool.not_eq_true',not_or,Bool.not_eq_true,beq_eq_false_iff_ne,ne_eq,Decidable.not_not,Bool.not_eq_false,Bool.and_eq_true,not_and] at k
 obtain ⟨⟨⟨⟨c1,c2⟩,c3⟩,c4⟩,S⟩:=k
 have w:A.dead ρ=false:=by
  have:=qg (ρ:=ρ) (ν:=ν) c4
  unfold SB.dead at hd ⊢
  rw [c1,<-this]
  simp at hd
  simp [hd.2]
 refine ⟨w,c2,λh=>?_,?_⟩
 ·cases i:A.own with
  | true=>rfl
  | false=>have:=c3 h;simp [i] at this
 split at h
 ·rename_i l
  refine ⟨λh=>(by rw [l] at h;cases h),λh=>(by rw [l] at h;cases h),λarr i=>?_,λh _=>?_⟩
  rotate_left
  ·have:=S h
   unfold SB.lY at this ⊢
   rw [<-c2]
   simpa using this
  unfold mRo at h
  split at h
  ·rename_i k
   simp only [Bool.and_eq_true,List.isEmpty_iff,Bool.not_eq_true'] at k
   obtain ⟨⟨⟨d1,d2⟩,d3⟩,d4⟩:=k
   refine ⟨(arr.toList.drop (a.off ρ)).toArray,⟨λu r=>(by rw [d2] at r;cases r),λM=>(by rw [M] at d4;cases d4),λe n z=>(by rw [I4 d3] at z;cases z),λp c d=>(by rw [d1] at d;simp at d),λE g B N F j q s x=>?_⟩,λp v d=>?_⟩
   ·obtain ⟨G,C,J⟩:=Gx h E g B
    rw [Nat.zero_add] at C
    have:=RY C (λo O=>P o (J o O)) i N F j q s x
    rw [d2]
    simp only [dD,List.getElem?_toArray,List.getElem?_drop]
    simpa using this
   ·simpa [List.getElem?_drop] using d
  ·split at h
   case isFalse=>cases h
   rename_i k
   simp only [Bool.and_eq_true,List.isEmpty_iff,Bool.not_eq_true'] at k
   obtain ⟨⟨⟨⟨d1,d2⟩,d3⟩,d4⟩,d5⟩:=k
   split at h
   case h_2=>cases h
   rename_i o L
   have b:a.off ρ=o:=SA.df L
   split at h
   case isFalse=>cases h
   rename_i D
   simp only [Bool.and_eq_true,Nat.ble_eq] at D
   have R:arr.size=A.cs.length:=i.size d4 d5
   refine ⟨((arr.toList.drop o).take T.cs.length).toArray,⟨λu r=>(by rw [d2] at r;cases r),λ_ _=>(by simp;omega),λe n z=>(by rw [I4 d3] at z;cases z),λp c d K=>?_,λE g B=>(by rw [d1] at B;simp at B)⟩,λp v d=>?_⟩
   ·obtain ⟨y,q,s,x⟩:=Db D.2 p c d K
    rw [List.getElem?_drop] at q
    have:=i.ex (o+p) y q s
    have t:p<T.cs.length:=(List.getElem?_eq_some_iff.1 d).1
    rw [IW (ρ:=ρ) (ν:=ν) x,List.getElem?_toArray,List.getElem?_take_of_lt t,List.getElem?_drop,Array.getElem?_toList]
    exact this
   ·rw [b]
    rw [List.getElem?_toArray] at d
    have t:p<T.cs.length:=by
     have:=(List.getElem?_eq_some_iff.1 d).1
     simp at this
     omega
    rw [List.getElem?_take_of_lt t,List.getElem?_drop,Array.getElem?_toList] at d
    exact d
 ·rename_i l
  unfold mRw at h
  split at h
  ·rename_i k
   simp only [Bool.and_eq_true,List.isEmpty_iff,Bool.not_eq_true',Bool.or_eq_true] at k
   obtain ⟨⟨⟨⟨⟨d1,d2⟩,d3⟩,d4⟩,d5⟩,d6⟩:=k
   have b:a.off ρ=0:=SA.EW d1
   have key:∀arr,A.has ρ ν arr->T.has (σ.env ρ ν) (σ.eX ρ ν) arr:=by
    intro arr i
    refine ⟨λu r=>(by rw [d6] at r;cases r),λM H=>?_,λe n z=>?_,λp c d K=>?_,λE g B N F j q s x=>?_⟩
    ·rcases d3 with (d3 | d3) | d3
     ·rw [H] at d3;cases d3
     ·rw [M] at d3;cases d3
     ·simp only [beq_iff_eq] at d3
      rw [d3.2]
      exact i.size d3.1.1 d3.1.2
    ·unfold afI at d4
     rw [z] at d4
     split at d4
     ·rename_i heq;cases heq
     ·rename_i U V f m heq I
      cases heq
      simp only [Bool.and_eq_true,beq_iff_eq] at d4
      rw [wB (ν:=ν) d4.1,d4.2]
      exact i.cap f m I
     ·cases d4
    ·obtain ⟨y,q,s,x⟩:=Db d5 p c d K
     rw [IW (ρ:=ρ) (ν:=ν) x]
     exact i.ex p y q s
    ·obtain ⟨G,C,J⟩:=Gx h E g B
     rw [Nat.zero_add] at C
     have:=RY C (λo O=>P o (J o O)) i N F j q s x
     rw [d6]
     simp only [dD]
     rw [b,Nat.zero_add] at this
     exact this
   exact ⟨λ_=>⟨d2,b⟩,λ_=>key,λarr i=>⟨arr,key arr i,λp v d=>by rw [b,Nat.zero_add];exact d⟩,λh=>(l h).elim⟩
  ·cases h
theorem Mf {T A:SB} {a:SA} {os:List BE} (h:Gy σ T A a=some os) (d:T.ro=true) (c:T.bz=[]):A.bz=[]:=by
 unfold Gy at h
 split at h
 ·cases h
 unfold mRo at h
 split at h
 ·rename_i b
  simp [c] at b
 ·split at h
  ·rename_i b
   simp only [Bool.and_eq_true,List.isEmpty_iff,Bool.not_eq_true'] at b
   exact b.1.2
  ·cases h
theorem ad9 {j:List SB} {k:Nat} {T:SB} {os:List BE} (h:OH σ j k T=some os) (B:∀o∈os,o.den ρ=true) (hd:T.dead (σ.env ρ ν)=false):∃a A,Np ρ ν σ j k T a A:=by
 have f:=SB.dZ hd
 unfold OH at h
 rw [f] at h
 simp only [Bool.false_eq_true,if_false] at h
 split at h
 ·rename_i g
  have d:k<σ.ae:=by simpa using g
  have z:σ.eX ρ ν k=(ν k).add (({ak:=k}:SA).off ρ):=by simp [Sub.eX,d,SA.off,IE.den,Addr.add_zero]
  have c:σ.ak k=some k:=by simp [Sub.ak,g]
  split at h
  ·rename_i A i
   split at h
   ·rename_i b
    simp only [Bool.and_eq_true] at b
    obtain ⟨I,H,D,G,E,F⟩:=SB.IL (ρ:=ρ) (ν:=ν) b.1 f
    have x:T.dead ρ=false:=by rwa [SB.pG (σ.gZ ρ ν) b.2] at hd
    have C:∀arr,A.has ρ ν arr->T.has (σ.env ρ ν) (σ.eX ρ ν) arr:=λarr e=>SB.CX (σ.gZ ρ ν) b.2 f (F arr e)
    have y:({ak:=k}:SA).off ρ=0:=by simp [SA.off,IE.den]
    exact ⟨{ak:=k},A,⟨c,i,z,SB.EP b.1 x,E,G,λl=>⟨D ▸ l,y⟩,λ_=>C,λarr e=>⟨arr,C arr e,λp v j=>by rw [y,Nat.zero_add];exact j⟩,λl n=>(by rw [D,n] at l;cases l),λ_=>SB.RN b.1 f⟩⟩
   ·obtain ⟨r,m,u,q,t,w,s⟩:=RZ (ν:=ν) h B hd
    exact ⟨{ak:=k},A,⟨c,i,z,r,m,u,q,t,w,s,Mf h⟩⟩
  ·cases h
 ·rename_i g
  have d:¬k<σ.ae:=by simpa using g
  split at h
  ·rename_i a e
   split at h
   ·rename_i A i
    obtain ⟨r,m,u,q,t,w,s⟩:=RZ (ν:=ν) h B hd
    exact ⟨a,A,⟨by simp [Sub.ak,g,e],i,by simp [Sub.eX,d,e,SA.den],r,m,u,q,t,w,s,Mf h⟩⟩
   ·cases h
  ·split at h
   ·rename_i b
    simp only [Bool.and_eq_true] at b
    have:=qg (ρ:=ρ) (ν:=ν) b.2
    simp only [SB.dead,f,Bool.false_or] at hd
    rw [hd] at this
    cases this
   ·cases h
theorem block_add (a:Addr) (n:Nat):(a.add n).block=a.block:=by
 unfold Addr.add
 split <;> rfl
theorem qK {c b:List SB} {os:List BE} (h:qh σ c b=some os) (g:∀o∈os,o.den ρ=true) {k:Nat} {T:SB} (f:c[k]?=some T) (hd:T.dead (σ.env ρ ν)=false) :
  ∃a A,Np ρ ν σ b k T a A:=by
 unfold qh at h
 split at h
 ·obtain ⟨j,d,i⟩:=Gz h k T f
  rw [Nat.zero_add] at d
  exact ad9 d (λo e=>g o (i o e)) hd
 ·cases h
theorem Uo {d q:List SB} {os:List BE} (h:qh σ d q=some os) {i j:Nat} {T U:SB} (l:d[i]?=some T) (m:d[j]?=some U) (n:i≠j) (k:T.gone=false) (b:U.gone=false)
  (a:T.ro=false\/U.ro=false) {x y:Nat} (g:σ.ak i=some x) (f:σ.ak j=some y):x≠y:=by
 unfold qh at h
 split at h
 ·rename_i c
  by_cases p:i<σ.ae
  ·by_cases o:j<σ.ae
   ·simp [Sub.ak,p] at g
    simp [Sub.ak,o] at f
    omega
   ·have:=yA c j U m (by omega) b
    rw [Nat.zero_add] at this
    have:=wC this i T l (by omega) k (by rcases a with a | a <;> simp [a]) y x f (by rw [Nat.zero_add];exact g)
    exact λe=>this e.symm
  ·have:=yA c i T l (by omega) k
   rw [Nat.zero_add] at this
   exact wC this j U m (by omega) b (by rcases a with a | a <;> simp [a]) x y g (by rw [Nat.zero_add];exact f)
 ·cases h
theorem KA {z g:List SB} {os:List BE} (h:qh σ z g=some os) (l:∀o∈os,o.den ρ=true) {w:World} (m:aD ρ ν g w):aD (σ.env ρ ν) (σ.eX ρ ν) z w:=by
 refine ⟨λi j T U C D e y d E=>?_,λk T r e d=>?_,λk T r e d=>?_⟩
 ·obtain ⟨a,A,c⟩:=qK h l C e
  obtain ⟨b,B,n⟩:=qK h l D y
  by_cases f:i=j
  ·exact f
  ·exfalso
   have u:=Uo h C D f (SB.dZ e) (SB.dZ y) (.inl d) c.ak n.ak
   rw [c.eX,n.eX,block_add,block_add] at E
   exact u (m.inj _ _ A B c.hp n.hp c.live n.live (c.ro d).1 E)
 ·obtain ⟨a,A,c⟩:=qK h l r e
  obtain ⟨t,q⟩:=c.ro d
  obtain ⟨F,arr,x,s⟩:=m.ak _ A c.hp c.live t
  rw [c.eX,q,Addr.add_zero]
  exact ⟨F,arr,by rw [c.t];exact x,c.rw_ d arr s⟩
 ·obtain ⟨a,A,c⟩:=qK h l r e
  obtain ⟨arr,t,q⟩:=m.cells c.hp c.live (c.mp d)
  obtain ⟨G,x,s⟩:=c.rd arr t
  rw [c.eX]
  refine ⟨by rw [block_add];exact (m.amT c.hp c.live (c.mp d)).of (c.sg d) c.t (Nat.le_refl _) rfl,G,x,λp v g=>?_⟩
  rw [Addr.add_add]
  exact q _ _ (s p v g)
end
def Sub.sS (σ:Sub) (t e:IE):Sub :=
 match t with
 | .var i=>if Nat.blt i σ.lo then σ else match assoc i σ.iv with | some _=>σ | none=>{σ with iv:=(i,e) :: σ.iv}
 | _=>σ
def Sub.AP (σ:Sub) (t e:BE):Sub :=
 match t with
 | .var i=>if Nat.blt i σ.lo then σ else match assoc i σ.bv with | some _=>σ | none=>{σ with bv:=(i,e) :: σ.bv}
 | _=>σ
def Sub.OJ (σ:Sub) (t:Nat) (a:SA):Sub :=
 if Nat.blt t σ.ae then σ else match assoc t σ.bk with | some _=>σ | none=>{σ with bk:=(t,a) :: σ.bk}
def Sub.Uq (σ:Sub) (t a:SA):Sub :=
 match t.i1 with
 | .var o=>(σ.OJ t.ak {a with i1:=.lit 0}).sS (.var o) a.i1
 | _=>σ.OJ t.ak a
def afK (σ:Sub):List Nat->List Nat->Sub
 | a :: r,b :: s=>afK (σ.OJ a {ak:=b}) r s
 | _,_=>σ
def WO (σ:Sub):SC->SC->Sub
 | .int _ e,.int _ f=>σ.sS e f
 | .bool e,.bool f=>σ.AP e f
 | .val i,c=>if Nat.blt i σ.lo then σ else match assoc i σ.vv with | some _=>σ | none=>{σ with vv:=(i,c) :: σ.vv}
 | .ptr a,.ptr b=>σ.Uq a b
 | .sl a l c,.sl b m d=>((σ.Uq a b).sS l m).sS c d
 | .eu k a l c,.sl b m d=>(((σ.AP k (.lit false)).Uq a b).sS l m).sS c d
 | .eu k a l c,.eu h b m d=>(((σ.AP k h).Uq a b).sS l m).sS c d
 | .eu k a l c,.dA=>let g:=((σ.AP k (.lit true)).sS l (.lit 0)).sS c (.lit 0);{g with nb:=a.ak :: g.nb}
 | .fn _ a,.fn _ b=>afK σ a b
 | .iface _ c,.iface _ d=>WO σ c d
 | .jH k c,.jH h d=>WO (σ.AP k h) c d
 | .jH k c,.dW=>let g:=σ.AP k (.lit true);match c with | .iface _ (.ptr a)=>{g with nb:=a.ak :: g.nb} | _=>g
 | .jH k (.iface _ c),.iface _ d=>WO (σ.AP k (.lit false)) c d
 | .mp a,.mp b=>σ.OJ a {ak:=b}
 | _,_=>σ
def ZE (σ:Sub):List SC->List SC->Sub
 | a :: r,b :: s=>ZE (WO σ a b) r s
 | _,_=>σ
def uSW (σ:Sub):SW->SW->Sub
 | .one a,.one b=>WO σ a b
 | .agg a,.agg b=>ZE σ a b
 | _,_=>σ
def Ur (σ:Sub):List SW->List SW->Sub
 | a :: r,b :: s=>Ur (uSW σ a b) r s
 | _,_=>σ
def uSV (σ:Sub):SV->SV->Sub
 | .w a,.w b=>uSW σ a b
 | .iB a,.iB b=>Ur σ a b
 | .gd c a,.gd d b=>uSW (σ.AP c d) a b
 | _,_=>σ
def Sub.afN (σ:Sub) (r:Nat) (c:CV):Sub :=
 if Nat.blt r σ.lo then σ else match assoc r σ.ct with | some _=>σ | none=>{σ with ct:=(r,c) :: σ.ct}
def Ut (σ:Sub) (A:SB) (a:SA):List aU->Nat->Sub
 | [],_=>σ
 | g :: r,b =>
  match A.bz[b]? with
  | some h=>Ut ((σ.sS g.n1 h.n1).afN g.r (.up h b A.ups ((a.shift g.s1).getD (.lit 0)))) A a r (b+1)
  | none=>let c:=A.cs.drop (a.dM.getD 0);Ut ((σ.sS g.n1 (.lit (c.length / g.s1:Nat))).afN g.r (.ex c g.s1 g.s2 g.lo)) A a r (b+1)
def uSB (σ:Sub) (T A:SB) (a:SA):Sub :=
 let σ:=ZE (σ.AP T.nl A.nl) T.cs A.cs
 let σ:=match T.cap,A.cap with | some (e,_),some (f,_)=>σ.sS e f | _,_=>σ
 Ut σ A a T.bz 0
def R7 (σ:Sub) (b:List SB):List SB->Nat->Sub
 | [],_=>σ
 | T :: r,k =>
  if T.gone then R7 σ b r (k+1)
  else if Nat.blt k σ.ae then
   match b[k]? with
   | some A=>R7 (if T.wk A && T.sc σ.lo σ.ae then σ else uSB σ T A {ak:=k}) b r (k+1)
   | none=>σ
  else match assoc k σ.bk with
   | some a=>match b[a.ak]? with | some A=>R7 (uSB σ T A a) b r (k+1) | none=>σ
   | none=>R7 σ b r (k+1)
def KD (σ:Sub) (a b:List SB):Sub:=R7 (R7 σ a b 0) a b 0
structure dJ where
 f:FuncId
 nv:Nat
 gl:List (Nat × Nat):=[]
 args:List SW
 hp:List SB
 iV:Nat
 ret:SV
 hp':List SB
 deriving Inhabited
structure Tr where
 σ:Sub
 m:Nat
 d:Nat
 n:Nat
 n0:Nat
def iJ {α β c:Type} (f:α->β->c):Option α->Option β->Option c
 | some a,some b=>some (f a b)
 | _,_=>none
theorem gJ {α β c:Type} {f:α->β->c} {x:Option α} {y:Option β} {z:c} (h:iJ f x y=some z):∃a b,x=some a/\y=some b/\z=f a b:=by
 cases x <;> cases y <;> simp [iJ] at h
 exact ⟨_,_,rfl,rfl,h.symm⟩
def IE.tr (t:Tr):IE->Option IE
 | .lit n=>some (.lit n)
 | .var i=>if Nat.blt i t.m then assoc i t.σ.iv else some (.var (i-t.m+t.d))
 | .add a b=>iJ .add (a.tr t) (b.tr t)
 | .sub a b=>iJ .sub (a.tr t) (b.tr t)
 | .mul a b=>iJ .mul (a.tr t) (b.tr t)
 | .div a b=>iJ .div (a.tr t) (b.tr t)
 | .mod a b=>iJ .mod (a.tr t) (b.tr t)
 | .wrap k a=>(a.tr t).map (.wrap k)
 | .sK a b=>iJ .sK (a.tr t) (b.tr t)
 | .imax a b=>iJ .imax (a.tr t) (b.tr t)
 | .cell r a b j=>if Nat.blt r t.m then none else iJ (λa b=>.cell (r-t.m+t.d) a b j) (a.tr t) (b.tr t)
def BE.tr (t:Tr):BE->Option BE
 | .lit n=>some (.lit n)
 | .var i=>if Nat.blt i t.m then assoc i t.σ.bv else some (.var (i-t.m+t.d))
 | .not a=>(a.tr t).map .not
 | .and a b=>iJ .and (a.tr t) (b.tr t)
 | .or a b=>iJ .or (a.tr t) (b.tr t)
 | .ite c a b=>match c.tr t,a.tr t,b.tr t with | some c,some a,some b=>some (.ite c a b) | _,_,_=>none
 | .ag a b=>iJ .ag (IE.tr t a) (IE.tr t b)
 | .ah a b=>iJ .ah (IE.tr t a) (IE.tr t b)
 | .aY a b=>iJ .aY (IE.tr t a) (IE.tr t b)
 | .beq a b=>iJ .beq (a.tr t) (b.tr t)
 | .inr k a=>(IE.tr t a).map (.inr k)
 | .cell r a b j=>if Nat.blt r t.m then none else iJ (λa b=>.cell (r-t.m+t.d) a b j) (IE.tr t a) (IE.tr t b)
def OL (t:Tr) (k:Nat):Option Nat :=
 if Nat.blt k t.n then match assoc k t.σ.bk with | some a=>if a.base then some a.ak else none | none=>none
 else some (k-t.n+t.n0)
def SA.tr (t:Tr) (a:SA):Option SA :=
 match OL t a.ak,a.i1.tr t,a.i2.tr t with
 | some b,some i1,some i2=>some {a with ak:=b,i1:=i1,i2:=i2}
 | _,_,_=>none
def Nq (t:Tr):List Nat->Option (List Nat)
 | []=>some []
 | k :: r=>iJ List.cons (OL t k) (Nq t r)
def SC.tr (t:Tr):SC->Option SC
 | .int k e=>(e.tr t).map (.int k)
 | .bool b=>(b.tr t).map .bool
 | .str l=>some (.str l)
 | .val i=>if Nat.blt i t.m then (match assoc i t.σ.vv with | some c=>if c.isHole then none else some c | none=>none) else some (.val (i-t.m+t.d))
 | .kV r a b j=>if Nat.blt r t.m then none else iJ (λa b=>.kV (r-t.m+t.d) a b j) (a.tr t) (b.tr t)
 | .ptr a=>(a.tr t).map .ptr
 | .dB=>some .dB
 | .sl a l c=>match a.tr t,l.tr t,c.tr t with | some a,some l,some c=>some (.sl a l c) | _,_,_=>none
 | .dA=>some .dA
 | .eu k a l c=>match k.tr t,a.tr t,l.tr t,c.tr t with | some k,some a,some l,some c=>some (.eu k a l c) | _,_,_,_=>none
 | .fn f d=>(Nq t d).map (.fn f)
 | .mI=>some .mI
 | .iface u c=>(c.tr t).map (.iface u)
 | .jH k c=>match k.tr t,c.tr t with | some k,some c=>some (.jH k c) | _,_=>none
 | .mp b=>(OL t b).map .mp
 | .ug=>some .ug
 | .rt t b o=>some (.rt t b o)
 | .dW=>some .dW
 | .hole=>some .hole
def AR (t:Tr):List SC->Option (List SC)
 | []=>some []
 | c :: r=>iJ List.cons (c.tr t) (AR t r)
def SW.tr (t:Tr):SW->Option SW
 | .one c=>(c.tr t).map .one
 | .agg a=>(AR t a).map .agg
def Nr (t:Tr):List SW->Option (List SW)
 | []=>some []
 | c :: r=>iJ List.cons (c.tr t) (Nr t r)
def SV.tr (t:Tr):SV->Option SV
 | .w x=>(x.tr t).map .w
 | .iB a=>(Nr t a).map .iB
 | .gd c x=>iJ .gd (c.tr t) (x.tr t)
def Dc (t:Tr):List aU->Option (List aU)
 | []=>some []
 | g :: r=>if Nat.blt g.r t.m then none else iJ (λn s=>{g with r:=g.r-t.m+t.d,n1:=n} :: s) (g.n1.tr t) (Dc t r)
def SB.tr (t:Tr) (b:SB):Option SB :=
 if b.gone then some dS
 else if b.ups.isEmpty then
  match AR t b.cs,Dc t b.bz,b.nl.tr t with
  | some cs,some bz,some nl =>
   match b.cap with
   | none=>some {b with cs:=cs,bz:=bz,nl:=nl}
   | some (e,n)=>match e.tr t with | some e=>some {b with cs:=cs,bz:=bz,nl:=nl,cap:=some (e,n)} | none=>none
  | _,_,_=>none
 else none
structure WQ (t:Tr) (dN ρ':Env) (fJ aI:Nat->Addr):Prop where
 i:∀i e,i<t.m->assoc i t.σ.iv=some e->e.den ρ'=dN.iv i
 b:∀i e,i<t.m->assoc i t.σ.bv=some e->e.den ρ'=dN.bv i
 v:∀i e,i<t.m->assoc i t.σ.vv=some e->e.den ρ' aI=dN.vv i
 iv:∀i,t.m<=i->ρ'.iv (i-t.m+t.d)=dN.iv i
 bv:∀i,t.m<=i->ρ'.bv (i-t.m+t.d)=dN.bv i
 vv:∀i,t.m<=i->ρ'.vv (i-t.m+t.d)=dN.vv i
 ic:∀i,t.m<=i->ρ'.ic (i-t.m+t.d)=dN.ic i
 bc:∀i,t.m<=i->ρ'.bc (i-t.m+t.d)=dN.bc i
 vc:∀i,t.m<=i->ρ'.vc (i-t.m+t.d)=dN.vc i
 bo:∀k a,k<t.n->assoc k t.σ.bk=some a->a.base=true->aI a.ak=fJ k
 bn:∀k,t.n<=k->aI (k-t.n+t.n0)=fJ k
section
variable {t:Tr} {T ρ':Env} {U V:Nat->Addr} (H:WQ t T ρ' U V)
include H
theorem IE.dK:∀{e f:IE},e.tr t=some f->f.den ρ'=e.den T:=by
 intro e
 induction e with
 | lit n=>intro f h;simp [IE.tr] at h;subst h;rfl
 | var i =>
  intro f h
  simp only [IE.tr] at h
  split at h
  ·rename_i m;exact H.i i f (by simpa using m) h
  ·rename_i m
   simp at h
   subst h
   exact H.iv i (by simpa using m)
 | add a b c d | sub a b c d | mul a b c d | div a b c d | mod a b c d | sK a b c d | imax a b c d =>
  intro f h
  obtain ⟨x,y,l,g,rfl⟩:=gJ h
  simp only [IE.den,c l,d g]
 | wrap k a p =>
  grind [IE.tr,Option.map_eq_some_iff,IE.den]
 | cell r a b j c d =>
  intro f h
  simp only [IE.tr] at h
  split at h
  ·cases h
  ·rename_i o
   obtain ⟨x,y,l,g,rfl⟩:=gJ h
   simp only [IE.den,c l,d g,H.ic r (by simpa using o)]
theorem BE.dK:∀{e g:BE},e.tr t=some g->g.den ρ'=e.den T:=by
 intro e
 induction e with
 | lit n=>intro g h;simp [BE.tr] at h;subst h;rfl
 | var i =>
  intro g h
  simp only [BE.tr] at h
  split at h
  ·rename_i o;exact H.b i g (by simpa using o) h
  ·rename_i o
   simp at h
   subst h
   exact H.bv i (by simpa using o)
 | and a b d f | or a b d f | beq a b d f =>
  intro g h
  obtain ⟨x,y,m,l,rfl⟩:=gJ h
  simp only [BE.den,d m,f l]
 | ag a b | ah a b | aY a b =>
  intro g h
  obtain ⟨x,y,m,l,rfl⟩:=gJ h
  all_goals grind [BE.den,IE.dK]
 | not a s =>
  grind [BE.tr,Option.map_eq_some_iff,BE.den]
 | inr k a =>
  grind [BE.tr,Option.map_eq_some_iff,BE.den,IE.dK]
 | ite c a b p d f =>
  grind [BE.tr,BE.den]
 | cell r a b j =>
  intro g h
  simp only [BE.tr] at h
  split at h
  ·cases h
  ·rename_i q
   obtain ⟨x,y,m,l,rfl⟩:=gJ h
   simp only [BE.den,IE.dK H m,IE.dK H l,H.bc r (by simpa using q)]
theorem KE {k b:Nat} (h:OL t k=some b):V b=U k:=by
 unfold OL at h
 split at h
 ·rename_i c
  split at h
  ·rename_i a d
   split at h
   ·rename_i e
    simp at h
    subst h
    exact H.bo k a (by simpa using c) d e
   ·cases h
  ·cases h
 ·rename_i c
  simp at h
  subst h
  exact H.bn k (by simpa using c)
theorem SA.dK {a b:SA} (h:a.tr t=some b):b.den ρ' V=a.den T U:=by
 grind [SA.tr,SA.den,SA.off,KE,IE.dK]
theorem OM:∀{l a:List Nat},Nq t l=some a->a.map V=l.map U
 | [],a,h=>by simp [Nq] at h;subst h;rfl
 | k :: r,a,h=>by
  obtain ⟨x,y,c,b,rfl⟩:=gJ h
  simp only [List.map_cons,KE H c,OM b]
theorem SC.dK:∀{c c':SC},c.tr t=some c'->c'.den ρ' V=c.den T U/\(c.isHole=false->c'.isHole=false)/\(c.isHole=true->c'.isHole=true):=by
 intro c
 induction c with
 | int k e =>
  intro c' h
  simp only [SC.tr,Option.map_eq_some_iff] at h
  obtain ⟨x,d,rfl⟩:=h
  exact ⟨by simp only [SC.den,IE.dK H d],λ_=>rfl,λh=>by cases h⟩
 | bool e =>
  intro c' h
  simp only [SC.tr,Option.map_eq_some_iff] at h
  obtain ⟨x,d,rfl⟩:=h
  exact ⟨by simp only [SC.den,BE.dK H d],λ_=>rfl,λh=>by cases h⟩
 | val i =>
  intro c' h
  simp only [SC.tr] at h
  split at h
  ·rename_i p
   split at h
   ·rename_i c D
    split at h
    ·cases h
    ·rename_i A
     simp at h
     subst h
     have:=H.v i c (by simpa using p) D
     refine ⟨?_,λ_=>by simpa using A,λh=>by cases h⟩
     all_goals grind [SC.den,EK,SC.vJ]
   ·cases h
  ·rename_i p
   simp at h
   subst h
   exact ⟨by simp only [SC.den,H.vv i (by simpa using p)],λ_=>rfl,λh=>by cases h⟩
 | kV r a b j =>
  intro c' h
  simp only [SC.tr] at h
  split at h
  ·cases h
  ·rename_i B
   obtain ⟨x,y,d,g,rfl⟩:=gJ h
   exact ⟨by simp only [SC.den,IE.dK H d,IE.dK H g,H.vc r (by simpa using B)],λ_=>rfl,λh=>by cases h⟩
 | ptr a =>
  intro c' h
  simp only [SC.tr,Option.map_eq_some_iff] at h
  obtain ⟨x,d,rfl⟩:=h
  exact ⟨by simp only [SC.den,SA.dK H d],λ_=>rfl,λh=>by cases h⟩
 | sl a l c =>
  intro c' h
  simp only [SC.tr] at h
  split at h
  ·rename_i x y z d g o
   simp at h
   subst h
   exact ⟨by simp only [SC.den,SA.dK H d,IE.dK H g,IE.dK H o],λ_=>rfl,λh=>by cases h⟩
  ·cases h
 | eu k a l c =>
  intro c' h
  simp only [SC.tr] at h
  split at h
  ·rename_i k x y z n d g o
   simp at h
   subst h
   exact ⟨by simp only [SC.den,BE.dK H n,SA.dK H d,IE.dK H g,IE.dK H o],λ_=>rfl,λh=>by cases h⟩
  ·cases h
 | fn f F =>
  intro c' h
  simp only [SC.tr,Option.map_eq_some_iff] at h
  obtain ⟨x,d,rfl⟩:=h
  have:=OM H d
  refine ⟨?_,λ_=>rfl,λh=>by cases h⟩
  simp only [SC.den]
  have e:∀(m:Nat->Addr) (l:List Nat),(l.map λb=>Value.pointer (some (m b)))=(l.map m).map λa=>Value.pointer (some a):=λm l=>by simp
  rw [e,e,this]
 | iface u c q =>
  intro c' h
  simp only [SC.tr,Option.map_eq_some_iff] at h
  obtain ⟨x,d,rfl⟩:=h
  exact ⟨by simp only [SC.den,(q d).1],λ_=>rfl,λh=>by cases h⟩
 | jH k c q =>
  intro c' h
  simp only [SC.tr] at h
  split at h
  ·rename_i E x n d
   simp at h
   subst h
   obtain ⟨C,s,w⟩:=q d
   exact ⟨by simp only [SC.den,BE.dK H n,C],s,w⟩
  ·cases h
 | mp b =>
  intro c' h
  simp only [SC.tr,Option.map_eq_some_iff] at h
  obtain ⟨x,d,rfl⟩:=h
  exact ⟨by simp only [SC.den,KE H d],λ_=>rfl,λh=>by cases h⟩
 | _ =>
  intro c' h
  simp only [SC.tr,Option.some.injEq] at h
  subst h
  exact ⟨rfl,λh=>h,λh=>h⟩
theorem OO:∀{l a:List SC},AR t l=some a->a.length=l.length/\∀(p:Nat) (c':SC),a[p]?=some c'->∃c,l[p]?=some c/\c.tr t=some c'
 | [],a,h=>by have _:=H;simp [AR] at h;subst h;exact ⟨rfl,λp c h=>by simp at h⟩
 | c :: r,a,h=>by
  obtain ⟨x,y,f,d,rfl⟩:=gJ h
  obtain ⟨g,e⟩:=OO d
  refine ⟨by simp [g],λp c' b=>?_⟩
  cases p with
  | zero=>simp at b;subst b;exact ⟨c,rfl,f⟩
  | succ p=>simpa using e p c' (by simpa using b)
theorem Mg:∀{l a:List SC},AR t l=some a->a.map (·.den ρ' V)=l.map (·.den T U)
 | [],a,h=>by simp [AR] at h;subst h;rfl
 | c :: r,a,h=>by
  obtain ⟨x,y,d,b,rfl⟩:=gJ h
  simp only [List.map_cons,(SC.dK H d).1,Mg b]
theorem SW.dK {x a:SW} (h:x.tr t=some a):a.den ρ' V=x.den T U:=by
 cases x <;> simp only [SW.tr,Option.map_eq_some_iff] at h <;> obtain ⟨y,b,rfl⟩:=h
 all_goals grind [SC.dK,SW.den,Mg]
theorem Mh:∀{l a:List SW},Nr t l=some a->a.map (·.den ρ' V)=l.map (·.den T U)
 | [],a,h=>by simp [Nr] at h;subst h;rfl
 | c :: r,a,h=>by
  obtain ⟨x,y,d,b,rfl⟩:=gJ h
  simp only [List.map_cons,SW.dK H d,Mh b]
theorem SV.dK {x b:SV} (h:x.tr t=some b):b.den ρ' V=x.den T U:=by
 cases x <;> simp only [SV.tr] at h
 ·simp only [Option.map_eq_some_iff] at h
  obtain ⟨y,a,rfl⟩:=h
  exact SW.dK H a
 ·grind [Option.map_eq_some_iff,SV.den,Mh]
 ·obtain ⟨y,z,a,c,rfl⟩:=gJ h
  all_goals grind [SV.den,BE.dK,SW.dK]
theorem Mi:∀{l a:List aU},Dc t l=some a->(l=[]↔a=[])/\∀(p:Nat) (d:aU),a[p]?=some d->∃g n,l[p]?=some g/\t.m<=g.r/\g.n1.tr t=some n/\d={g with r:=g.r-t.m+t.d,n1:=n}
 | [],a,h=>by have _:=H;simp [Dc] at h;subst h;exact ⟨Iff.rfl,λp c h=>by simp at h⟩
 | g :: r,a,h=>by
  simp only [Dc] at h
  split at h
  ·cases h
  rename_i k
  obtain ⟨x,y,j,e,rfl⟩:=gJ h
  obtain ⟨-,i⟩:=Mi e
  refine ⟨by simp,λp f b=>?_⟩
  cases p with
  | zero=>simp at b;subst b;exact ⟨g,x,rfl,by simpa using k,j,rfl⟩
  | succ p=>simpa using i p f (by simpa using b)
theorem SB.abX {b a:SB} (h:b.tr t=some a) (B:a.gone=false):b.gone=false/\a.t=b.t/\a.ro=b.ro/\a.own=b.own/\a.nl.den ρ'=b.nl.den T/\∀arr,b.has T U arr->a.has ρ' V arr:=by
 unfold SB.tr at h
 split at h
 ·simp at h;subst h;cases B
 rename_i J
 split at h
 case isFalse=>cases h
 rename_i k
 have q:b.ups=[]:=by simpa using k
 split at h
 case h_2=>cases h
 rename_i D C nl E z Q
 obtain ⟨c1,c2⟩:=OO H E
 obtain ⟨s1,s2⟩:=Mi H z
 have key:∀d:SB,d.cs=D->d.bz=C->d.ups=b.ups->d.opn=b.opn->(∀e n,d.cap=some (e,n)->∃f,b.cap=some (f,n)/\f.tr t=some e)->∀arr,b.has T U arr->d.has ρ' V arr:=by
  intro d w s M O y arr o
  refine ⟨λu k=>(by rw [M,q] at k;cases k),λK I=>?_,λe n N=>?_,λp c G P=>?_,λx g m L A j a1 a2 a3=>?_⟩
  ·rw [w,c1]
   exact o.size (s1.2 (s ▸ K)) (O ▸ I)
  ·obtain ⟨f,i,l⟩:=y e n N
   rw [IE.dK H l]
   exact o.cap f n i
  ·obtain ⟨S,i,l⟩:=c2 p c (w ▸ G)
   obtain ⟨r,-,R⟩:=SC.dK H l
   all_goals grind [SB.has.ex,SC.isHole]
  ·obtain ⟨F,n,i,l,r,rfl⟩:=s2 x g (s ▸ m)
   simp only [IE.dK H r] at a1
   have:=o.sg x F i L A j a1 a2 a3
   all_goals grind [dD,aU.base,WQ.ic,bY.ic,WQ.bc,bY.bc,WQ.vc,bY.vc]
 all_goals grind [BE.dK]
end
end Go.Rex
