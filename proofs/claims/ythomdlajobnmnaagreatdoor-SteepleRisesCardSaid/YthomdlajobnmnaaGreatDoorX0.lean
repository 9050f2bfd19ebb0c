/- part 0 of the proof -/
import Derived.WalkKit
import Derived.OrdersHeld
set_option linter.unusedSimpArgs false
set_option linter.unusedVariables false
universe u
namespace Go.Rex
structure Env where
 iv:Nat->Int:=λ_=>0
 bv:Nat->Bool:=λ_=>false
 vv:Nat->Value:=λ_=>undef
 ic:Nat->Nat->Nat->Nat->Int:=λ_ _ _ _=>0
 bc:Nat->Nat->Nat->Nat->Bool:=λ_ _ _ _=>false
 vc:Nat->Nat->Nat->Nat->Value:=λ_ _ _ _=>undef
theorem iN {c:Prop} [Decidable c] {α:Sort u} {a b:α} (h:¬c:=by omega):ite c a b=b:=if_neg h
def Env.join (ρ:Env) (nv:Nat) (e:Env):Env where
 iv:=λi=>if i<nv then ρ.iv i else e.iv i
 bv:=λi=>if i<nv then ρ.bv i else e.bv i
 vv:=λi=>if i<nv then ρ.vv i else e.vv i
 ic:=λi=>if i<nv then ρ.ic i else e.ic i
 bc:=λi=>if i<nv then ρ.bc i else e.bc i
 vc:=λi=>if i<nv then ρ.vc i else e.vc i
def lX:IntKind->IntKind->Bool
 | .i8,.i8 | .i16,.i16 | .i32,.i32 | .i64,.i64 | .u8,.u8 | .u16,.u16 | .u32,.u32 | .u64,.u64=>true
 | _,_=>false
theorem jK {a b:IntKind} (h:lX a b=true):a=b:=by cases a <;> cases b <;> simp_all [lX]
inductive IE where
 | lit (n:Int) | var (i:Nat)
 | add (a b:IE) | sub (a b:IE) | mul (a b:IE) | div (a b:IE) | mod (a b:IE)
 | wrap (k:IntKind) (a:IE)
 | sK (a b:IE) | imax (a b:IE)
 | cell (r:Nat) (i1 i2:IE) (j:Nat)
 deriving Inhabited
def IE.den (ρ:Env):IE->Int
 | .lit n=>n
 | .var i=>ρ.iv i
 | .add a b=>a.den ρ+b.den ρ
 | .sub a b=>a.den ρ-b.den ρ
 | .mul a b=>a.den ρ * b.den ρ
 | .div a b=>(a.den ρ).tdiv (b.den ρ)
 | .mod a b=>(a.den ρ).tmod (b.den ρ)
 | .wrap k a=>k.wrap (a.den ρ)
 | .sK a b=>min (a.den ρ) (b.den ρ)
 | .imax a b=>max (a.den ρ) (b.den ρ)
 | .cell r c d j=>ρ.ic r (c.den ρ).toNat (d.den ρ).toNat j
def IE.same:IE->IE->Bool
 | .lit n,.lit m=>n == m
 | .var i,.var j=>i == j
 | .add a b,.add c d=>a.same c && b.same d
 | .sub a b,.sub c d=>a.same c && b.same d
 | .mul a b,.mul c d=>a.same c && b.same d
 | .div a b,.div c d=>a.same c && b.same d
 | .mod a b,.mod c d=>a.same c && b.same d
 | .wrap k a,.wrap l b=>lX k l && a.same b
 | .sK a b,.sK c d=>a.same c && b.same d
 | .imax a b,.imax c d=>a.same c && b.same d
 | .cell r a b j,.cell s c d k=>r == s && a.same c && b.same d && j == k
 | _,_=>false
theorem IE.aA:∀{a b:IE},a.same b=true->a=b:=by
 intro a
 induction a with
 | lit n=>intro b h;cases b <;> simp_all [IE.same]
 | var n=>intro b h;cases b <;> simp_all [IE.same]
 | add a b d e=>intro c h;cases c <;> simp [IE.same] at h;rw [d h.1,e h.2]
 | sub a b d e=>intro c h;cases c <;> simp [IE.same] at h;rw [d h.1,e h.2]
 | mul a b d e=>intro c h;cases c <;> simp [IE.same] at h;rw [d h.1,e h.2]
 | div a b d e=>intro c h;cases c <;> simp [IE.same] at h;rw [d h.1,e h.2]
 | mod a b d e=>intro c h;cases c <;> simp [IE.same] at h;rw [d h.1,e h.2]
 | wrap k a f=>intro c h;cases c <;> simp [IE.same] at h;rw [jK h.1,f h.2]
 | sK a b d e=>intro c h;cases c <;> simp [IE.same] at h;rw [d h.1,e h.2]
 | imax a b d e=>intro c h;cases c <;> simp [IE.same] at h;rw [d h.1,e h.2]
 | cell r a b j d e=>intro c h;cases c <;> simp [IE.same] at h;rw [h.1.1.1,d h.1.1.2,e h.1.2,h.2]
inductive BE where
 | lit (b:Bool) | var (i:Nat)
 | not (a:BE) | and (a b:BE) | or (a b:BE) | ite (c a b:BE)
 | ag (a b:IE) | ah (a b:IE) | aY (a b:IE)
 | beq (a b:BE)
 | inr (k:IntKind) (a:IE)
 | cell (r:Nat) (i1 i2:IE) (j:Nat)
 deriving Inhabited
def BE.den (ρ:Env):BE->Bool
 | .lit b=>b
 | .var i=>ρ.bv i
 | .not a=>!a.den ρ
 | .and a b=>a.den ρ && b.den ρ
 | .or a b=>a.den ρ || b.den ρ
 | .ite c a b=>if c.den ρ then a.den ρ else b.den ρ
 | .ag a b=>a.den ρ == b.den ρ
 | .ah a b=>decide (a.den ρ<=b.den ρ)
 | .aY a b=>decide (a.den ρ<b.den ρ)
 | .beq a b=>a.den ρ == b.den ρ
 | .inr k a=>decide (k.min<=a.den ρ) && decide (a.den ρ<=k.max)
 | .cell r d e j=>ρ.bc r (d.den ρ).toNat (e.den ρ).toNat j
def BE.same:BE->BE->Bool
 | .lit n,.lit m=>n == m
 | .var i,.var j=>i == j
 | .not a,.not b=>a.same b
 | .and a b,.and c d=>a.same c && b.same d
 | .or a b,.or c d=>a.same c && b.same d
 | .ite a b e,.ite c d f=>a.same c && b.same d && e.same f
 | .ag a b,.ag c d=>IE.same a c && IE.same b d
 | .ah a b,.ah c d=>IE.same a c && IE.same b d
 | .aY a b,.aY c d=>IE.same a c && IE.same b d
 | .beq a b,.beq c d=>a.same c && b.same d
 | .inr k a,.inr l b=>lX k l && IE.same a b
 | .cell r a b j,.cell s c d k=>r == s && IE.same a c && IE.same b d && j == k
 | _,_=>false
theorem BE.aA:∀{a b:BE},a.same b=true->a=b:=by
 intro a
 induction a with
 | lit n=>intro b h;cases b <;> simp_all [BE.same]
 | var n=>intro b h;cases b <;> simp_all [BE.same]
 | not a i=>intro c h;cases c <;> simp [BE.same] at h;rw [i h]
 | and a b d f=>intro c h;cases c <;> simp [BE.same] at h;rw [d h.1,f h.2]
 | or a b d f=>intro c h;cases c <;> simp [BE.same] at h;rw [d h.1,f h.2]
 | ite a b e d f g=>intro c h;cases c <;> simp [BE.same] at h;rw [d h.1.1,f h.1.2,g h.2]
 | ag a b=>intro c h;cases c <;> simp [BE.same] at h;rw [IE.aA h.1,IE.aA h.2]
 | ah a b=>intro c h;cases c <;> simp [BE.same] at h;rw [IE.aA h.1,IE.aA h.2]
 | aY a b=>intro c h;cases c <;> simp [BE.same] at h;rw [IE.aA h.1,IE.aA h.2]
 | beq a b d f=>intro c h;cases c <;> simp [BE.same] at h;rw [d h.1,f h.2]
 | inr k a=>intro c h;cases c <;> simp [BE.same] at h;rw [jK h.1,IE.aA h.2]
 | cell r a b j=>intro c h;cases c <;> simp [BE.same] at h;rw [h.1.1.1,IE.aA h.1.1.2,IE.aA h.1.2,h.2]
abbrev Kn:=List (BE × Bool)
def Kn.ok (ρ:Env) (kn:Kn):Prop:=∀p∈kn,p.1.den ρ=p.2
def Kn.find (c:BE):Kn->Option Bool
 | []=>none
 | (d,b) :: r=>if c.same d then some b else Kn.find c r
theorem Kn.lJ {ρ:Env} {c:BE} {b:Bool}:∀{kn:Kn},Kn.ok ρ kn->Kn.find c kn=some b->c.den ρ=b
 | [],_,h=>by simp [Kn.find] at h
 | (d,x) :: r,a,h=>by
  unfold Kn.find at h
  split at h
  ·rename_i f
   rw [BE.aA f]
   have:=a (d,x) (by simp)
   simp at h
   rw [this];exact h
  ·exact Kn.lJ (λp e=>a p (by simp [e])) h
def IE.dM:IE->Option Int
 | .lit n=>some n
 | _=>none
theorem IE.df {ρ:Env} {a:IE} {n:Int} (h:a.dM=some n):a.den ρ=n:=by
 cases a <;> simp_all [IE.dM,IE.den]
def Kn.val (a:IE):Kn->Option Int
 | []=>none
 | (.ag x (.lit m),true) :: r=>if x.same a then some m else Kn.val a r
 | _ :: r=>Kn.val a r
theorem Kn.vZ {ρ:Env} {a:IE} {m:Int}:∀{kn:Kn},Kn.ok ρ kn->Kn.val a kn=some m->a.den ρ=m
 | [],_,h=>by simp [Kn.val] at h
 | p :: r,c,h=>by
  have d:Kn.ok ρ r:=λq e=>c q (by simp [e])
  unfold Kn.val at h
  split at h
  ·rename_i b
   cases b
  ·rename_i x n g b
   cases b
   split at h
   ·rename_i f
    have:=c (.ag x (.lit n),true) (by simp)
    simp only [BE.den,IE.den,beq_iff_eq] at this
    simp at h
    rw [<-IE.aA f,this,h]
   ·exact Kn.vZ d h
  ·rename_i b
   cases b
   exact Kn.vZ d h
def IE.val (kn:Kn) (a:IE):Option Int :=
 match a.dM with
 | some n=>some n
 | none=>Kn.val a kn
theorem IE.vZ {ρ:Env} {kn:Kn} {a:IE} {n:Int} (b:Kn.ok ρ kn) (h:a.val kn=some n):a.den ρ=n:=by
 grind [IE.val,IE.df,Kn.vZ]
def BE.decide (kn:Kn):BE->Option Bool
 | .lit b=>some b
 | .var i=>Kn.find (.var i) kn
 | .cell r a b j=>Kn.find (.cell r a b j) kn
 | .ite c a b=>Kn.find (.ite c a b) kn
 | .beq a b=>Kn.find (.beq a b) kn
 | .not a=>(a.decide kn).map (!·)
 | .and a b =>
  match a.decide kn,b.decide kn with
  | some false,_=>some false
  | _,some false=>some false
  | some true,some true=>some true
  | _,_=>Kn.find (.and a b) kn
 | .or a b =>
  match a.decide kn,b.decide kn with
  | some true,_=>some true
  | _,some true=>some true
  | some false,some false=>some false
  | _,_=>Kn.find (.or a b) kn
 | .ag a b =>
  match a.val kn,b.val kn with
  | some x,some y=>some (x == y)
  | _,_ =>
   if a.same b then some true else
   match Kn.find (.ag a b) kn with
   | some r=>some r
   | none=>Kn.find (.ag b a) kn
 | .ah a b =>
  match a.val kn,b.val kn with
  | some x,some y=>some (Decidable.decide (x<=y))
  | _,_=>if a.same b then some true else Kn.find (.ah a b) kn
 | .aY a b =>
  match a.val kn,b.val kn with
  | some x,some y=>some (Decidable.decide (x<y))
  | _,_=>Kn.find (.aY a b) kn
 | .inr k a =>
  match a.dM with
  | some x=>some (Decidable.decide (k.min<=x) && Decidable.decide (x<=k.max))
  | none=>Kn.find (.inr k a) kn
theorem BE.dR {ρ:Env} {kn:Kn} (d:Kn.ok ρ kn):∀{c:BE} {b:Bool},c.decide kn=some b->c.den ρ=b:=by
 intro c
 induction c with
 | lit x=>intro b h;simpa [BE.decide,BE.den] using h
 | not a l =>
  grind [BE.decide,Option.map_eq_some_iff,BE.den]
 | and x y f e =>
  grind [BE.decide,BE.den,Kn.lJ]
 | or x y f e =>
  grind [BE.decide,BE.den,Kn.lJ]
 | ag x y =>
  intro b h
  simp only [BE.decide] at h
  split at h
  ·grind [BE.den,IE.vZ]
  ·split at h
   ·grind [BE.den,IE.aA]
   ·split at h
    ·grind [Kn.lJ]
    ·have:=Kn.lJ (c:=.ag y x) d h
     all_goals grind [BE.den,Bool.beq_comm]
 | ah x y =>
  grind [BE.decide,BE.den,IE.vZ,IE.aA,Kn.lJ]
 | aY x y =>
  grind [BE.decide,BE.den,IE.vZ,Kn.lJ]
 | inr k x =>
  grind [BE.decide,BE.den,IE.df,Kn.lJ]
 | var i=>intro b h;exact Kn.lJ (c:=.var i) d (by simpa [BE.decide] using h)
 | ite c a b _ _ _=>intro g h;exact Kn.lJ (c:=.ite c a b) d (by simpa [BE.decide] using h)
 | beq a b _ _=>intro g h;exact Kn.lJ (c:=.beq a b) d (by simpa [BE.decide] using h)
 | cell r a b j=>intro g h;exact Kn.lJ (c:=.cell r a b j) d (by simpa [BE.decide] using h)
def IE.jL (a b:IE):IE :=
 match a.dM,b.dM with
 | some x,some y=>.lit (x+y)
 | some x,none=>if x == 0 then b else .add a b
 | none,some y=>if y == 0 then a else .add a b
 | _,_=>.add a b
theorem IE.nG (ρ:Env) (a b:IE):(a.jL b).den ρ=a.den ρ+b.den ρ:=by
 grind [IE.jL,IE.df,IE.den]
def BE.dM:BE->Option Bool
 | .lit b=>some b
 | _=>none
theorem BE.df {ρ:Env} {a:BE} {b:Bool} (h:a.dM=some b):a.den ρ=b:=by
 cases a <;> simp_all [BE.dM,BE.den]
def BE.oI (a:BE):BE:=match a with | .lit b=>.lit (!b) | .not b=>b | c=>.not c
theorem BE.jW (ρ:Env) (a:BE):a.oI.den ρ=!a.den ρ:=by
 unfold BE.oI;split <;> simp [BE.den]
def BE.uE (a b:BE):BE :=
 match a.dM with
 | some true=>b
 | some false=>.lit false
 | none=>match b.dM with
  | some true=>a
  | some false=>.lit false
  | none=>.and a b
theorem BE.Af (ρ:Env) (a b:BE):(a.uE b).den ρ=(a.den ρ && b.den ρ):=by
 grind [BE.uE,BE.df,BE.den]
def BE.Zp (c a b:BE):BE :=
 match c.dM with
 | some true=>a
 | some false=>b
 | none =>
  match a.dM,b.dM with
  | some true,some false=>c
  | some false,some true=>.not c
  | some true,some true=>.lit true
  | some false,some false=>.lit false
  | some true,none=>.or c b
  | some false,none=>.and (.not c) b
  | none,some false=>.and c a
  | none,some true=>.or (.not c) a
  | none,none=>.ite c a b
theorem BE.Ob (ρ:Env) (c a b:BE):(c.Zp a b).den ρ=if c.den ρ then a.den ρ else b.den ρ:=by
 grind [BE.Zp,BE.df,BE.den]
structure SA where
 ak:Nat
 i1:IE:=.lit 0
 s1:Nat:=0
 i2:IE:=.lit 0
 s2:Nat:=0
 j:Nat:=0
 deriving Inhabited
def SA.off (ρ:Env) (a:SA):Nat:=(a.i1.den ρ).toNat * a.s1+(a.i2.den ρ).toNat * a.s2+a.j
theorem Addr.add_add (a:Addr) (m n:Nat):(a.add m).add n=a.add (m+n):=by
 unfold Addr.add
 all_goals grind
theorem Addr.add_zero (a:Addr):a.add 0=a:=by
 simp [Addr.add]
def SA.den (ρ:Env) (ν:Nat->Addr) (a:SA):Addr:=(ν a.ak).add (a.off ρ)
def SA.same (a b:SA):Bool:=a.ak == b.ak && a.i1.same b.i1 && a.s1 == b.s1 && a.i2.same b.i2 && a.s2 == b.s2 && a.j == b.j
theorem SA.aA {a b:SA} (h:a.same b=true):a=b:=by
 obtain ⟨_,_,_,_,_,_⟩:=a
 obtain ⟨_,_,_,_,_,_⟩:=b
 all_goals grind [SA.same,IE.aA]
theorem ad1 (ρ:Env) (ν:Nat->Addr) (a:SA) (n:Nat):(a.den ρ ν).add n=({a with j:=a.j+n}:SA).den ρ ν:=by
 unfold SA.den SA.off
 rw [Addr.add_add,Nat.add_assoc]
inductive SC where
 | int (k:IntKind) (e:IE)
 | bool (b:BE)
 | str (l:List UInt8)
 | val (i:Nat)
 | kV (r:Nat) (i1 i2:IE) (j:Nat)
 | ptr (a:SA)
 | dB
 | sl (a:SA) (len cap:IE)
 | dA
 | eu (c:BE) (a:SA) (len cap:IE)
 | fn (f:FuncId) (lh:List Nat)
 | mI
 | iface (t:TypeId) (c:SC)
 | dW
 | jH (c:BE) (x:SC)
 | mp (b:Nat)
 | ug
 | hole
 | rt (t b o:Nat)
 deriving Inhabited
def CG (v:Value):Value:=if v.oneCell' then v else .nilIface
theorem Gi (v:Value):(CG v).oneCell'=true:=by unfold CG;split <;> simp_all [Value.oneCell']
theorem EK {v:Value} (h:v.oneCell'=true):CG v=v:=by unfold CG;rw [if_pos h]
def SC.den (ρ:Env) (ν:Nat->Addr):SC->Value
 | .int k e=>.int k (e.den ρ)
 | .bool b=>.bool (b.den ρ)
 | .str l=>.string ⟨l.toArray⟩
 | .val i=>CG (ρ.vv i)
 | .kV r h d j=>CG (ρ.vc r (h.den ρ).toNat (d.den ρ).toNat j)
 | .ptr a=>.pointer (some (a.den ρ ν))
 | .dB=>.pointer none
 | .sl a len cap=>.slice (some (a.den ρ ν)) (len.den ρ).toNat (cap.den ρ).toNat
 | .dA=>.slice none 0 0
 | .eu c a len cap=>if c.den ρ then .slice none 0 0 else .slice (some (a.den ρ ν)) (len.den ρ).toNat (cap.den ρ).toNat
 | .fn f g=>.func (.func f) #[] (g.map λb=>Value.pointer (some (ν b))).toArray
 | .mI=>.nilFunc
 | .iface t c=>.iface t (c.den ρ ν)
 | .dW=>.nilIface
 | .jH c x=>if c.den ρ then .nilIface else x.den ρ ν
 | .mp b=>.map (some (ν b).block)
 | .ug=>.map none
 | .rt t b o=>.iface t (.agg #[.pointer (some ⟨b,o,none⟩)])
 | .hole=>undef
def SC.isHole:SC->Bool
 | .hole=>true
 | .jH _ x=>x.isHole
 | _=>false
def SC.same:SC->SC->Bool
 | .int k e,.int l f=>lX k l && e.same f
 | .bool a,.bool b=>a.same b
 | .str a,.str b=>a == b
 | .val i,.val j=>i == j
 | .kV r a b j,.kV s c d k=>r == s && a.same c && b.same d && j == k
 | .ptr a,.ptr b=>a.same b
 | .dB,.dB=>true
 | .sl a l c,.sl b m d=>a.same b && l.same m && c.same d
 | .dA,.dA=>true
 | .eu k a l c,.eu p b m d=>k.same p && a.same b && l.same m && c.same d
 | .fn f a,.fn g b=>f == g && a == b
 | .mI,.mI=>true
 | .iface t c,.iface u d=>t == u && c.same d
 | .dW,.dW=>true
 | .jH c x,.jH d y=>c.same d && x.same y
 | .mp a,.mp b=>a == b
 | .ug,.ug=>true
 | .rt t b o,.rt h n q=>t == h && b == n && o == q
 | .hole,.hole=>true
 | _,_=>false
theorem SC.aA:∀{a b:SC},a.same b=true->a=b:=by
 intro a
 induction a with
 | int k e=>intro b h;cases b <;> simp [SC.same] at h;rw [jK h.1,IE.aA h.2]
 | bool e=>intro b h;cases b <;> simp [SC.same] at h;rw [BE.aA h]
 | str l=>intro b h;cases b <;> simp [SC.same] at h;rw [h]
 | val l=>intro b h;cases b <;> simp [SC.same] at h;rw [h]
 | kV r m i j=>intro b h;cases b <;> simp [SC.same] at h;rw [h.1.1.1,IE.aA h.1.1.2,IE.aA h.1.2,h.2]
 | ptr a=>intro b h;cases b <;> simp [SC.same] at h;rw [SA.aA h]
 | dB=>intro b h;cases b <;> simp [SC.same] at h;rfl
 | sl a l c=>intro b h;cases b <;> simp [SC.same] at h;rw [SA.aA h.1.1,IE.aA h.1.2,IE.aA h.2]
 | dA=>intro b h;cases b <;> simp [SC.same] at h;rfl
 | eu k a l c=>intro b h;cases b <;> simp [SC.same] at h;rw [BE.aA h.1.1.1,SA.aA h.1.1.2,IE.aA h.1.2,IE.aA h.2]
 | fn f c=>intro b h;cases b <;> simp [SC.same] at h;rw [h.1,h.2]
 | mI=>intro b h;cases b <;> simp [SC.same] at h;rfl
 | iface t c d=>intro b h;cases b <;> simp [SC.same] at h;rw [h.1,d h.2]
 | dW=>intro b h;cases b <;> simp [SC.same] at h;rfl
 | jH c x d=>intro b h;cases b <;> simp [SC.same] at h;rw [BE.aA h.1,d h.2]
 | mp a=>intro b h;cases b <;> simp [SC.same] at h;rw [h]
 | ug=>intro b h;cases b <;> simp [SC.same] at h;rfl
 | rt t b o=>intro g h;cases g <;> simp [SC.same] at h;rw [h.1.1,h.1.2,h.2]
 | hole=>intro b h;cases b <;> simp [SC.same] at h;rfl
def xy:List SC->List SC->Bool
 | [],[]=>true
 | a :: r,b :: s=>a.same b && xy r s
 | _,_=>false
theorem Ag:∀{a b:List SC},xy a b=true->a=b
 | [],[],_=>rfl
 | [],_ :: _,h=>by simp [xy] at h
 | _ :: _,[],h=>by simp [xy] at h
 | a :: r,b :: s,h=>by
  simp [xy] at h
  rw [SC.aA h.1,Ag h.2]
theorem SC.vJ {ρ:Env} {ν:Nat->Addr}:∀(c:SC),c.isHole=false->(c.den ρ ν).oneCell'=true:=by
 intro c
 induction c with
 | jH k x a =>
  intro h
  have:=a h
  simp only [SC.den]
  split
  ·rfl
  ·exact this
 | _=>intro h;simp_all [SC.den,SC.isHole,Gi] <;> (try split) <;> simp [Value.oneCell']
inductive SW where
 | one (c:SC)
 | agg (cs:List SC)
 deriving Inhabited
def SW.den (ρ:Env) (ν:Nat->Addr):SW->Value
 | .one c=>c.den ρ ν
 | .agg a=>.agg (a.map (·.den ρ ν)).toArray
def SW.cells:SW->List SC
 | .one c=>[c]
 | .agg a=>a
def SW.same:SW->SW->Bool
 | .one a,.one b=>a.same b
 | .agg a,.agg b=>xy a b
 | _,_=>false
theorem SW.aA {a b:SW} (h:a.same b=true):a=b:=by
 cases a <;> cases b <;> simp [SW.same] at h
 ·rw [SC.aA h]
 ·rw [Ag h]
inductive SV where
 | w (x:SW)
 | iB (xs:List SW)
 | gd (c:BE) (x:SW)
 deriving Inhabited
def SV.den (ρ:Env) (ν:Nat->Addr):SV->Value
 | .w x=>x.den ρ ν
 | .iB a=>.tuple (a.map (·.den ρ ν)).toArray
 | .gd c x=>if c.den ρ then x.den ρ ν else undef
inductive Kd where
 | int (k:IntKind) | bool | val
 deriving Inhabited
structure aU where
 r:Nat
 n1:IE:=.lit 1
 s1:Nat:=0
 n2:Nat:=1
 s2:Nat:=0
 lo:Nat:=0
 ks:List Kd
 z:Bool:=false
 deriving Inhabited
structure Up where
 g:Nat
 i1:IE
 i2:IE
 j:Nat
 c:SC
 deriving Inhabited
structure SB where
 t:TypeId
 cs:List SC:=[]
 bz:List aU:=[]
 ups:List Up:=[]
 gone:Bool:=false
 opn:Bool:=false
 cap:Option (IE × Nat):=none
 ro:Bool:=false
 own:Bool:=false
 nl:BE:=.lit false
 deriving Inhabited
def aU.base (ρ:Env) (g:aU) (a b j:Nat):Value :=
 match g.ks[j]? with
 | some (.int k)=>.int k (if g.z then 0 else ρ.ic g.r a b j)
 | some .bool=>.bool (if g.z then false else ρ.bc g.r a b j)
 | _=>CG (ρ.vc g.r a b j)
def dD (ρ:Env) (ν:Nat->Addr):List Up->Nat->Nat->Nat->Nat->Value->Value
 | [],_,_,_,_,b=>b
 | u :: r,g,a,c,j,b =>
  if u.g=g/\(u.i1.den ρ).toNat=a/\(u.i2.den ρ).toNat=c/\u.j=j then u.c.den ρ ν else dD ρ ν r g a c j b
structure SB.has (ρ:Env) (ν:Nat->Addr) (sb:SB) (cs:Array Value):Prop where
 un:∀u∈sb.ups,0<=u.i1.den ρ/\0<=u.i2.den ρ
 size:sb.bz=[]->sb.opn=false->cs.size=sb.cs.length
 cap:∀e n,sb.cap=some (e,n)->0<=e.den ρ/\cs.size=(e.den ρ).toNat * n
 ex:∀(p:Nat) (c:SC),sb.cs[p]?=some c->c.isHole=false->cs[p]?=some (c.den ρ ν)
 sg:∀(gi:Nat) (g:aU),sb.bz[gi]?=some g->∀i1 i2 j:Nat,(i1:Int)<g.n1.den ρ->i2<g.n2->j<g.ks.length ->
  cs[i1 * g.s1+i2 * g.s2+g.lo+j]?=some (dD ρ ν sb.ups gi i1 i2 j (g.base ρ i1 i2 j))
def aU.inner (g:aU):Nat:=(g.n2-1) * g.s2+g.ks.length
def aU.ext (g:aU):Option Nat:=g.n1.dM.map λn=>(n.toNat-1) * g.s1+g.inner
def Im (g h:aU):Bool :=
 (match g.ext,h.ext with
  | some e,some f=>decide (g.lo+e<=h.lo) || decide (h.lo+f<=g.lo)
  | _,_=>false) ||
 (g.s1 == h.s1 && (decide (g.lo+g.inner<=h.lo) || decide (h.lo+h.inner<=g.lo)) && decide (g.lo+g.inner<=g.s1) && decide (h.lo+h.inner<=h.s1))
def aU.one (g:aU):Bool:=match g.n1.dM with | some n=>decide (n<=1) | none=>false
def aU.inj (g:aU):Bool:=(decide (g.n2<=1) || decide (g.ks.length<=g.s2)) && (g.one || decide (g.inner<=g.s1))
def Io (g:aU) (p:Nat):Bool:=match g.ext with | some e=>decide (p<g.lo) || decide (g.lo+e<=p) | none=>false
theorem wh {g:aU} {a j:Nat} (c:a<g.n2) (b:j<g.ks.length):a * g.s2+j<g.inner:=by
 unfold aU.inner
 have:a * g.s2<=(g.n2-1) * g.s2:=Nat.mul_le_mul_right _ (by omega)
 omega
theorem Oc {ρ:Env} {g:aU} {e a c j:Nat} (b:g.ext=some e) (h:(a:Int)<g.n1.den ρ) (d:c<g.n2) (f:j<g.ks.length) :
  a * g.s1+c * g.s2+j<e:=by
 unfold aU.ext at b
 simp only [Option.map_eq_some_iff] at b
 obtain ⟨n,i,rfl⟩:=b
 rw [IE.df i] at h
 have:=wh d f
 have k:a * g.s1<=(n.toNat-1) * g.s1:=Nat.mul_le_mul_right _ (by omega)
 omega
theorem Od {ρ:Env} {g:aU} {p a b j:Nat} (h:Io g p=true) (i:(a:Int)<g.n1.den ρ) (d:b<g.n2) (f:j<g.ks.length) :
  a * g.s1+b * g.s2+g.lo+j≠p:=by
 unfold Io at h
 split at h
 ·rename_i e c
  have:=Oc c i d f
  simp at h
  omega
 ·cases h
theorem afz {s lo d n e a b x y:Nat} (g:lo+n<=s) (j:d+e<=s) (k:x<n) (i:y<e) (f:lo+n<=d\/d+e<=lo) :
  a * s+lo+x≠b * s+d+y:=by
 intro h
 rcases Nat.lt_trichotomy a b with c | c | c
 ·have:(a+1) * s<=b * s:=Nat.mul_le_mul_right _ c
  rw [Nat.add_mul] at this
  omega
 ·subst c;omega
 ·have:(b+1) * s<=a * s:=Nat.mul_le_mul_right _ c
  rw [Nat.add_mul] at this
  omega
theorem Wu {ρ:Env} {g h:aU} {n p j k s l:Nat} (c:Im g h=true) (u:(n:Int)<g.n1.den ρ) (o:p<g.n2) (t:j<g.ks.length)
  (m:(k:Int)<h.n1.den ρ) (d:s<h.n2) (r:l<h.ks.length) :
  n * g.s1+p * g.s2+g.lo+j≠k * h.s1+s * h.s2+h.lo+l:=by
 unfold Im at c
 rw [Bool.or_eq_true] at c
 rcases c with c | c
 ·split at c
  ·rename_i e f A w
   have:=Oc A u o t
   have:=Oc w m d r
   simp at c
   omega
  ·cases c
 ·simp at c
  obtain ⟨⟨⟨z,i⟩,B⟩,q⟩:=c
  have y:=wh o t
  have x:=wh d r
  rw [<-z] at q ⊢
  have:=afz (a:=n) (b:=k) B q y x i
  omega
theorem afA {ρ:Env} {g:aU} {e b j d c l:Nat} (i:g.inj=true) (s:(e:Int)<g.n1.den ρ) (m:b<g.n2) (r:j<g.ks.length)
  (o:(d:Int)<g.n1.den ρ) (f:c<g.n2) (p:l<g.ks.length) (x:e * g.s1+b * g.s2+g.lo+j=d * g.s1+c * g.s2+g.lo+l) :
  e=d/\b=c/\j=l:=by
 unfold aU.inj at i
 simp at i
 obtain ⟨k,h⟩:=i
 have w:=wh m r
 have u:=wh f p
 have q:e=d:=by
  rcases h with h | h
  ·grind [aU.one,IE.df]
  ·rcases Nat.lt_trichotomy e d with a | a | a
   ·have:(e+1) * g.s1<=d * g.s1:=Nat.mul_le_mul_right _ a
    rw [Nat.add_mul] at this
    omega
   ·exact a
   ·have:(d+1) * g.s1<=e * g.s1:=Nat.mul_le_mul_right _ a
    rw [Nat.add_mul] at this
    omega
 subst q
 have n:b * g.s2+j=c * g.s2+l:=by omega
 have t:b=c:=by
  rcases k with k | k
  ·omega
  ·rcases Nat.lt_trichotomy b c with a | a | a
   ·have:(b+1) * g.s2<=c * g.s2:=Nat.mul_le_mul_right _ a
    rw [Nat.add_mul] at this
    omega
   ·exact a
   ·have:(c+1) * g.s2<=b * g.s2:=Nat.mul_le_mul_right _ a
    rw [Nat.add_mul] at this
    omega
 all_goals grind
inductive Loc where
 | ex (p:Nat)
 | sg (gi:Nat) (g:aU) (i1 i2:IE) (j:Nat)
 deriving Inhabited
def Loc.gN:Loc->List BE
 | .ex _=>[]
 | .sg _ g a b _=>[.ah (.lit 0) a,.aY a g.n1,.ah (.lit 0) b,.aY b (.lit g.n2)]
def Loc.pos (ρ:Env):Loc->Nat
 | .ex p=>p
 | .sg _ g a b j=>(a.den ρ).toNat * g.s1+(b.den ρ).toNat * g.s2+g.lo+j
def Loc.ok (sb:SB):Loc->Prop
 | .ex p=>∃c,sb.cs[p]?=some c/\c.isHole=false
 | .sg a g _ _ j=>sb.bz[a]?=some g/\j<g.ks.length
def SA.dM (a:SA):Option Nat :=
 match a.i1.dM,a.i2.dM with
 | some x,some y=>some (x.toNat * a.s1+y.toNat * a.s2+a.j)
 | _,_=>none
theorem SA.df {ρ:Env} {a:SA} {p:Nat} (h:a.dM=some p):a.off ρ=p:=by
 grind [SA.dM,SA.off,IE.df]
def aU.below (g:aU) (n:Nat):Bool:=match g.n1.dM with | some m=>decide ((n:Int)<m) | none=>false
def qQ (a:SA) (k:Nat):List aU->Nat->Option Loc
 | [],_=>none
 | g :: r,b =>
  let q:=a.j+k
  if a.s1 == g.s1 && a.s2 == g.s2 && decide (g.lo<=q) && decide (q<g.lo+g.ks.length) then some (.sg b g a.i1 a.i2 (q-g.lo))
  else if a.s1 == g.s1 && a.s2 == 0 && decide (g.lo<=q) && decide (0<g.s2) && decide ((q-g.lo) % g.s2<g.ks.length) && decide ((q-g.lo) / g.s2<g.n2) then
   some (.sg b g a.i1 (.lit ((q-g.lo) / g.s2:Nat)) ((q-g.lo) % g.s2))
  else if a.s1 == 0 && a.s2 == 0 && g.s2 == 0 && decide (g.lo<=q) && decide (0<g.s1) && decide ((q-g.lo) % g.s1<g.ks.length) && g.below ((q-g.lo) / g.s1) then
   some (.sg b g (.lit ((q-g.lo) / g.s1:Nat)) (.lit 0) ((q-g.lo) % g.s1))
  else qQ a k r (b+1)
theorem Ip {ρ:Env} {a:SA} {k:Nat} {l:Loc}:∀{gs:List aU} {gi:Nat} {sb:SB},(∀i,gs[i]?=sb.bz[gi+i]?)->qQ a k gs gi=some l ->
  l.ok sb/\l.pos ρ=a.off ρ+k
 | [],_,_,_,h=>by simp [qQ] at h
 | g :: r,gi,sb,m,h=>by
  unfold qQ at h
  have c:sb.bz[gi]?=some g:=by have:=m 0;simpa using this.symm
  simp only at h
  split at h
  ·rename_i b
   simp only [Bool.and_eq_true,beq_iff_eq,decide_eq_true_eq,Option.some.injEq] at b h
   subst h
   obtain ⟨⟨⟨e,d⟩,j⟩,n⟩:=b
   refine ⟨⟨c,by omega⟩,?_⟩
   simp only [Loc.pos,SA.off,e,d]
   omega
  ·split at h
   ·rename_i _ b
    simp only [Bool.and_eq_true,beq_iff_eq,decide_eq_true_eq,Option.some.injEq] at b h
    subst h
    obtain ⟨⟨⟨⟨⟨e,d⟩,j⟩,n⟩,o⟩,p⟩:=b
    refine ⟨⟨c,o⟩,?_⟩
    have f:=Nat.div_add_mod (a.j+k-g.lo) g.s2
    rw [Nat.mul_comm] at f
    simp only [Loc.pos,SA.off,e,d,IE.den,Int.toNat_natCast]
    omega
   ·split at h
    ·rename_i _ _ b
     simp only [Bool.and_eq_true,beq_iff_eq,decide_eq_true_eq,Option.some.injEq] at b h
     subst h
     obtain ⟨⟨⟨⟨⟨⟨e,d⟩,j⟩,n⟩,o⟩,p⟩,q⟩:=b
     refine ⟨⟨c,p⟩,?_⟩
     have f:=Nat.div_add_mod (a.j+k-g.lo) g.s1
     rw [Nat.mul_comm] at f
     simp only [Loc.pos,SA.off,e,d,j,IE.den,Int.toNat_natCast]
     omega
    ·exact Ip (gs:=r) (gi:=gi+1) (λi=>by have:=m (i+1);simpa [Nat.add_assoc,Nat.add_comm 1 i] using this) h
def SB.loc (sb:SB) (a:SA) (k:Nat):Option Loc :=
 match a.dM with
 | some p =>
  match sb.cs[p+k]? with
  | some c=>if c.isHole then qQ a k sb.bz 0 else some (.ex (p+k))
  | none=>qQ a k sb.bz 0
 | none=>qQ a k sb.bz 0
theorem SB.Wv {ρ:Env} {sb:SB} {a:SA} {k:Nat} {l:Loc} (h:sb.loc a k=some l):l.ok sb/\l.pos ρ=a.off ρ+k:=by
 grind [SB.loc,qQ,Kn.ok,Loc.ok,Loc.pos,SA.off,Ip,SA.df]
inductive Rd (α:Type) where
 | ok (x:α)
 | br (c:BE)
 | no
def sM (kn:Kn) (gi:Nat) (a b:IE) (j:Nat) (base:SC):List Up->Rd SC
 | []=>.ok base
 | u :: r =>
  if u.g == gi && u.j == j then
   match (BE.ag a u.i1).decide kn,(BE.ag b u.i2).decide kn with
   | some true,some true=>.ok u.c
   | some false,_=>sM kn gi a b j base r
   | _,some false=>sM kn gi a b j base r
   | none,_=>.br (.ag a u.i1)
   | _,none=>.br (.ag b u.i2)
  else sM kn gi a b j base r
def aU.Og (g:aU) (a b:IE) (j:Nat):SC :=
 match g.ks[j]? with
 | some (.int k)=>.int k (if g.z then .lit 0 else .cell g.r a b j)
 | some .bool=>.bool (if g.z then .lit false else .cell g.r a b j)
 | _=>.kV g.r a b j
theorem aU.Ud (ρ:Env) (ν:Nat->Addr) (g:aU) (a b:IE) (j:Nat) :
  (g.Og a b j).den ρ ν=g.base ρ (a.den ρ).toNat (b.den ρ).toNat j:=by
 grind [aU.Og,aU.base,SC.den,IE.den,BE.den]
def SB.read (kn:Kn) (sb:SB):Loc->Rd SC
 | .ex p=>match sb.cs[p]? with | some c=>.ok c | none=>.no
 | .sg d g a b j=>sM kn d a b j (g.Og a b j) sb.ups
theorem Iq {ρ:Env} {ν:Nat->Addr} {kn:Kn} (d:Kn.ok ρ kn) {gi:Nat} {g f:IE} {j:Nat} {base c:SC} (p:0<=g.den ρ) (q:0<=f.den ρ) :
  ∀{us:List Up},(∀u∈us,0<=u.i1.den ρ/\0<=u.i2.den ρ)->sM kn gi g f j base us=.ok c ->
  dD ρ ν us gi (g.den ρ).toNat (f.den ρ).toNat j (base.den ρ ν)=c.den ρ ν
 | [],_,h=>by simp [sM] at h;subst h;rfl
 | u :: r,m,h=>by
  have i:=Iq (ν:=ν) d (gi:=gi) (j:=j) (base:=base) (c:=c) p q (us:=r) (λu o=>m u (by simp [o]))
  obtain ⟨t,s⟩:=m u (by simp)
  unfold sM at h
  unfold dD
  split at h
  ·rename_i b
   simp at b
   split at h
   ·rename_i e n
    have a:=BE.dR d e
    have k:=BE.dR d n
    simp [BE.den] at a k
    simp at h
    rw [if_pos ⟨b.1,by rw [a],by rw [k],b.2⟩,h]
   ·rename_i e
    have a:=BE.dR d e
    simp [BE.den] at a
    rw [iN]
    exact i h
   ·rename_i e _
    have a:=BE.dR d e
    simp [BE.den] at a
    rw [iN]
    exact i h
   ·cases h
   ·cases h
  ·rename_i b
   simp at b
   rw [if_neg (by intro l;exact b l.1 l.2.2.2)]
   exact i h
theorem Ww {ρ:Env} {gi:Nat} {g:aU} {a b:IE} {j:Nat} (h:∀o∈(Loc.sg gi g a b j).gN,o.den ρ=true) :
  0<=a.den ρ/\a.den ρ<g.n1.den ρ/\0<=b.den ρ/\b.den ρ<g.n2:=by
 simp only [Loc.gN,List.mem_cons,List.not_mem_nil,or_false,forall_eq_or_imp,forall_eq,BE.den,IE.den,decide_eq_true_eq] at h
 all_goals grind
theorem SB.ad2 {ρ:Env} {ν:Nat->Addr} {kn:Kn} (k:Kn.ok ρ kn) {sb:SB} {cs:Array Value} (a:sb.has ρ ν cs) {l:Loc} (e:l.ok sb)
  (m:∀o∈l.gN,o.den ρ=true) {c:SC} (h:sb.read kn l=.ok c):cs[l.pos ρ]?=some (c.den ρ ν):=by
 cases l with
 | ex p =>
  obtain ⟨d,hd,n⟩:=e
  simp [SB.read,hd] at h
  subst h
  exact a.ex p d hd n
 | sg s g q f j =>
  obtain ⟨i,r⟩:=e
  obtain ⟨a1,a2,a3,a4⟩:=Ww m
  have:=a.sg s g i (q.den ρ).toNat (f.den ρ).toNat j (by omega) (by omega) r
  simp only [Loc.pos]
  rw [this]
  have b:=Iq (ν:=ν) k a1 a3 a.un h
  rw [aU.Ud] at b
  rw [b]
def xz (gi:Nat) (g:aU):List aU->Nat->Bool
 | [],_=>true
 | h :: r,i=>(i == gi || Im g h) && xz gi g r (i+1)
theorem CJ {gi:Nat} {g:aU}:∀{a:List aU} {i:Nat},xz gi g a i=true->∀k h,a[k]?=some h->i+k≠gi->Im g h=true
 | [],_,_,k,h,b,_=>by simp at b
 | x :: r,i,a,k,h,b,c=>by
  simp [xz] at a
  cases k with
  | zero =>
   simp at b
   subst b
   exact a.1.resolve_left (by omega)
  | succ k=>exact CJ a.2 k h (by simpa using b) (by omega)
def Ir (g:aU):List SC->Nat->Bool
 | [],_=>true
 | c :: r,p=>(c.isHole || Io g p) && Ir g r (p+1)
theorem LU {g:aU}:∀{cs:List SC} {p:Nat},Ir g cs p=true->∀(k:Nat) (c:SC),cs[k]?=some c->c.isHole=false->Io g (p+k)=true
 | [],_,_,k,c,a,_=>by simp at a
 | x :: r,p,d,k,c,a,b=>by
  simp [Ir] at d
  cases k with
  | zero =>
   simp at a
   subst a
   exact d.1.resolve_left (by simp [b])
  | succ k =>
   have:=LU d.2 k c (by simpa using a) b
   rwa [Nat.add_assoc,Nat.add_comm 1 k] at this
def SB.write (sb:SB) (l:Loc) (c:SC):Option SB :=
 if c.isHole then none else
 match l with
 | .ex p=>if sb.bz.all (Io · p) then some {sb with cs:=sb.cs.set p c} else none
 | .sg a g b d j=>if g.inj && xz a g sb.bz 0 && Ir g sb.cs 0 then some {sb with ups:=⟨a,b,d,j,c⟩ :: sb.ups} else none
theorem SB.Zq {ρ:Env} {ν:Nat->Addr} {sb B:SB} {cs:Array Value} (i:sb.has ρ ν cs) {l:Loc} (O:l.ok sb)
  (C:∀o∈l.gN,o.den ρ=true) {c:SC} (h:sb.write l c=some B):B.has ρ ν (cs.setIfInBounds (l.pos ρ) (c.den ρ ν))/\l.pos ρ<cs.size:=by
 unfold SB.write at h
 split at h
 ·cases h
 rename_i T
 cases l with
 | ex p =>
  obtain ⟨d,hd,S⟩:=O
  simp only at h
  split at h
  ·rename_i F
   simp at h
   subst h
   have a:=i.ex p d hd S
   have k:p<cs.size:=(Array.getElem?_eq_some_iff.1 a).1
   refine ⟨⟨i.un,λr C=>by simp [i.size r C],λe n s=>by simpa using i.cap e n s,λq e L s=>?_,λG g y E x j A w D=>?_⟩,by simpa [Loc.pos] using k⟩
   ·grind [Loc.pos,List.getElem?_set_self,List.getElem?_set_ne,Array.getElem?_setIfInBounds_ne,SB.has.ex]
   ·simp only [Loc.pos]
    rw [Array.getElem?_setIfInBounds_ne]
    ·exact i.sg G g y E x j A w D
    ·have:=List.all_eq_true.1 F g (List.mem_of_getElem? y)
     exact λe=>Od this A w D e.symm
  ·cases h
 | sg G g E x j =>
  obtain ⟨y,R⟩:=O
  obtain ⟨a1,a2,a3,a4⟩:=Ww C
  simp only at h
  split at h
  ·rename_i F
   simp only [Bool.and_eq_true] at F
   obtain ⟨⟨K,z⟩,hex⟩:=F
   simp at h
   subst h
   have J:(((E.den ρ).toNat:Nat):Int)<g.n1.den ρ:=by omega
   have P:(x.den ρ).toNat<g.n2:=by omega
   have a:=i.sg G g y (E.den ρ).toNat (x.den ρ).toNat j J P R
   have k:=(Array.getElem?_eq_some_iff.1 a).1
   refine ⟨⟨?_,λr C=>by simpa using i.size r C,λe n s=>by simpa using i.cap e n s,λq e L s=>?_,λm N b I Q l A w D=>?_⟩,by simpa [Loc.pos] using k⟩
   ·intro u H
    rcases List.mem_cons.1 H with rfl | H
    ·exact ⟨a1,a3⟩
    ·exact i.un u H
   ·simp only [Loc.pos]
    have f:=LU hex q e L s
    rw [Nat.zero_add] at f
    all_goals grind [Array.getElem?_setIfInBounds_ne,Od,SB.has.ex]
   ·simp only [Loc.pos]
    by_cases t:m=G
    ·subst t
     rw [y] at b
     simp at b
     subst b
     by_cases M:(E.den ρ).toNat * g.s1+(x.den ρ).toNat * g.s2+g.lo+j=I * g.s1+Q * g.s2+g.lo+l
     ·grind [afA,dD]
     all_goals grind [Array.getElem?_setIfInBounds_ne,SB.has.sg,dD]
    ·have f:=CJ z m N b (by simpa using t)
     rw [Array.getElem?_setIfInBounds_ne (Wu f J P R A w D)]
     rw [i.sg m N b I Q l A w D]
     simp only [dD]
     all_goals grind
  ·cases h
inductive TD where
 | int (k:IntKind) | bool | str | ptr (e:TypeId) | sl (e:TypeId) | struct (fs:List (Nat × TypeId)) | arr (n:Nat) (e:TypeId) | Iu | fn | map (k e:TypeId) | other
 deriving Inhabited
structure TI where
 d:TD
 size:Nat
 bytes:Nat
 zero:List SC
 eqs:Bool:=false
 deriving Inhabited
inductive FT where
 | leaf
 | node (k:FuncId) (f:Func) (l r:FT)
 deriving Inhabited
def FT.find (n:FuncId):FT->Option Func
 | .leaf=>none
 | .node k f l r=>match Nat.beq k n with
  | true=>some f
  | false=>match Nat.blt n k with
   | true=>l.find n
   | false=>r.find n
def FT.flat:FT->List (FuncId × Func)
 | .leaf=>[]
 | .node k f l r=>l.flat ++ (k,f) :: r.flat
theorem FT.Gj {n:FuncId} {g:Func}:∀{t:FT},t.find n=some g->(n,g)∈t.flat
 | .leaf,h=>by simp [FT.find] at h
 | .node k f l r,h=>by
  unfold FT.find at h
  unfold FT.flat
  split at h
  ·rename_i a
   have a:=Nat.eq_of_beq_eq_true a
   cases h
   simp [a]
  ·split at h
   ·exact List.mem_append_left _ (FT.Gj h)
   ·exact List.mem_append_right _ (List.mem_cons_of_mem _ (FT.Gj h))
structure bf where
 pW:List (TypeId × TI)
 fns:List (FuncId × Func)
 wraps:List FuncId:=[]
 wr:Bool:=false
 ft:FT:=.leaf
 deriving Inhabited
def assoc {α:Type} (n:Nat):List (Nat × α)->Option α
 | []=>none
 | (k,a) :: r=>if k == n then some a else assoc n r
theorem kE {α:Type} {n:Nat} {a:α}:∀{l:List (Nat × α)},assoc n l=some a->(n,a)∈l
 | [],h=>by simp [assoc] at h
 | (k,b) :: r,h=>by
  unfold assoc at h
  split at h
  ·rename_i c;simp at c h;subst c h;simp
  ·exact List.mem_cons_of_mem _ (kE h)
def wm {α:Type} (n:Nat):List (Nat × α)->Option α
 | []=>none
 | (k,a) :: r=>match Nat.beq k n with | true=>some a | false=>wm n r
theorem CK {α:Type} {n:Nat}:∀{l:List (Nat × α)},wm n l=assoc n l
 | []=>rfl
 | (k,a) :: r=>by
  unfold wm assoc
  by_cases h:k=n
  ·subst h
   simp
  ·have b:Nat.beq k n=false:=by
    cases c:Nat.beq k n with
    | true=>exact absurd (Nat.eq_of_beq_eq_true c) h
    | false=>rfl
   rw [b,if_neg (by simpa using h)]
   exact CK
theorem Iw {α:Type} {n:Nat} {a:α} {l:List (Nat × α)} (h:wm n l=some a):(n,a)∈l:=kE (by rw [<-CK];exact h)
def bf.ty (T:bf) (t:TypeId):Option TI:=wm t T.pW
def bf.f (T:bf) (f:FuncId):Option Func:=match T.ft.find f with | some g=>some g | none=>wm f T.fns
def CL (t:TypeId):Bool:=Nat.ble 1000000 t
def fI:TD->TypeDesc->Bool
 | .int k,.int l=>lX k l
 | .bool,.bool=>true
 | .str,.string=>true
 | .ptr e,.pointer f=>e == f
 | .sl e,.slice f=>e == f
 | .struct b,.struct a=>b == a.toList.map λg=>(g.offset,g.type)
 | .arr n e,.array m f=>n == m && e == f
 | .Iu,.interface _=>true
 | .fn,.func _ _ _=>true
 | .map k e,.map d c=>k == d && e == c
 | .other,.int _ | .other,.bool | .other,.string | .other,.pointer _ | .other,.slice _ | .other,.struct _ | .other,.array _ _ | .other,.interface _ | .other,.func _ _ _=>false
 | .other,_=>true
 | _,_=>false
def Ue:Value->SC->Bool
 | .int k n,.int l (.lit m)=>lX k l && n == m
 | .bool b,.bool (.lit c)=>b == c
 | .string s,.str l=>s.data.toList == l
 | .pointer none,.dB=>true
 | .slice none 0 0,.dA=>true
 | .nilFunc,.mI=>true
 | .nilIface,.dW=>true
 | .map none,.ug=>true
 | _,_=>false
theorem Zr {ρ:Env} {ν:Nat->Addr} {v:Value} {c:SC} (h:Ue v c=true):v=c.den ρ ν:=by
 unfold Ue at h
 split at h <;> simp at h
 ·grind [SC.den,IE.den,jK]
 ·simp [SC.den,BE.den,h]
 ·simp only [SC.den,<-h]
 ·rfl
 ·rfl
 ·rfl
 ·rfl
 ·rfl
def wo:List Value->List SC->Bool
 | [],[]=>true
 | v :: r,c :: s=>Ue v c && wo r s
 | _,_=>false
theorem qR {ρ:Env} {ν:Nat->Addr}:∀{a:List Value} {cs:List SC},wo a cs=true->a=cs.map (·.den ρ ν)
 | [],[],_=>rfl
 | [],_ :: _,h=>by simp [wo] at h
 | _ :: _,[],h=>by simp [wo] at h
 | v :: r,c :: s,h=>by
  simp [wo] at h
  rw [List.map_cons,<-Zr h.1,<-qR h.2]
def Wy:TypeDesc->Bool
 | .struct _ | .array _ _=>true
 | _=>false
def TD.isAgg:TD->Bool
 | .struct _ | .arr _ _=>true
 | _=>false
def nU:Value->Bool
 | .agg _=>true
 | _=>false
def Uf (P:Program) (t:TypeId) (a:TI):Bool :=
 match P.underlying t,P.info? t with
 | some d,some i =>
  !CL t && fI a.d d && (i.size == a.size && i.bytes == a.bytes) &&
  (match i.zero with
   | some z=>wo z.cells.toList a.zero && nU z == a.d.isAgg && a.zero.length == a.size
   | none=>false) &&
  (!a.eqs || (!P.stoodInHeld t && !P.eqGuardType P.depth t && (match d with | .struct b=>b.toList.all (λf=>f.name != "_") | .array _ _=>true | _=>false)))
 | _,_=>false
def Oh (P:Program):List (TypeId × TI)->Bool
 | []=>true
 | (t,i) :: r=>Uf P t i && Oh P r
structure rD (P:Program) (t:TypeId) (ti:TI):Prop where
 lt:CL t=false
 und:∃d,P.underlying t=some d/\fI ti.d d=true/\(ti.eqs=true->P.stoodInHeld t=false/\P.eqGuardType P.depth t=false/\∀fs,d=.struct fs->∀f∈fs.toList,f.name ≠ "_")
 info:∃i z,P.info? t=some i/\i.size=ti.size/\i.zero=some z/\wo z.cells.toList ti.zero=true/\nU z=ti.d.isAgg/\ti.zero.length=ti.size/\i.bytes=ti.bytes
theorem Zt {P:Program} {t:TypeId} {c:TI} (h:Uf P t c=true):rD P t c:=by
 unfold Uf at h
 split at h
 ·rename_i d i hd g
  simp only [Bool.and_eq_true] at h
  obtain ⟨⟨⟨⟨f,e⟩,b⟩,a⟩,l⟩:=h
  split at a
  ·rename_i z j
   simp only [Bool.and_eq_true,beq_iff_eq] at b a
   refine ⟨by simpa using f,⟨d,hd,e,λk=>?_⟩,i,z,g,b.1,j,a.1.1,a.1.2,a.2,b.2⟩
   all_goals grind
  ·cases a
 ·cases h
structure dI (P:Program) (T:bf):Prop where
 pW:Oh P T.pW=true
 fns:∀f fn,(f,fn)∈T.fns->P.funcs[f]?=some fn
 mixed:P.follows .mixedOrders=true
 ft:T.ft.flat=[]\/T.ft.flat=T.fns:=by first | exact .inl rfl | exact .inr rfl
theorem dI.Ug {P:Program} {T:bf} (h:dI P T) {f:FuncId} {fn:Func} (a:T.f f=some fn):(f,fn)∈T.fns:=by
 unfold bf.f at a
 split at a
 ·rename_i g b
  cases a
  have:=FT.Gj b
  all_goals grind [dI.ft]
 ·exact Iw a
def bf.sw (T:bf) (f:FuncId):bf:={T with wr:=T.wraps.contains f}
theorem dI.sw {P:Program} {T:bf} (h:dI P T) (f:FuncId):dI P (T.sw f):=⟨h.pW,h.fns,h.mixed,h.ft⟩
theorem dI.ty {P:Program} {T:bf} (h:dI P T) {t:TypeId} {a:TI} (b:T.ty t=some a):rD P t a:=by
 have c:=Iw b
 have:=h.pW
 clear b h
 generalize T.pW=l at *
 induction l with
 | nil=>cases c
 | cons x r d =>
  grind [Oh,Zt]
section
variable {P:Program} {T:bf} (f:dI P T) {w:World} {t:TypeId} {g:TI}
theorem rD.size (h:rD P t g):(sizeOf t).run P w=.ok g.size w:=by
 obtain ⟨i,z,b,a,_⟩:=h.info
 simp [sizeOf,typeInfo,b,a]
theorem rD.isAgg (h:rD P t g):(isAgg t).run P w=.ok g.d.isAgg w:=by
 obtain ⟨d,hd,b,_⟩:=h.und
 unfold Go.isAgg
 simp only [Sem.run_bind,run_underlying hd,Result.andThen_ok]
 cases a:g.d <;> cases d <;> simp_all [fI,TD.isAgg] <;> rfl
theorem rD.zeroV (ρ:Env) (ν:Nat->Addr) (h:rD P t g):∃z,(zeroValue t).run P w=.ok z w/\z.cells.toList=g.zero.map (·.den ρ ν)/\nU z=g.d.isAgg:=by
 obtain ⟨i,z,c,e,d,b,a,-⟩:=h.info
 refine ⟨z,?_,qR b,a⟩
 simp [zeroValue,typeInfo,c,d]
end
abbrev Fr:=List (Nat × SV)
def qI (ρ:Env) (ν:Nat->Addr) (fr:Fr) (a:Act):Prop:=∀t v,assoc t fr=some v->a.tmps.getD t undef=v.den ρ ν
def SB.dead (ρ:Env) (sb:SB):Bool:=sb.gone || sb.nl.den ρ
def SB.Gl (sb:SB):List BE:=match sb.nl with | .lit false=>[] | c=>[c.oI]
theorem SB.Kk {ρ:Env} {sb:SB} (b:sb.gone=false) (a:∀o∈sb.Gl,o.den ρ=true):sb.dead ρ=false:=by
 unfold SB.dead
 rw [b,Bool.false_or]
 unfold SB.Gl at a
 split at a
 ·rename_i h;rw [h];rfl
 ·have:=a _ (List.mem_singleton.2 rfl)
  all_goals grind [BE.jW]
theorem SB.dZ {ρ:Env} {sb:SB} (h:sb.dead ρ=false):sb.gone=false:=by
 grind [SB.dead]
def SB.lY (sb:SB):Bool:=CL sb.t
def abS:List MapEntry->Int->Option Int
 | [],_=>none
 | ⟨.int .i64 n,.int .i64 v,_⟩ :: r,k=>if n=k then some v else abS r k
 | _ :: _,_=>none
structure ajQ (es:List MapEntry):Prop where
 all:∀e∈es,∃n v b,e=⟨.int .i64 n,.int .i64 v,b⟩/\-9223372036854775808<=n/\n<=9223372036854775807
 nodup:(es.map (·.key)).Nodup
def afC (a:List MapEntry) (p:Nat):Value :=
 match abS a (((p / 2:Nat):Int)-9223372036854775808) with
 | some v=>if p % 2=0 then .bool true else .int .i64 v
 | none=>if p % 2=0 then .bool false else .int .i64 0
def amS (a:List MapEntry):Array Value:=Array.ofFn λp:Fin 36893488147419103232=>afC a p
def jl (o:Option Obj) (t:TypeId) (cs:Array Value):Prop :=
 if CL t then ∃a clock,o=some (.map a clock)/\ajQ a.toList/\cs=amS a.toList else o=some (.cells cs t (0,0))
theorem jl.cells {o:Option Obj} {sb:SB} {cs:Array Value} (h:jl o sb.t cs) (a:sb.lY=false):o=some (.cells cs sb.t (0,0)):=by
 grind [jl,SB.lY]
theorem jl.oJ {t:TypeId} {cs:Array Value} (a:CL t=false):jl (some (.cells cs t (0,0))) t cs:=by
 grind [jl]
theorem jl.some {o:Option Obj} {t:TypeId} {cs:Array Value} (h:jl o t cs):∃x,o=Option.some x:=by
 grind [jl]
def Ah (sb:SB) (w:World) (b:Nat):Prop:=b<w.heap.size/\(sb.bz=[]->Nat.ble 500000 sb.t=true->∃c t,w.heap[b]?=some (.cells c t (0,0)))
structure aD (ρ:Env) (ν:Nat->Addr) (hp:List SB) (w:World):Prop where
 inj:∀(i j:Nat) (a b:SB),hp[i]?=some a->hp[j]?=some b->a.dead ρ=false->b.dead ρ=false->a.ro=false->(ν i).block=(ν j).block->i=j
 ak:∀(k:Nat) (sb:SB),hp[k]?=some sb->sb.dead ρ=false->sb.ro=false->ν k=⟨(ν k).block,0,none⟩/\∃cs,jl w.heap[(ν k).block]? sb.t cs/\sb.has ρ ν cs
 rd:∀(k:Nat) (sb:SB),hp[k]?=some sb->sb.dead ρ=false->sb.ro=true->Ah sb w (ν k).block/\∃cs:Array Value,sb.has ρ ν cs/\∀p v,cs[p]?=some v->w.cell? ((ν k).add p)=some v
theorem aD.drew {ρ:Env} {ν:Nat->Addr} {a:List SB} {w:World} (h:aD ρ ν a w) (n:Nat):aD ρ ν a {w with drawn:=n}:=⟨h.inj,h.ak,h.rd⟩
theorem aD.lt {ρ:Env} {ν:Nat->Addr} {a:List SB} {w:World} (h:aD ρ ν a w) {k:Nat} {sb:SB} (b:a[k]?=some sb) (e:sb.dead ρ=false):(ν k).block<w.heap.size:=by
 cases c:sb.ro with
 | true=>exact (h.rd k sb b e c).1.1
 | false =>
  obtain ⟨_,f,d,_⟩:=h.ak k sb b e c
  obtain ⟨x,d⟩:=d.some
  all_goals grind
theorem aD.cells {ρ:Env} {ν:Nat->Addr} {b:List SB} {w:World} (h:aD ρ ν b w) {k:Nat} {sb:SB} (f:b[k]?=some sb) (e:sb.dead ρ=false) (i:sb.ro=false->sb.lY=false) :
  ∃cs:Array Value,sb.has ρ ν cs/\∀p v,cs[p]?=some v->w.cell? ((ν k).add p)=some v:=by
 cases d:sb.ro with
 | true=>obtain ⟨-,cs,a,c⟩:=h.rd k sb f e d;exact ⟨cs,a,c⟩
 | false =>
  obtain ⟨j,cs,a,c⟩:=h.ak k sb f e d
  replace a:=a.cells (i d)
  refine ⟨cs,c,λp v b=>?_⟩
  have g:(ν k).add p=⟨(ν k).block,p,none⟩:=by
   have l:(ν k).off=0:=congrArg Addr.off j
   unfold Addr.add
   all_goals grind
  rw [g,cell_of_row w (ν k).block p cs sb.t (0,0) a]
  exact b
theorem aD.amT {ρ:Env} {ν:Nat->Addr} {d:List SB} {w:World} (h:aD ρ ν d w) {k:Nat} {sb:SB} (a:d[k]?=some sb) (c:sb.dead ρ=false) (e:sb.ro=false->sb.lY=false):Ah sb w (ν k).block:=by
 cases b:sb.ro with
 | true=>exact (h.rd k sb a c b).1
 | false =>
  refine ⟨h.lt a c,λ_ _=>?_⟩
  obtain ⟨_,g,f,_⟩:=h.ak k sb a c b
  exact ⟨g,sb.t,f.cells (e b)⟩
theorem Ah.of {a b:SB} {w w':World} {k:Nat} (h:Ah b w k) (g:a.bz=[]->b.bz=[]) (f:a.t=b.t) (i:w.heap.size<=w'.heap.size) (c:w'.heap[k]?=w.heap[k]?):Ah a w' k :=
 ⟨Nat.lt_of_lt_of_le h.1 i,λe d=>by rw [c];exact h.2 (g e) (f ▸ d)⟩
def ofValue:Value->Option SW
 | .int k n=>some (.one (.int k (.lit n)))
 | .bool b=>some (.one (.bool (.lit b)))
 | .string s=>some (.one (.str s.data.toList))
 | .pointer none=>some (.one .dB)
 | .slice none 0 0=>some (.one .dA)
 | .nilFunc=>some (.one .mI)
 | .nilIface=>some (.one .dW)
 | .map none=>some (.one .ug)
 | _=>none
theorem Uh {ρ:Env} {ν:Nat->Addr} {v:Value} {x:SW} (h:ofValue v=some x):v=x.den ρ ν:=by
 unfold ofValue at h
 split at h <;> simp at h <;> subst h <;> simp [SW.den,SC.den,IE.den,BE.den]
structure iU (ν:Nat->Addr) (gl:List (Nat × Nat)):Prop where
 at_:∀g k,Nat.blt g 1000000=true->assoc g gl=some k->ν k=⟨g,0,none⟩
 ne:∀g g' k k',Nat.blt g 1000000=false->Nat.blt g' 1000000=false->assoc g gl=some k->assoc g' gl=some k'->g≠g'->ν k≠ν k'
def EL (e:IE):Kn->Option Int
 | []=>none
 | (.ag a (.lit n),true) :: r=>if a.same e then some n else EL e r
 | _ :: r=>EL e r
theorem Gm {ρ:Env} {e:IE} {n:Int}:∀{kn:Kn},Kn.ok ρ kn->EL e kn=some n->e.den ρ=n
 | [],_,h=>by simp [EL] at h
 | (b,t) :: r,d,h=>by
  unfold EL at h
  split at h
  ·cases ‹_›
  ·rename_i a m i heq
   cases heq
   split at h
   ·rename_i g
    cases h
    have f:(BE.ag a (.lit n)).den ρ=true:=d _ (List.mem_cons_self ..)
    rw [<-IE.aA g]
    simpa [BE.den,IE.den] using f
   ·exact Gm (λp c=>d p (List.mem_cons_of_mem _ c)) h
  ·rename_i heq
   cases heq
   exact Gm (λp c=>d p (List.mem_cons_of_mem _ c)) h
def SV.dec (kn:Kn):SV->SV
 | .w (.one (.int k (.mod a b)))=>match EL (.mod a b) kn with
  | some n=>.w (.one (.int k (.lit n)))
  | none=>.w (.one (.int k (.mod a b)))
 | .w (.one (.jH c x))=>match c.decide kn with
  | some true=>.w (.one .dW)
  | some false=>.w (.one x)
  | none=>.w (.one (.jH c x))
 | v=>v
theorem SV.afD {ρ:Env} {ν:Nat->Addr} {kn:Kn} (c:Kn.ok ρ kn) (v:SV):(v.dec kn).den ρ ν=v.den ρ ν:=by
 unfold SV.dec
 split
 ·rename_i k a b
  split
  ·rename_i n d
   simp only [SV.den,SW.den,SC.den]
   rw [Gm c d]
   rfl
  ·rfl
 all_goals grind [SV.den,SW.den,SC.den,BE.dR]
def eQ (a:List (Nat × Nat)) (kn:Kn) (fr:Fr):Operand->Option SV
 | .tmp t=>match wm t fr with
  | some (.gd c x)=>match c.decide kn with
   | some true=>some (.w x)
   | some false=>none
   | none=>some (.gd c x)
  | some v=>some (v.dec kn)
  | none=>none
 | .const v=>(ofValue v).map .w
 | .global g=>if Nat.blt g 1000000 then (assoc g a).map λk=>.w (.one (.ptr {ak:=k})) else none
 | .func f=>some (.w (.one (.fn f [])))
theorem nV {ρ:Env} {ν:Nat->Addr} {e:List (Nat × Nat)} {kn:Kn} {fr:Fr} {a:Act} (j:iU ν e) (l:Kn.ok ρ kn) (i:qI ρ ν fr a)
  {x:Operand} {v:SV} (h:eQ e kn fr x=some v):a.eval x=v.den ρ ν:=by
 cases x with
 | tmp t =>
  simp only [eQ,CK] at h
  simp only [Act.eval]
  split at h
  ·rename_i c y o
   have p:=i t _ o
   all_goals grind [BE.dR,SV.den]
  ·rename_i u _ n
   simp at h
   subst h
   rw [SV.afD l]
   exact i t u n
  ·cases h
 | const u =>
  simp only [eQ,Option.map_eq_some_iff] at h
  obtain ⟨y,m,rfl⟩:=h
  exact Uh m
 | global g =>
  simp only [eQ] at h
  split at h
  ·rename_i b
   simp only [Option.map_eq_some_iff] at h
   obtain ⟨k,d,rfl⟩:=h
   simp [Act.eval,SV.den,SW.den,SC.den,SA.den,SA.off,IE.den,Addr.add_zero,j.at_ g k b d]
  ·cases h
 | func f =>
  simp [eQ] at h
  subst h
  simp [Act.eval,SV.den,SW.den,SC.den]
inductive PR where
 | ok (v:SV) (gN:List BE)
 | br (c:BE)
 | no
def PR.one (c:SC) (gN:List BE:=[]):PR:=.ok (.w (.one c)) gN
def rE:SV->Option (IntKind × IE)
 | .w (.one (.int k e))=>some (k,e)
 | _=>none
def wu:SV->Option BE
 | .w (.one (.bool b))=>some b
 | _=>none
def BE.uF (a b:IE):BE:=match a.dM,b.dM with
 | some x,some y=>.lit (x == y)
 | _,_=>if a.same b then .lit true else .ag a b
theorem BE.Ai (ρ:Env) (a b:IE):(BE.uF a b).den ρ=(a.den ρ == b.den ρ):=by
 grind [BE.uF,BE.den,IE.df,IE.aA]
def BE.Zu (a b:BE):BE:=match a.dM,b.dM with
 | some x,some y=>.lit (x == y)
 | some true,none=>b
 | none,some true=>a
 | some false,none=>b.oI
 | none,some false=>a.oI
 | none,none=>if a.same b then .lit true else .beq a b
theorem BE.Zv (ρ:Env) (a b:BE):(BE.Zu a b).den ρ=(a.den ρ == b.den ρ):=by
 grind [BE.Zu,BE.den,BE.df,BE.jW,BE.aA]
def xA (T:bf) (t:TypeId) (cs:List SC) (off:Nat):Option SW :=
 match T.ty t with
 | some a=>if a.d.isAgg then some (.agg ((cs.drop off).take a.size)) else (cs[off]?).map .one
 | none=>none
mutual
def FD (T:bf):Nat->TypeId->SW->SW->Option BE
 | 0,_,_,_=>none
 | n+1,t,x,y =>
  match T.ty t with
  | none=>none
  | some g =>
   match g.d,x,y with
   | .int _,.one (.int k a),.one (.int l b)=>if lX k l then some (.uF a b) else none
   | .bool,.one (.bool a),.one (.bool b)=>some (.Zu a b)
   | .str,.one (.str a),.one (.str b)=>some (.lit (a == b))
   | .ptr _,.one .dB,.one .dB=>some (.lit true)
   | .ptr _,.one .dB,.one (.ptr _)=>some (.lit false)
   | .ptr _,.one (.ptr _),.one .dB=>some (.lit false)
   | .sl _,.one .dA,.one .dA=>some (.lit true)
   | .sl _,.one .dA,.one (.sl _ _ _)=>some (.lit false)
   | .sl _,.one (.sl _ _ _),.one .dA=>some (.lit false)
   | .sl _,.one .dA,.one (.eu c _ _ _)=>some c
   | .sl _,.one (.eu c _ _ _),.one .dA=>some c
   | .Iu,.one .dW,.one .dW=>some (.lit true)
   | .Iu,.one .dW,.one (.iface _ _)=>some (.lit false)
   | .Iu,.one (.iface _ _),.one .dW=>some (.lit false)
   | .Iu,.one .dW,.one (.jH c (.iface _ _))=>some c
   | .Iu,.one (.jH c (.iface _ _)),.one .dW=>some c
   | .Iu,.one (.iface t _),.one (.iface u _)=>if t == u then none else some (.lit false)
   | .fn,.one .mI,.one .mI=>some (.lit true)
   | .fn,.one .mI,.one (.fn _ _)=>some (.lit false)
   | .fn,.one (.fn _ _),.one .mI=>some (.lit false)
   | .struct i,.agg d,.agg f=>if g.eqs then Kl T n i d f else none
   | .arr m e,.agg d,.agg f=>match T.ty e with | some h=>if Nat.ble m 32 then Km T n e h.size (List.range m) d f else none | none=>none
   | _,_,_=>none
def Km (T:bf):Nat->TypeId->Nat->List Nat->List SC->List SC->Option BE
 | 0,_,_,_,_,_=>none
 | _,_,_,[],_,_=>some (.lit true)
 | n+1,e,f,i :: r,h,g =>
  match xA T e h (i * f),xA T e g (i * f) with
  | some a,some b =>
   match FD T n e a b,Km T n e f r h g with
   | some c,some d=>some (c.uE d)
   | _,_=>none
  | _,_=>none
def Kl (T:bf):Nat->List (Nat × TypeId)->List SC->List SC->Option BE
 | 0,_,_,_=>none
 | _,[],_,_=>some (.lit true)
 | n+1,(off,t) :: r,f,e =>
  match xA T t f off,xA T t e off with
  | some a,some b =>
   match FD T n t a b,Kl T n r f e with
   | some c,some d=>some (c.uE d)
   | _,_=>none
  | _,_=>none
end
section
variable {P:Program} {T:bf} (g:dI P T) {w:World} {ρ:Env} {ν:Nat->Addr}
theorem sN {t:TypeId} {cs:List SC} {off:Nat} {x:SW} (g:dI P T) (h:xA T t cs off=some x) :
  (part t (cs.map (·.den ρ ν)).toArray off).run P w=.ok (x.den ρ ν) w:=by
 unfold xA at h
 split at h
 ·rename_i f d
  have a:=g.ty d
  unfold part
  simp only [Sem.run_bind,a.isAgg,Result.andThen_ok]
  split at h
  ·rename_i b
   simp only [Option.some.injEq] at h
   subst h
   simp only [b,if_true,Sem.run_bind,a.size,Result.andThen_ok,Sem.run_pure,SW.den]
   all_goals grind [List.map_drop,List.map_take,Nat.add_sub_cancel_left]
  ·rename_i b
   simp only [Option.map_eq_some_iff] at h
   obtain ⟨c,e,rfl⟩:=h
   simp [b,e,SW.den]
 ·cases h
end
set_option maxHeartbeats 2000000 in
theorem afE {P:Program} {T:bf} (A:dI P T) {ρ:Env} {ν:Nat->Addr} {w:World}:∀n:Nat,
  (∀t x y c,FD T n t x y=some c->∀d,n<=d->(Op.equalIn d t (x.den ρ ν) (y.den ρ ν)).run P w=.ok (c.den ρ) w) /\
  (∀fs m p c,Kl T n fs m p=some c->∀d,n<=d->∀gs:List Field,fs=gs.map (λg=>(g.offset,g.type))->(∀g∈gs,g.name ≠ "_") ->
    (Op.eqFields d (m.map (·.den ρ ν)).toArray (p.map (·.den ρ ν)).toArray gs).run P w=.ok (c.den ρ) w) /\
  (∀e H is m p c,Km T n e H is m p=some c->∀d,n<=d->(Op.eqItems d e H (m.map (·.den ρ ν)).toArray (p.map (·.den ρ ν)).toArray is).run P w=.ok (c.den ρ) w):=by
 intro n
 induction n with
 | zero=>exact ⟨λt x y c h=>(by simp [FD] at h),λfs m p c h=>(by simp [Kl] at h),λe H is m p c h=>(by simp [Km] at h)⟩
 | succ n I =>
  refine ⟨λt x y c h d hd=>?_,λfs m p c h d hd gs o V=>?_,λe H is m p c h d hd=>?_⟩
  ·obtain ⟨d,rfl⟩:∃e,d=e+1:=⟨d-1,by omega⟩
   unfold FD at h
   split at h
   ·cases h
   ·rename_i Z R
    obtain ⟨q,l,k,heq⟩:=(A.ty R).und
    split at h
    all_goals try cases h
    ·rename_i j
     rw [j] at k
     cases q <;> simp [fI] at k
     split at h
     ·rename_i W
      simp at h;subst h
      rw [BE.Ai,jK W]
      exact run_equalIn_int w d t _ _ _ _ l
     ·cases h
    ·rename_i j
     rw [j] at k
     cases q <;> simp [fI] at k
     rw [BE.Zv]
     exact run_equalIn_bool' w d t _ _ l
    ·rename_i j
     rw [j] at k
     cases q <;> simp [fI] at k
     simp only [SW.den,SC.den]
     rw [run_equalIn_string w d t _ _ l,ByteArray.toList_eq,ByteArray.toList_eq]
     simp [BE.den]
    all_goals first
     | (rename_i j
        rw [j] at k
        cases q <;> simp [fI] at k
        simp [Op.equalIn,run_underlying l,SW.den,SC.den,BE.den]
        done)
     | (rename_i j
        rw [j] at k
        cases q <;> simp [fI] at k
        cases K:c.den ρ <;> simp [Op.equalIn,run_underlying l,SW.den,SC.den,K]
        done)
     | skip
    ·rename_i j
     rw [j] at k
     cases q <;> simp [fI] at k
     split at h
     ·cases h
     ·rename_i B
      simp at B h
      subst h
      simp [Op.equalIn,run_underlying l,SW.den,SC.den,BE.den,B]
    ·rename_i j
     rw [j] at k
     split at h
     ·rename_i E
      obtain ⟨D,G,F⟩:=heq E
      cases q <;> simp [fI] at k
      rename_i C
      replace F:=F C rfl
      have N:P.underlying t=some (.struct (P.fieldsOf t)):=by simp [Program.fieldsOf,l]
      have M:P.fieldsOf t=C:=by simp [Program.fieldsOf,l]
      simp only [SW.den]
      rw [run_equalIn_struct w d t _ _ N D,M]
      all_goals grind
     ·cases h
    ·rename_i j
     rw [j] at k
     split at h
     case h_2=>cases h
     rename_i X L
     split at h
     case isFalse=>cases h
     cases q <;> simp [fI] at k
     obtain ⟨rfl,rfl⟩:=k
     obtain ⟨i,z,U,O,-⟩:=(A.ty L).info
     simp only [SW.den]
     rw [run_equalIn_array w d _ _ l U,show P.cellsOf _=X.size by unfold Program.cellsOf;rw [U];simpa using O]
     all_goals grind
  ·cases gs with
   | nil =>
    simp at o
    subst o
    simp [Kl] at h
    subst h
    simp [Op.eqFields,BE.den]
   | cons g gs =>
    simp at o
    subst o
    simp only [Kl] at h
    split at h
    ·rename_i a b S J
     split at h
     ·rename_i e f E Q
      simp at h
      subst h
      have D:=I.1 _ _ _ _ E d (by omega)
      have G:=I.2.1 _ _ _ _ Q d (by omega) gs rfl (λx Y=>V x (by simp [Y]))
      have s:=sN (w:=w) (ρ:=ρ) (ν:=ν) A S
      have r:=sN (w:=w) (ρ:=ρ) (ν:=ν) A J
      simp only [Op.eqFields,V g (by simp),ne_eq,not_false_eq_true,if_true,Sem.run_bind,s,r,Result.andThen_ok,D,Sem.run_ite,Sem.run_pure,G,BE.Af]
      cases e.den ρ <;> simp
     ·cases h
    ·cases h
  ·cases is with
   | nil =>
    simp [Km] at h
    subst h
    simp [Op.eqItems,BE.den]
   | cons i is =>
    simp only [Km] at h
    split at h
    ·rename_i a b S J
     split at h
     ·rename_i u f E Q
      simp at h
      subst h
      have D:=I.1 _ _ _ _ E d (by omega)
      have G:=I.2.2 _ _ _ _ _ _ Q d (by omega)
      have s:=sN (w:=w) (ρ:=ρ) (ν:=ν) A S
      have r:=sN (w:=w) (ρ:=ρ) (ν:=ν) A J
      simp only [Op.eqItems,Sem.run_bind,s,r,Result.andThen_ok,D,Sem.run_ite,Sem.run_pure,G,BE.Af]
      cases u.den ρ <;> simp
     ·cases h
    ·cases h
end Go.Rex
