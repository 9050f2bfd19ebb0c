/- part 0 of the proof -/
import Derived.WalkKit
import Derived.OrdersHeld
set_option linter.unusedSimpArgs false
set_option linter.unusedVariables false
namespace Go.Rex
structure Env where
 iv:Nat→Int:=fun _=>0
 bv:Nat→Bool:=fun _=>false
 vv:Nat→Value:=fun _=>undef
 ic:Nat→Nat→Nat→Nat→Int:=fun _ _ _ _=>0
 bc:Nat→Nat→Nat→Nat→Bool:=fun _ _ _ _=>false
 vc:Nat→Nat→Nat→Nat→Value:=fun _ _ _ _=>undef
def Env.join (ρ:Env) (nv:Nat) (e:Env):Env where
 iv:=fun i=>if i<nv then ρ.iv i else e.iv i
 bv:=fun i=>if i<nv then ρ.bv i else e.bv i
 vv:=fun i=>if i<nv then ρ.vv i else e.vv i
 ic:=fun i=>if i<nv then ρ.ic i else e.ic i
 bc:=fun i=>if i<nv then ρ.bc i else e.bc i
 vc:=fun i=>if i<nv then ρ.vc i else e.vc i
def j4:IntKind→IntKind→Bool
 | .i8,.i8 | .i16,.i16 | .i32,.i32 | .i64,.i64 | .u8,.u8 | .u16,.u16 | .u32,.u32 | .u64,.u64=>true
 | _,_=>false
theorem iL {a b:IntKind} (h:j4 a b=true):a=b:=by cases a <;> cases b <;> simp_all [j4]
inductive IE where
 | lit (n:Int) | var (i:Nat)
 | add (a b:IE) | sub (a b:IE) | mul (a b:IE) | div (a b:IE) | mod (a b:IE)
 | wrap (k:IntKind) (a:IE)
 | qg (a b:IE) | imax (a b:IE)
 | cell (r:Nat) (i1 i2:IE) (j:Nat)
 deriving Inhabited
def IE.den (ρ:Env):IE→Int
 | .lit n=>n
 | .var i=>ρ.iv i
 | .add a b=>a.den ρ+b.den ρ
 | .sub a b=>a.den ρ-b.den ρ
 | .mul a b=>a.den ρ * b.den ρ
 | .div a b=>(a.den ρ).tdiv (b.den ρ)
 | .mod a b=>(a.den ρ).tmod (b.den ρ)
 | .wrap k a=>k.wrap (a.den ρ)
 | .qg a b=>min (a.den ρ) (b.den ρ)
 | .imax a b=>max (a.den ρ) (b.den ρ)
 | .cell r i1 i2 j=>ρ.ic r (i1.den ρ).toNat (i2.den ρ).toNat j
def IE.same:IE→IE→Bool
 | .lit n,.lit m=>n == m
 | .var i,.var j=>i == j
 | .add a b,.add c d=>a.same c && b.same d
 | .sub a b,.sub c d=>a.same c && b.same d
 | .mul a b,.mul c d=>a.same c && b.same d
 | .div a b,.div c d=>a.same c && b.same d
 | .mod a b,.mod c d=>a.same c && b.same d
 | .wrap k a,.wrap l b=>j4 k l && a.same b
 | .qg a b,.qg c d=>a.same c && b.same d
 | .imax a b,.imax c d=>a.same c && b.same d
 | .cell r a b j,.cell s c d k=>r == s && a.same c && b.same d && j == k
 | _,_=>false
theorem IE.aD:∀{a b:IE},a.same b=true→a=b:=by
 intro a
 induction a with
 | lit n=>intro b h;cases b <;> simp_all [IE.same]
 | var n=>intro b h;cases b <;> simp_all [IE.same]
 | add a b iha ihb=>intro c h;cases c <;> simp [IE.same] at h;rw [iha h.1,ihb h.2]
 | sub a b iha ihb=>intro c h;cases c <;> simp [IE.same] at h;rw [iha h.1,ihb h.2]
 | mul a b iha ihb=>intro c h;cases c <;> simp [IE.same] at h;rw [iha h.1,ihb h.2]
 | div a b iha ihb=>intro c h;cases c <;> simp [IE.same] at h;rw [iha h.1,ihb h.2]
 | mod a b iha ihb=>intro c h;cases c <;> simp [IE.same] at h;rw [iha h.1,ihb h.2]
 | wrap k a ih=>intro c h;cases c <;> simp [IE.same] at h;rw [iL h.1,ih h.2]
 | qg a b iha ihb=>intro c h;cases c <;> simp [IE.same] at h;rw [iha h.1,ihb h.2]
 | imax a b iha ihb=>intro c h;cases c <;> simp [IE.same] at h;rw [iha h.1,ihb h.2]
 | cell r a b j iha ihb=>intro c h;cases c <;> simp [IE.same] at h;rw [h.1.1.1,iha h.1.1.2,ihb h.1.2,h.2]
inductive BE where
 | lit (b:Bool) | var (i:Nat)
 | not (a:BE) | and (a b:BE) | or (a b:BE) | ite (c a b:BE)
 | aA (a b:IE) | ai (a b:IE) | bO (a b:IE)
 | beq (a b:BE)
 | inr (k:IntKind) (a:IE)
 | cell (r:Nat) (i1 i2:IE) (j:Nat)
 deriving Inhabited
def BE.den (ρ:Env):BE→Bool
 | .lit b=>b
 | .var i=>ρ.bv i
 | .not a=>!a.den ρ
 | .and a b=>a.den ρ && b.den ρ
 | .or a b=>a.den ρ || b.den ρ
 | .ite c a b=>if c.den ρ then a.den ρ else b.den ρ
 | .aA a b=>a.den ρ == b.den ρ
 | .ai a b=>decide (a.den ρ≤b.den ρ)
 | .bO a b=>decide (a.den ρ<b.den ρ)
 | .beq a b=>a.den ρ == b.den ρ
 | .inr k a=>decide (k.min≤a.den ρ) && decide (a.den ρ≤k.max)
 | .cell r i1 i2 j=>ρ.bc r (i1.den ρ).toNat (i2.den ρ).toNat j
def BE.same:BE→BE→Bool
 | .lit n,.lit m=>n == m
 | .var i,.var j=>i == j
 | .not a,.not b=>a.same b
 | .and a b,.and c d=>a.same c && b.same d
 | .or a b,.or c d=>a.same c && b.same d
 | .ite a b e,.ite c d f=>a.same c && b.same d && e.same f
 | .aA a b,.aA c d=>IE.same a c && IE.same b d
 | .ai a b,.ai c d=>IE.same a c && IE.same b d
 | .bO a b,.bO c d=>IE.same a c && IE.same b d
 | .beq a b,.beq c d=>a.same c && b.same d
 | .inr k a,.inr l b=>j4 k l && IE.same a b
 | .cell r a b j,.cell s c d k=>r == s && IE.same a c && IE.same b d && j == k
 | _,_=>false
theorem BE.aD:∀{a b:BE},a.same b=true→a=b:=by
 intro a
 induction a with
 | lit n=>intro b h;cases b <;> simp_all [BE.same]
 | var n=>intro b h;cases b <;> simp_all [BE.same]
 | not a ih=>intro c h;cases c <;> simp [BE.same] at h;rw [ih h]
 | and a b iha ihb=>intro c h;cases c <;> simp [BE.same] at h;rw [iha h.1,ihb h.2]
 | or a b iha ihb=>intro c h;cases c <;> simp [BE.same] at h;rw [iha h.1,ihb h.2]
 | ite a b e iha ihb ihe=>intro c h;cases c <;> simp [BE.same] at h;rw [iha h.1.1,ihb h.1.2,ihe h.2]
 | aA a b=>intro c h;cases c <;> simp [BE.same] at h;rw [IE.aD h.1,IE.aD h.2]
 | ai a b=>intro c h;cases c <;> simp [BE.same] at h;rw [IE.aD h.1,IE.aD h.2]
 | bO a b=>intro c h;cases c <;> simp [BE.same] at h;rw [IE.aD h.1,IE.aD h.2]
 | beq a b iha ihb=>intro c h;cases c <;> simp [BE.same] at h;rw [iha h.1,ihb h.2]
 | inr k a=>intro c h;cases c <;> simp [BE.same] at h;rw [iL h.1,IE.aD h.2]
 | cell r a b j=>intro c h;cases c <;> simp [BE.same] at h;rw [h.1.1.1,IE.aD h.1.1.2,IE.aD h.1.2,h.2]
abbrev Kn:=List (BE × Bool)
def Kn.ok (ρ:Env) (kn:Kn):Prop:=∀p∈kn,p.1.den ρ=p.2
def Kn.find (c:BE):Kn→Option Bool
 | []=>none
 | (d,b) :: r=>if c.same d then some b else Kn.find c r
theorem Kn.jV {ρ:Env} {c:BE} {b:Bool}:∀{kn:Kn},Kn.ok ρ kn→Kn.find c kn=some b→c.den ρ=b
 | [],_,h=>by simp [Kn.find] at h
 | (d,x) :: r,hk,h=>by
  unfold Kn.find at h
  split at h
  ·rename_i hs
   rw [BE.aD hs]
   have:=hk (d,x) (by simp)
   simp at h
   rw [this];exact h
  ·exact Kn.jV (fun p hp=>hk p (by simp [hp])) h
def IE.dE:IE→Option Int
 | .lit n=>some n
 | _=>none
theorem IE.aN {ρ:Env} {a:IE} {n:Int} (h:a.dE=some n):a.den ρ=n:=by
 cases a <;> simp_all [IE.dE,IE.den]
def Kn.val (a:IE):Kn→Option Int
 | []=>none
 | (.aA x (.lit m),true) :: r=>if x.same a then some m else Kn.val a r
 | _ :: r=>Kn.val a r
theorem Kn.nP {ρ:Env} {a:IE} {m:Int}:∀{kn:Kn},Kn.ok ρ kn→Kn.val a kn=some m→a.den ρ=m
 | [],_,h=>by simp [Kn.val] at h
 | p :: r,hk,h=>by
  have hr:Kn.ok ρ r:=fun q hq=>hk q (by simp [hq])
  unfold Kn.val at h
  split at h
  ·rename_i hx
   cases hx
  ·rename_i x n r' hx
   cases hx
   split at h
   ·rename_i hs
    have:=hk (.aA x (.lit n),true) (by simp)
    simp only [BE.den,IE.den,beq_iff_eq] at this
    simp at h
    rw [←IE.aD hs,this,h]
   ·exact Kn.nP hr h
  ·rename_i hx
   cases hx
   exact Kn.nP hr h
def IE.val (kn:Kn) (a:IE):Option Int :=
 match a.dE with
 | some n=>some n
 | none=>Kn.val a kn
theorem IE.nP {ρ:Env} {kn:Kn} {a:IE} {n:Int} (hk:Kn.ok ρ kn) (h:a.val kn=some n):a.den ρ=n:=by
 unfold IE.val at h
 split at h
 ·rename_i hl
  simp at h
  subst h
  exact IE.aN hl
 ·exact Kn.nP hk h
def BE.decide (kn:Kn):BE→Option Bool
 | .lit b=>some b
 | .var i=>Kn.find (.var i) kn
 | .cell r a b j=>Kn.find (.cell r a b j) kn
 | .ite c a b=>Kn.find (.ite c a b) kn
 | .beq a b=>Kn.find (.beq a b) kn
 | .not a=>(a.decide kn).map (!·)
 | .and a b =>
  match a.decide kn,b.decide kn with
  | some false,_=>some false
  | _,some false=>some false
  | some true,some true=>some true
  | _,_=>Kn.find (.and a b) kn
 | .or a b =>
  match a.decide kn,b.decide kn with
  | some true,_=>some true
  | _,some true=>some true
  | some false,some false=>some false
  | _,_=>Kn.find (.or a b) kn
 | .aA a b =>
  match a.val kn,b.val kn with
  | some x,some y=>some (x == y)
  | _,_ =>
   if a.same b then some true else
   match Kn.find (.aA a b) kn with
   | some r=>some r
   | none=>Kn.find (.aA b a) kn
 | .ai a b =>
  match a.val kn,b.val kn with
  | some x,some y=>some (Decidable.decide (x≤y))
  | _,_=>if a.same b then some true else Kn.find (.ai a b) kn
 | .bO a b =>
  match a.val kn,b.val kn with
  | some x,some y=>some (Decidable.decide (x<y))
  | _,_=>Kn.find (.bO a b) kn
 | .inr k a =>
  match a.dE with
  | some x=>some (Decidable.decide (k.min≤x) && Decidable.decide (x≤k.max))
  | none=>Kn.find (.inr k a) kn
theorem BE.dw {ρ:Env} {kn:Kn} (hk:Kn.ok ρ kn):∀{c:BE} {b:Bool},c.decide kn=some b→c.den ρ=b:=by
 intro c
 induction c with
 | lit x=>intro b h;simpa [BE.decide,BE.den] using h
 | not a ih =>
  intro b h
  simp only [BE.decide,Option.map_eq_some_iff] at h
  obtain ⟨x,hx,rfl⟩:=h
  simp [BE.den,ih hx]
 | and x y Ud Ue =>
  intro b h
  simp only [BE.decide] at h
  split at h
  ·rename_i h1;simp at h;subst h;simp [BE.den,Ud h1]
  ·rename_i h1 _;simp at h;subst h;simp [BE.den,Ue h1]
  ·rename_i h1 h2;simp at h;subst h;simp [BE.den,Ud h1,Ue h2]
  ·exact Kn.jV hk h
 | or x y Ud Ue =>
  intro b h
  simp only [BE.decide] at h
  split at h
  ·rename_i h1;simp at h;subst h;simp [BE.den,Ud h1]
  ·rename_i h1 _;simp at h;subst h;simp [BE.den,Ue h1]
  ·rename_i h1 h2;simp at h;subst h;simp [BE.den,Ud h1,Ue h2]
  ·exact Kn.jV hk h
 | aA x y =>
  intro b h
  simp only [BE.decide] at h
  split at h
  ·rename_i h1 h2;simp at h;subst h;simp [BE.den,IE.nP hk h1,IE.nP hk h2]
  ·split at h
   ·rename_i hs;simp at h;subst h;simp [BE.den,IE.aD hs]
   ·split at h
    ·rename_i r hr
     simp at h;subst h
     exact Kn.jV (c:=.aA x y) hk hr
    ·have:=Kn.jV (c:=.aA y x) hk h
     simp only [BE.den] at this ⊢
     rw [←this]
     exact Bool.beq_comm
 | ai x y =>
  intro b h
  simp only [BE.decide] at h
  split at h
  ·rename_i h1 h2;simp at h;subst h;simp [BE.den,IE.nP hk h1,IE.nP hk h2]
  ·split at h
   ·rename_i hs;simp at h;subst h;simp [BE.den,IE.aD hs]
   ·exact Kn.jV (c:=.ai x y) hk h
 | bO x y =>
  intro b h
  simp only [BE.decide] at h
  split at h
  ·rename_i h1 h2;simp at h;subst h;simp [BE.den,IE.nP hk h1,IE.nP hk h2]
  ·exact Kn.jV (c:=.bO x y) hk h
 | inr k x =>
  intro b h
  simp only [BE.decide] at h
  split at h
  ·rename_i h1;simp at h;subst h;simp [BE.den,IE.aN h1]
  ·exact Kn.jV (c:=.inr k x) hk h
 | var i=>intro b h;exact Kn.jV (c:=.var i) hk (by simpa [BE.decide] using h)
 | ite c a b _ _ _=>intro b' h;exact Kn.jV (c:=.ite c a b) hk (by simpa [BE.decide] using h)
 | beq a b _ _=>intro b' h;exact Kn.jV (c:=.beq a b) hk (by simpa [BE.decide] using h)
 | cell r a b j=>intro b' h;exact Kn.jV (c:=.cell r a b j) hk (by simpa [BE.decide] using h)
def IE.iO (a b:IE):IE :=
 match a.dE,b.dE with
 | some x,some y=>.lit (x+y)
 | some x,none=>if x == 0 then b else .add a b
 | none,some y=>if y == 0 then a else .add a b
 | _,_=>.add a b
theorem IE.kL (ρ:Env) (a b:IE):(a.iO b).den ρ=a.den ρ+b.den ρ:=by
 unfold IE.iO
 split
 ·rename_i h1 h2;simp [IE.aN h1,IE.aN h2,IE.den]
 ·rename_i x h1 _;split
  ·rename_i h;simp at h;simp [IE.aN h1,h]
  ·simp [IE.den]
 ·rename_i y _ h1;split
  ·rename_i h;simp at h;simp [IE.aN h1,h]
  ·simp [IE.den]
 ·simp [IE.den]
def BE.dE:BE→Option Bool
 | .lit b=>some b
 | _=>none
theorem BE.aN {ρ:Env} {a:BE} {b:Bool} (h:a.dE=some b):a.den ρ=b:=by
 cases a <;> simp_all [BE.dE,BE.den]
def BE.mF (a:BE):BE:=match a with | .lit b=>.lit (!b) | .not b=>b | c=>.not c
theorem BE.iP (ρ:Env) (a:BE):a.mF.den ρ=!a.den ρ:=by
 unfold BE.mF;split <;> simp [BE.den]
def BE.rJ (a b:BE):BE :=
 match a.dE with
 | some true=>b
 | some false=>.lit false
 | none=>match b.dE with
  | some true=>a
  | some false=>.lit false
  | none=>.and a b
theorem BE.xR (ρ:Env) (a b:BE):(a.rJ b).den ρ=(a.den ρ && b.den ρ):=by
 unfold BE.rJ
 split
 ·rename_i h;simp [BE.aN h]
 ·rename_i h;simp [BE.aN h,BE.den]
 ·split
  ·rename_i h;simp [BE.aN h]
  ·rename_i h;simp [BE.aN h,BE.den]
  ·simp [BE.den]
def BE.Xq (c a b:BE):BE :=
 match c.dE with
 | some true=>a
 | some false=>b
 | none =>
  match a.dE,b.dE with
  | some true,some false=>c
  | some false,some true=>.not c
  | some true,some true=>.lit true
  | some false,some false=>.lit false
  | some true,none=>.or c b
  | some false,none=>.and (.not c) b
  | none,some false=>.and c a
  | none,some true=>.or (.not c) a
  | none,none=>.ite c a b
theorem BE.Li (ρ:Env) (c a b:BE):(c.Xq a b).den ρ=if c.den ρ then a.den ρ else b.den ρ:=by
 unfold BE.Xq
 split
 ·rename_i h;simp [BE.aN h]
 ·rename_i h;simp [BE.aN h]
 ·split
  ·rename_i h1 h2;simp [BE.aN h1,BE.aN h2]
  ·rename_i h1 h2;simp [BE.aN h1,BE.aN h2,BE.den]
  ·rename_i h1 h2;simp [BE.aN h1,BE.aN h2,BE.den]
  ·rename_i h1 h2;simp [BE.aN h1,BE.aN h2,BE.den]
  ·rename_i h1 h2;rw [BE.aN h1];simp only [BE.den];cases c.den ρ <;> simp
  ·rename_i h1 h2;rw [BE.aN h1];simp only [BE.den];cases c.den ρ <;> simp
  ·rename_i h1 h2;rw [BE.aN h2];simp only [BE.den];cases c.den ρ <;> simp
  ·rename_i h1 h2;rw [BE.aN h2];simp only [BE.den];cases c.den ρ <;> simp
  ·simp [BE.den]
structure SA where
 aC:Nat
 i1:IE:=.lit 0
 s1:Nat:=0
 i2:IE:=.lit 0
 s2:Nat:=0
 j:Nat:=0
 deriving Inhabited
def SA.off (ρ:Env) (a:SA):Nat:=(a.i1.den ρ).toNat * a.s1+(a.i2.den ρ).toNat * a.s2+a.j
theorem Addr.add_add (a:Addr) (m n:Nat):(a.add m).add n=a.add (m+n):=by
 unfold Addr.add
 by_cases hm:m=0 <;> by_cases hn:n=0 <;> simp [hm,hn,Nat.add_assoc]
theorem Addr.add_zero (a:Addr):a.add 0=a:=by
 simp [Addr.add]
def SA.den (ρ:Env) (ν:Nat→Addr) (a:SA):Addr:=(ν a.aC).add (a.off ρ)
def SA.same (a b:SA):Bool:=a.aC == b.aC && a.i1.same b.i1 && a.s1 == b.s1 && a.i2.same b.i2 && a.s2 == b.s2 && a.j == b.j
theorem SA.aD {a b:SA} (h:a.same b=true):a=b:=by
 obtain ⟨_,_,_,_,_,_⟩:=a
 obtain ⟨_,_,_,_,_,_⟩:=b
 simp [SA.same] at h
 obtain ⟨⟨⟨⟨⟨rfl,h1⟩,rfl⟩,h2⟩,rfl⟩,rfl⟩:=h
 rw [IE.aD h1,IE.aD h2]
theorem abf (ρ:Env) (ν:Nat→Addr) (a:SA) (n:Nat):(a.den ρ ν).add n=({a with j:=a.j+n}:SA).den ρ ν:=by
 unfold SA.den SA.off
 rw [Addr.add_add,Nat.add_assoc]
inductive SC where
 | int (k:IntKind) (e:IE)
 | bool (b:BE)
 | str (l:List UInt8)
 | val (i:Nat)
 | jO (r:Nat) (i1 i2:IE) (j:Nat)
 | ptr (a:SA)
 | bI
 | sl (a:SA) (len cap:IE)
 | bG
 | fw (c:BE) (a:SA) (len cap:IE)
 | fn (f:FuncId) (jS:List Nat)
 | bE
 | iface (t:TypeId) (c:SC)
 | dI
 | iY (c:BE) (x:SC)
 | mp (b:Nat)
 | qK
 | hole
 | rt (t b o:Nat)
 deriving Inhabited
def xS (v:Value):Value:=if v.oneCell' then v else .nilIface
theorem DV (v:Value):(xS v).oneCell'=true:=by unfold xS;split <;> simp_all [Value.oneCell']
theorem Cw {v:Value} (h:v.oneCell'=true):xS v=v:=by unfold xS;rw [if_pos h]
def SC.den (ρ:Env) (ν:Nat→Addr):SC→Value
 | .int k e=>.int k (e.den ρ)
 | .bool b=>.bool (b.den ρ)
 | .str l=>.string ⟨l.toArray⟩
 | .val i=>xS (ρ.vv i)
 | .jO r i1 i2 j=>xS (ρ.vc r (i1.den ρ).toNat (i2.den ρ).toNat j)
 | .ptr a=>.pointer (some (a.den ρ ν))
 | .bI=>.pointer none
 | .sl a len cap=>.slice (some (a.den ρ ν)) (len.den ρ).toNat (cap.den ρ).toNat
 | .bG=>.slice none 0 0
 | .fw c a len cap=>if c.den ρ then .slice none 0 0 else .slice (some (a.den ρ ν)) (len.den ρ).toNat (cap.den ρ).toNat
 | .fn f jS=>.func (.func f) #[] (jS.map fun b=>Value.pointer (some (ν b))).toArray
 | .bE=>.nilFunc
 | .iface t c=>.iface t (c.den ρ ν)
 | .dI=>.nilIface
 | .iY c x=>if c.den ρ then .nilIface else x.den ρ ν
 | .mp b=>.map (some (ν b).block)
 | .qK=>.map none
 | .rt t b o=>.iface t (.agg #[.pointer (some ⟨b,o,none⟩)])
 | .hole=>undef
def SC.isHole:SC→Bool
 | .hole=>true
 | .iY _ x=>x.isHole
 | _=>false
def SC.same:SC→SC→Bool
 | .int k e,.int l f=>j4 k l && e.same f
 | .bool a,.bool b=>a.same b
 | .str a,.str b=>a == b
 | .val i,.val j=>i == j
 | .jO r a b j,.jO s c d k=>r == s && a.same c && b.same d && j == k
 | .ptr a,.ptr b=>a.same b
 | .bI,.bI=>true
 | .sl a l c,.sl b m d=>a.same b && l.same m && c.same d
 | .bG,.bG=>true
 | .fw k a l c,.fw k' b m d=>k.same k' && a.same b && l.same m && c.same d
 | .fn f a,.fn g b=>f == g && a == b
 | .bE,.bE=>true
 | .iface t c,.iface u d=>t == u && c.same d
 | .dI,.dI=>true
 | .iY c x,.iY d y=>c.same d && x.same y
 | .mp a,.mp b=>a == b
 | .qK,.qK=>true
 | .rt t b o,.rt t' b' o'=>t == t' && b == b' && o == o'
 | .hole,.hole=>true
 | _,_=>false
theorem SC.aD:∀{a b:SC},a.same b=true→a=b:=by
 intro a
 induction a with
 | int k e=>intro b h;cases b <;> simp [SC.same] at h;rw [iL h.1,IE.aD h.2]
 | bool e=>intro b h;cases b <;> simp [SC.same] at h;rw [BE.aD h]
 | str l=>intro b h;cases b <;> simp [SC.same] at h;rw [h]
 | val l=>intro b h;cases b <;> simp [SC.same] at h;rw [h]
 | jO r i1 i2 j=>intro b h;cases b <;> simp [SC.same] at h;rw [h.1.1.1,IE.aD h.1.1.2,IE.aD h.1.2,h.2]
 | ptr a=>intro b h;cases b <;> simp [SC.same] at h;rw [SA.aD h]
 | bI=>intro b h;cases b <;> simp [SC.same] at h;rfl
 | sl a l c=>intro b h;cases b <;> simp [SC.same] at h;rw [SA.aD h.1.1,IE.aD h.1.2,IE.aD h.2]
 | bG=>intro b h;cases b <;> simp [SC.same] at h;rfl
 | fw k a l c=>intro b h;cases b <;> simp [SC.same] at h;rw [BE.aD h.1.1.1,SA.aD h.1.1.2,IE.aD h.1.2,IE.aD h.2]
 | fn f c=>intro b h;cases b <;> simp [SC.same] at h;rw [h.1,h.2]
 | bE=>intro b h;cases b <;> simp [SC.same] at h;rfl
 | iface t c ih=>intro b h;cases b <;> simp [SC.same] at h;rw [h.1,ih h.2]
 | dI=>intro b h;cases b <;> simp [SC.same] at h;rfl
 | iY c x ih=>intro b h;cases b <;> simp [SC.same] at h;rw [BE.aD h.1,ih h.2]
 | mp a=>intro b h;cases b <;> simp [SC.same] at h;rw [h]
 | qK=>intro b h;cases b <;> simp [SC.same] at h;rfl
 | rt t b o=>intro b' h;cases b' <;> simp [SC.same] at h;rw [h.1.1,h.1.2,h.2]
 | hole=>intro b h;cases b <;> simp [SC.same] at h;rfl
def uN:List SC→List SC→Bool
 | [],[]=>true
 | a :: r,b :: s=>a.same b && uN r s
 | _,_=>false
theorem xU:∀{a b:List SC},uN a b=true→a=b
 | [],[],_=>rfl
 | [],_ :: _,h=>by simp [uN] at h
 | _ :: _,[],h=>by simp [uN] at h
 | a :: r,b :: s,h=>by
  simp [uN] at h
  rw [SC.aD h.1,xU h.2]
theorem SC.sI {ρ:Env} {ν:Nat→Addr}:∀(c:SC),c.isHole=false→(c.den ρ ν).oneCell'=true:=by
 intro c
 induction c with
 | iY k x ih =>
  intro h
  have:=ih h
  simp only [SC.den]
  split
  ·rfl
  ·exact this
 | _=>intro h;simp_all [SC.den,SC.isHole,DV] <;> (try split) <;> simp [Value.oneCell']
inductive SW where
 | one (c:SC)
 | agg (cs:List SC)
 deriving Inhabited
def SW.den (ρ:Env) (ν:Nat→Addr):SW→Value
 | .one c=>c.den ρ ν
 | .agg cs=>.agg (cs.map (·.den ρ ν)).toArray
def SW.cells:SW→List SC
 | .one c=>[c]
 | .agg cs=>cs
def SW.same:SW→SW→Bool
 | .one a,.one b=>a.same b
 | .agg a,.agg b=>uN a b
 | _,_=>false
theorem SW.aD {a b:SW} (h:a.same b=true):a=b:=by
 cases a <;> cases b <;> simp [SW.same] at h
 ·rw [SC.aD h]
 ·rw [xU h]
inductive SV where
 | w (x:SW)
 | iF (xs:List SW)
 | gd (c:BE) (x:SW)
 deriving Inhabited
def SV.den (ρ:Env) (ν:Nat→Addr):SV→Value
 | .w x=>x.den ρ ν
 | .iF xs=>.tuple (xs.map (·.den ρ ν)).toArray
 | .gd c x=>if c.den ρ then x.den ρ ν else undef
inductive Kd where
 | int (k:IntKind) | bool | val
 deriving Inhabited
structure ae where
 r:Nat
 n1:IE:=.lit 1
 s1:Nat:=0
 n2:Nat:=1
 s2:Nat:=0
 lo:Nat:=0
 ks:List Kd
 z:Bool:=false
 deriving Inhabited
structure Up where
 g:Nat
 i1:IE
 i2:IE
 j:Nat
 c:SC
 deriving Inhabited
structure SB where
 t:TypeId
 cs:List SC:=[]
 aX:List ae:=[]
 ups:List Up:=[]
 gone:Bool:=false
 opn:Bool:=false
 cap:Option (IE × Nat):=none
 ro:Bool:=false
 own:Bool:=false
 nl:BE:=.lit false
 deriving Inhabited
def ae.base (ρ:Env) (g:ae) (i1 i2 j:Nat):Value :=
 match g.ks[j]? with
 | some (.int k)=>.int k (if g.z then 0 else ρ.ic g.r i1 i2 j)
 | some .bool=>.bool (if g.z then false else ρ.bc g.r i1 i2 j)
 | _=>xS (ρ.vc g.r i1 i2 j)
def cK (ρ:Env) (ν:Nat→Addr):List Up→Nat→Nat→Nat→Nat→Value→Value
 | [],_,_,_,_,b=>b
 | u :: r,g,i1,i2,j,b =>
  if u.g=g∧(u.i1.den ρ).toNat=i1∧(u.i2.den ρ).toNat=i2∧u.j=j then u.c.den ρ ν else cK ρ ν r g i1 i2 j b
structure SB.has (ρ:Env) (ν:Nat→Addr) (sb:SB) (cs:Array Value):Prop where
 un:∀u∈sb.ups,0≤u.i1.den ρ∧0≤u.i2.den ρ
 size:sb.aX=[]→sb.opn=false→cs.size=sb.cs.length
 cap:∀e n,sb.cap=some (e,n)→0≤e.den ρ∧cs.size=(e.den ρ).toNat * n
 ex:∀(p:Nat) (c:SC),sb.cs[p]?=some c→c.isHole=false→cs[p]?=some (c.den ρ ν)
 sg:∀(gi:Nat) (g:ae),sb.aX[gi]?=some g→∀i1 i2 j:Nat,(i1:Int)<g.n1.den ρ→i2<g.n2→j<g.ks.length →
  cs[i1 * g.s1+i2 * g.s2+g.lo+j]?=some (cK ρ ν sb.ups gi i1 i2 j (g.base ρ i1 i2 j))
def ae.inner (g:ae):Nat:=(g.n2-1) * g.s2+g.ks.length
def ae.ext (g:ae):Option Nat:=g.n1.dE.map fun n=>(n.toNat-1) * g.s1+g.inner
def Fj (g h:ae):Bool :=
 (match g.ext,h.ext with
  | some e,some f=>decide (g.lo+e≤h.lo) || decide (h.lo+f≤g.lo)
  | _,_=>false) ||
 (g.s1 == h.s1 && (decide (g.lo+g.inner≤h.lo) || decide (h.lo+h.inner≤g.lo)) && decide (g.lo+g.inner≤g.s1) && decide (h.lo+h.inner≤h.s1))
def ae.one (g:ae):Bool:=match g.n1.dE with | some n=>decide (n≤1) | none=>false
def ae.inj (g:ae):Bool:=(decide (g.n2≤1) || decide (g.ks.length≤g.s2)) && (g.one || decide (g.inner≤g.s1))
def Fp (g:ae) (p:Nat):Bool:=match g.ext with | some e=>decide (p<g.lo) || decide (g.lo+e≤p) | none=>false
theorem tu {g:ae} {i2 j:Nat} (h2:i2<g.n2) (hj:j<g.ks.length):i2 * g.s2+j<g.inner:=by
 unfold ae.inner
 have:i2 * g.s2≤(g.n2-1) * g.s2:=Nat.mul_le_mul_right _ (by omega)
 omega
theorem Lj {ρ:Env} {g:ae} {e i1 i2 j:Nat} (he:g.ext=some e) (h1:(i1:Int)<g.n1.den ρ) (h2:i2<g.n2) (hj:j<g.ks.length) :
  i1 * g.s1+i2 * g.s2+j<e:=by
 unfold ae.ext at he
 simp only [Option.map_eq_some_iff] at he
 obtain ⟨n,hn,rfl⟩:=he
 rw [IE.aN hn] at h1
 have:=tu h2 hj
 have h3:i1 * g.s1≤(n.toNat-1) * g.s1:=Nat.mul_le_mul_right _ (by omega)
 omega
theorem Ll {ρ:Env} {g:ae} {p i1 i2 j:Nat} (h:Fp g p=true) (h1:(i1:Int)<g.n1.den ρ) (h2:i2<g.n2) (hj:j<g.ks.length) :
  i1 * g.s1+i2 * g.s2+g.lo+j≠p:=by
 unfold Fp at h
 split at h
 ·rename_i e he
  have:=Lj he h1 h2 hj
  simp at h
  omega
 ·cases h
theorem acA {s lo lo' n n' a b x y:Nat} (ha:lo+n≤s) (hb:lo'+n'≤s) (hx:x<n) (hy:y<n') (hsep:lo+n≤lo'∨lo'+n'≤lo) :
  a * s+lo+x≠b * s+lo'+y:=by
 intro h
 rcases Nat.lt_trichotomy a b with hab | hab | hab
 ·have:(a+1) * s≤b * s:=Nat.mul_le_mul_right _ hab
  rw [Nat.add_mul] at this
  omega
 ·subst hab;omega
 ·have:(b+1) * s≤a * s:=Nat.mul_le_mul_right _ hab
  rw [Nat.add_mul] at this
  omega
theorem Uf {ρ:Env} {g h:ae} {i1 i2 j k1 k2 l:Nat} (hs:Fj g h=true) (h1:(i1:Int)<g.n1.den ρ) (h2:i2<g.n2) (hj:j<g.ks.length)
  (k1':(k1:Int)<h.n1.den ρ) (k2':k2<h.n2) (hl:l<h.ks.length) :
  i1 * g.s1+i2 * g.s2+g.lo+j≠k1 * h.s1+k2 * h.s2+h.lo+l:=by
 unfold Fj at hs
 rw [Bool.or_eq_true] at hs
 rcases hs with hs | hs
 ·split at hs
  ·rename_i e f he hf
   have:=Lj he h1 h2 hj
   have:=Lj hf k1' k2' hl
   simp at hs
   omega
  ·cases hs
 ·simp at hs
  obtain ⟨⟨⟨e1,hsep⟩,ha⟩,hb⟩:=hs
  have hx:=tu h2 hj
  have hy:=tu k2' hl
  rw [←e1] at hb ⊢
  have:=acA (a:=i1) (b:=k1) ha hb hx hy hsep
  omega
theorem acB {ρ:Env} {g:ae} {i1 i2 j k1 k2 l:Nat} (hs:g.inj=true) (h1:(i1:Int)<g.n1.den ρ) (h2:i2<g.n2) (hj:j<g.ks.length)
  (k1':(k1:Int)<g.n1.den ρ) (k2':k2<g.n2) (hl:l<g.ks.length) (he:i1 * g.s1+i2 * g.s2+g.lo+j=k1 * g.s1+k2 * g.s2+g.lo+l) :
  i1=k1∧i2=k2∧j=l:=by
 unfold ae.inj at hs
 simp at hs
 obtain ⟨ha,hb⟩:=hs
 have hx:=tu h2 hj
 have hy:=tu k2' hl
 have e1:i1=k1:=by
  rcases hb with hb | hb
  ·unfold ae.one at hb
   split at hb
   ·rename_i n hn
    rw [IE.aN hn] at h1 k1'
    simp at hb
    omega
   ·cases hb
  ·rcases Nat.lt_trichotomy i1 k1 with hab | hab | hab
   ·have:(i1+1) * g.s1≤k1 * g.s1:=Nat.mul_le_mul_right _ hab
    rw [Nat.add_mul] at this
    omega
   ·exact hab
   ·have:(k1+1) * g.s1≤i1 * g.s1:=Nat.mul_le_mul_right _ hab
    rw [Nat.add_mul] at this
    omega
 subst e1
 have he':i2 * g.s2+j=k2 * g.s2+l:=by omega
 have e2:i2=k2:=by
  rcases ha with ha | ha
  ·omega
  ·rcases Nat.lt_trichotomy i2 k2 with hab | hab | hab
   ·have:(i2+1) * g.s2≤k2 * g.s2:=Nat.mul_le_mul_right _ hab
    rw [Nat.add_mul] at this
    omega
   ·exact hab
   ·have:(k2+1) * g.s2≤i2 * g.s2:=Nat.mul_le_mul_right _ hab
    rw [Nat.add_mul] at this
    omega
 subst e2
 exact ⟨rfl,rfl,by omega⟩
inductive Loc where
 | ex (p:Nat)
 | sg (gi:Nat) (g:ae) (i1 i2:IE) (j:Nat)
 deriving Inhabited
def Loc.gH:Loc→List BE
 | .ex _=>[]
 | .sg _ g i1 i2 _=>[.ai (.lit 0) i1,.bO i1 g.n1,.ai (.lit 0) i2,.bO i2 (.lit g.n2)]
def Loc.pos (ρ:Env):Loc→Nat
 | .ex p=>p
 | .sg _ g i1 i2 j=>(i1.den ρ).toNat * g.s1+(i2.den ρ).toNat * g.s2+g.lo+j
def Loc.ok (sb:SB):Loc→Prop
 | .ex p=>∃c,sb.cs[p]?=some c∧c.isHole=false
 | .sg gi g _ _ j=>sb.aX[gi]?=some g∧j<g.ks.length
def SA.dE (a:SA):Option Nat :=
 match a.i1.dE,a.i2.dE with
 | some x,some y=>some (x.toNat * a.s1+y.toNat * a.s2+a.j)
 | _,_=>none
theorem SA.aN {ρ:Env} {a:SA} {p:Nat} (h:a.dE=some p):a.off ρ=p:=by
 unfold SA.dE at h
 split at h
 ·rename_i h1 h2;simp at h;simp [SA.off,IE.aN h1,IE.aN h2,h]
 ·cases h
def ae.below (g:ae) (n:Nat):Bool:=match g.n1.dE with | some m=>decide ((n:Int)<m) | none=>false
def oK (a:SA) (k:Nat):List ae→Nat→Option Loc
 | [],_=>none
 | g :: r,gi =>
  let q:=a.j+k
  if a.s1 == g.s1 && a.s2 == g.s2 && decide (g.lo≤q) && decide (q<g.lo+g.ks.length) then some (.sg gi g a.i1 a.i2 (q-g.lo))
  else if a.s1 == g.s1 && a.s2 == 0 && decide (g.lo≤q) && decide (0<g.s2) && decide ((q-g.lo) % g.s2<g.ks.length) && decide ((q-g.lo) / g.s2<g.n2) then
   some (.sg gi g a.i1 (.lit ((q-g.lo) / g.s2:Nat)) ((q-g.lo) % g.s2))
  else if a.s1 == 0 && a.s2 == 0 && g.s2 == 0 && decide (g.lo≤q) && decide (0<g.s1) && decide ((q-g.lo) % g.s1<g.ks.length) && g.below ((q-g.lo) / g.s1) then
   some (.sg gi g (.lit ((q-g.lo) / g.s1:Nat)) (.lit 0) ((q-g.lo) % g.s1))
  else oK a k r (gi+1)
theorem Fq {ρ:Env} {a:SA} {k:Nat} {l:Loc}:∀{gs:List ae} {gi:Nat} {sb:SB},(∀i,gs[i]?=sb.aX[gi+i]?)→oK a k gs gi=some l →
  l.ok sb∧l.pos ρ=a.off ρ+k
 | [],_,_,_,h=>by simp [oK] at h
 | g :: r,gi,sb,hg,h=>by
  unfold oK at h
  have hg0:sb.aX[gi]?=some g:=by have:=hg 0;simpa using this.symm
  simp only at h
  split at h
  ·rename_i hc
   simp only [Bool.and_eq_true,beq_iff_eq,decide_eq_true_eq,Option.some.injEq] at hc h
   subst h
   obtain ⟨⟨⟨h1,h2⟩,h3⟩,h4⟩:=hc
   refine ⟨⟨hg0,by omega⟩,?_⟩
   simp only [Loc.pos,SA.off,h1,h2]
   omega
  ·split at h
   ·rename_i _ hc
    simp only [Bool.and_eq_true,beq_iff_eq,decide_eq_true_eq,Option.some.injEq] at hc h
    subst h
    obtain ⟨⟨⟨⟨⟨h1,h2⟩,h3⟩,h4⟩,h5⟩,h6⟩:=hc
    refine ⟨⟨hg0,h5⟩,?_⟩
    have hdm:=Nat.div_add_mod (a.j+k-g.lo) g.s2
    rw [Nat.mul_comm] at hdm
    simp only [Loc.pos,SA.off,h1,h2,IE.den,Int.toNat_natCast]
    omega
   ·split at h
    ·rename_i _ _ hc
     simp only [Bool.and_eq_true,beq_iff_eq,decide_eq_true_eq,Option.some.injEq] at hc h
     subst h
     obtain ⟨⟨⟨⟨⟨⟨h1,h2⟩,h3⟩,h4⟩,h5⟩,h6⟩,h7⟩:=hc
     refine ⟨⟨hg0,h6⟩,?_⟩
     have hdm:=Nat.div_add_mod (a.j+k-g.lo) g.s1
     rw [Nat.mul_comm] at hdm
     simp only [Loc.pos,SA.off,h1,h2,h3,IE.den,Int.toNat_natCast]
     omega
    ·exact Fq (gs:=r) (gi:=gi+1) (fun i=>by have:=hg (i+1);simpa [Nat.add_assoc,Nat.add_comm 1 i] using this) h
def SB.loc (sb:SB) (a:SA) (k:Nat):Option Loc :=
 match a.dE with
 | some p =>
  match sb.cs[p+k]? with
  | some c=>if c.isHole then oK a k sb.aX 0 else some (.ex (p+k))
  | none=>oK a k sb.aX 0
 | none=>oK a k sb.aX 0
theorem SB.Ug {ρ:Env} {sb:SB} {a:SA} {k:Nat} {l:Loc} (h:sb.loc a k=some l):l.ok sb∧l.pos ρ=a.off ρ+k:=by
 unfold SB.loc at h
 have hf:oK a k sb.aX 0=some l→l.ok sb∧l.pos ρ=a.off ρ+k:=fun h=>Fq (gs:=sb.aX) (gi:=0) (fun i=>by simp) h
 split at h
 ·rename_i p hp
  split at h
  ·rename_i c hc
   split at h
   ·exact hf h
   ·rename_i hh
    simp at h
    subst h
    exact ⟨⟨c,hc,by simpa using hh⟩,by simp [Loc.pos,SA.aN hp]⟩
  ·exact hf h
 ·exact hf h
inductive Rd (α:Type) where
 | ok (x:α)
 | br (c:BE)
 | no
def qh (kn:Kn) (gi:Nat) (i1 i2:IE) (j:Nat) (base:SC):List Up→Rd SC
 | []=>.ok base
 | u :: r =>
  if u.g == gi && u.j == j then
   match (BE.aA i1 u.i1).decide kn,(BE.aA i2 u.i2).decide kn with
   | some true,some true=>.ok u.c
   | some false,_=>qh kn gi i1 i2 j base r
   | _,some false=>qh kn gi i1 i2 j base r
   | none,_=>.br (.aA i1 u.i1)
   | _,none=>.br (.aA i2 u.i2)
  else qh kn gi i1 i2 j base r
def ae.Lm (g:ae) (i1 i2:IE) (j:Nat):SC :=
 match g.ks[j]? with
 | some (.int k)=>.int k (if g.z then .lit 0 else .cell g.r i1 i2 j)
 | some .bool=>.bool (if g.z then .lit false else .cell g.r i1 i2 j)
 | _=>.jO g.r i1 i2 j
theorem ae.QY (ρ:Env) (ν:Nat→Addr) (g:ae) (i1 i2:IE) (j:Nat) :
  (g.Lm i1 i2 j).den ρ ν=g.base ρ (i1.den ρ).toNat (i2.den ρ).toNat j:=by
 unfold ae.Lm ae.base
 split <;> cases g.z <;> simp [SC.den,IE.den,BE.den]
def SB.read (kn:Kn) (sb:SB):Loc→Rd SC
 | .ex p=>match sb.cs[p]? with | some c=>.ok c | none=>.no
 | .sg gi g i1 i2 j=>qh kn gi i1 i2 j (g.Lm i1 i2 j) sb.ups
theorem Fs {ρ:Env} {ν:Nat→Addr} {kn:Kn} (hk:Kn.ok ρ kn) {gi:Nat} {i1 i2:IE} {j:Nat} {base c:SC} (n1:0≤i1.den ρ) (n2:0≤i2.den ρ) :
  ∀{us:List Up},(∀u∈us,0≤u.i1.den ρ∧0≤u.i2.den ρ)→qh kn gi i1 i2 j base us=.ok c →
  cK ρ ν us gi (i1.den ρ).toNat (i2.den ρ).toNat j (base.den ρ ν)=c.den ρ ν
 | [],_,h=>by simp [qh] at h;subst h;rfl
 | u :: r,hn,h=>by
  have ih:=Fs (ν:=ν) hk (gi:=gi) (j:=j) (base:=base) (c:=c) n1 n2 (us:=r) (fun u hu=>hn u (by simp [hu]))
  obtain ⟨m1,m2⟩:=hn u (by simp)
  unfold qh at h
  unfold cK
  split at h
  ·rename_i hc
   simp at hc
   split at h
   ·rename_i h1 h2
    have e1:=BE.dw hk h1
    have e2:=BE.dw hk h2
    simp [BE.den] at e1 e2
    simp at h
    rw [if_pos ⟨hc.1,by rw [e1],by rw [e2],hc.2⟩,h]
   ·rename_i h1
    have e1:=BE.dw hk h1
    simp [BE.den] at e1
    rw [if_neg (by omega)]
    exact ih h
   ·rename_i h1 _
    have e1:=BE.dw hk h1
    simp [BE.den] at e1
    rw [if_neg (by omega)]
    exact ih h
   ·cases h
   ·cases h
  ·rename_i hc
   simp at hc
   rw [if_neg (by intro hh;exact hc hh.1 hh.2.2.2)]
   exact ih h
theorem Uh {ρ:Env} {gi:Nat} {g:ae} {i1 i2:IE} {j:Nat} (h:∀o∈(Loc.sg gi g i1 i2 j).gH,o.den ρ=true) :
  0≤i1.den ρ∧i1.den ρ<g.n1.den ρ∧0≤i2.den ρ∧i2.den ρ<g.n2:=by
 simp only [Loc.gH,List.mem_cons,List.not_mem_nil,or_false,forall_eq_or_imp,forall_eq,BE.den,IE.den,decide_eq_true_eq] at h
 obtain ⟨h1,h2,h3,h4⟩:=h
 exact ⟨of_decide_eq_true h1,h2,of_decide_eq_true h3,of_decide_eq_true h4⟩
theorem SB.H7 {ρ:Env} {ν:Nat→Addr} {kn:Kn} (hk:Kn.ok ρ kn) {sb:SB} {cs:Array Value} (hb:sb.has ρ ν cs) {l:Loc} (hl:l.ok sb)
  (ho:∀o∈l.gH,o.den ρ=true) {c:SC} (h:sb.read kn l=.ok c):cs[l.pos ρ]?=some (c.den ρ ν):=by
 cases l with
 | ex p =>
  obtain ⟨d,hd,hh⟩:=hl
  simp [SB.read,hd] at h
  subst h
  exact hb.ex p d hd hh
 | sg gi g i1 i2 j =>
  obtain ⟨hg,hj⟩:=hl
  obtain ⟨a1,a2,a3,a4⟩:=Uh ho
  have:=hb.sg gi g hg (i1.den ρ).toNat (i2.den ρ).toNat j (by omega) (by omega) hj
  simp only [Loc.pos]
  rw [this]
  have h':=Fs (ν:=ν) hk a1 a3 hb.un h
  rw [ae.QY] at h'
  rw [h']
def uO (gi:Nat) (g:ae):List ae→Nat→Bool
 | [],_=>true
 | h :: r,i=>(i == gi || Fj g h) && uO gi g r (i+1)
theorem Af {gi:Nat} {g:ae}:∀{hs:List ae} {i:Nat},uO gi g hs i=true→∀k h,hs[k]?=some h→i+k≠gi→Fj g h=true
 | [],_,_,k,h,hk,_=>by simp at hk
 | x :: r,i,hs,k,h,hk,hne=>by
  simp [uO] at hs
  cases k with
  | zero =>
   simp at hk
   subst hk
   exact hs.1.resolve_left (by omega)
  | succ k=>exact Af hs.2 k h (by simpa using hk) (by omega)
def Fu (g:ae):List SC→Nat→Bool
 | [],_=>true
 | c :: r,p=>(c.isHole || Fp g p) && Fu g r (p+1)
theorem Jk {g:ae}:∀{cs:List SC} {p:Nat},Fu g cs p=true→∀(k:Nat) (c:SC),cs[k]?=some c→c.isHole=false→Fp g (p+k)=true
 | [],_,_,k,c,hk,_=>by simp at hk
 | x :: r,p,hs,k,c,hk,hne=>by
  simp [Fu] at hs
  cases k with
  | zero =>
   simp at hk
   subst hk
   exact hs.1.resolve_left (by simp [hne])
  | succ k =>
   have:=Jk hs.2 k c (by simpa using hk) hne
   rwa [Nat.add_assoc,Nat.add_comm 1 k] at this
def SB.write (sb:SB) (l:Loc) (c:SC):Option SB :=
 if c.isHole then none else
 match l with
 | .ex p=>if sb.aX.all (Fp · p) then some {sb with cs:=sb.cs.set p c} else none
 | .sg gi g i1 i2 j=>if g.inj && uO gi g sb.aX 0 && Fu g sb.cs 0 then some {sb with ups:=⟨gi,i1,i2,j,c⟩ :: sb.ups} else none
theorem SB.DW {ρ:Env} {ν:Nat→Addr} {sb sb':SB} {cs:Array Value} (hb:sb.has ρ ν cs) {l:Loc} (hl:l.ok sb)
  (ho:∀o∈l.gH,o.den ρ=true) {c:SC} (h:sb.write l c=some sb'):sb'.has ρ ν (cs.setIfInBounds (l.pos ρ) (c.den ρ ν))∧l.pos ρ<cs.size:=by
 unfold SB.write at h
 split at h
 ·cases h
 rename_i hch
 cases l with
 | ex p =>
  obtain ⟨d,hd,hh⟩:=hl
  simp only at h
  split at h
  ·rename_i hs
   simp at h
   subst h
   have hcell:=hb.ex p d hd hh
   have hlt:p<cs.size:=(Array.getElem?_eq_some_iff.1 hcell).1
   refine ⟨⟨hb.un,fun hsz ho=>by simp [hb.size hsz ho],fun e n he=>by simpa using hb.cap e n he,fun q e hq he=>?_,fun gi g hg i1 i2 j h1 h2 h3=>?_⟩,by simpa [Loc.pos] using hlt⟩
   ·simp only [Loc.pos]
    by_cases hpq:p=q
    ·subst hpq
     rw [List.getElem?_set_self (List.getElem?_eq_some_iff.1 hd).1] at hq
     simp at hq
     subst hq
     simp [hlt]
    ·rw [List.getElem?_set_ne hpq] at hq
     rw [Array.getElem?_setIfInBounds_ne hpq]
     exact hb.ex q e hq he
   ·simp only [Loc.pos]
    rw [Array.getElem?_setIfInBounds_ne]
    ·exact hb.sg gi g hg i1 i2 j h1 h2 h3
    ·have:=List.all_eq_true.1 hs g (List.mem_of_getElem? hg)
     exact fun e=>Ll this h1 h2 h3 e.symm
  ·cases h
 | sg gi g i1 i2 j =>
  obtain ⟨hg,hj⟩:=hl
  obtain ⟨a1,a2,a3,a4⟩:=Uh ho
  simp only at h
  split at h
  ·rename_i hs
   simp only [Bool.and_eq_true] at hs
   obtain ⟨⟨hinj,hoth⟩,hex⟩:=hs
   simp at h
   subst h
   have b1:(((i1.den ρ).toNat:Nat):Int)<g.n1.den ρ:=by omega
   have b2:(i2.den ρ).toNat<g.n2:=by omega
   have hcell:=hb.sg gi g hg (i1.den ρ).toNat (i2.den ρ).toNat j b1 b2 hj
   have hlt:=(Array.getElem?_eq_some_iff.1 hcell).1
   refine ⟨⟨?_,fun hsz ho=>by simpa using hb.size hsz ho,fun e n he=>by simpa using hb.cap e n he,fun q e hq he=>?_,fun ZJ g' hg' k1 k2 l h1 h2 h3=>?_⟩,by simpa [Loc.pos] using hlt⟩
   ·intro u hu
    rcases List.mem_cons.1 hu with rfl | hu
    ·exact ⟨a1,a3⟩
    ·exact hb.un u hu
   ·simp only [Loc.pos]
    have hsep:=Jk hex q e hq he
    rw [Nat.zero_add] at hsep
    rw [Array.getElem?_setIfInBounds_ne (Ll hsep b1 b2 hj)]
    exact hb.ex q e hq he
   ·simp only [Loc.pos]
    by_cases hgi:ZJ=gi
    ·subst hgi
     rw [hg] at hg'
     simp at hg'
     subst hg'
     by_cases hpos:(i1.den ρ).toNat * g.s1+(i2.den ρ).toNat * g.s2+g.lo+j=k1 * g.s1+k2 * g.s2+g.lo+l
     ·obtain ⟨e1,e2,e3⟩:=acB hinj b1 b2 hj h1 h2 h3 hpos
      subst e1 e2 e3
      simp only [cK,and_self,if_true]
      simp [hlt]
     ·rw [Array.getElem?_setIfInBounds_ne hpos]
      rw [hb.sg ZJ g hg k1 k2 l h1 h2 h3]
      simp only [cK]
      rw [if_neg]
      rintro ⟨_,e1,e2,e3⟩
      exact hpos (by rw [e1,e2,e3])
    ·have hsep:=Af hoth ZJ g' hg' (by simpa using hgi)
     rw [Array.getElem?_setIfInBounds_ne (Uf hsep b1 b2 hj h1 h2 h3)]
     rw [hb.sg ZJ g' hg' k1 k2 l h1 h2 h3]
     simp only [cK]
     rw [if_neg]
     rintro ⟨e1,_⟩
     exact hgi e1.symm
  ·cases h
inductive TD where
 | int (k:IntKind) | bool | str | ptr (e:TypeId) | sl (e:TypeId) | struct (fs:List (Nat × TypeId)) | arr (n:Nat) (e:TypeId) | wJ | fn | map (k e:TypeId) | other
 deriving Inhabited
structure TI where
 d:TD
 size:Nat
 bytes:Nat
 zero:List SC
 eqs:Bool:=false
 deriving Inhabited
inductive FT where
 | leaf
 | node (k:FuncId) (f:Func) (l r:FT)
 deriving Inhabited
def FT.find (n:FuncId):FT→Option Func
 | .leaf=>none
 | .node k f l r=>match Nat.beq k n with
  | true=>some f
  | false=>match Nat.blt n k with
   | true=>l.find n
   | false=>r.find n
def FT.flat:FT→List (FuncId × Func)
 | .leaf=>[]
 | .node k f l r=>l.flat ++ (k,f) :: r.flat
theorem FT.DX {n:FuncId} {g:Func}:∀{t:FT},t.find n=some g→(n,g)∈t.flat
 | .leaf,h=>by simp [FT.find] at h
 | .node k f l r,h=>by
  unfold FT.find at h
  unfold FT.flat
  split at h
  ·rename_i hk
   have hk:=Nat.eq_of_beq_eq_true hk
   cases h
   simp [hk]
  ·split at h
   ·exact List.mem_append_left _ (FT.DX h)
   ·exact List.mem_append_right _ (List.mem_cons_of_mem _ (FT.DX h))
structure aY where
 mG:List (TypeId × TI)
 fns:List (FuncId × Func)
 wraps:List FuncId:=[]
 wr:Bool:=false
 ft:FT:=.leaf
 deriving Inhabited
def assoc {α:Type} (n:Nat):List (Nat × α)→Option α
 | []=>none
 | (k,a) :: r=>if k == n then some a else assoc n r
theorem j5 {α:Type} {n:Nat} {a:α}:∀{l:List (Nat × α)},assoc n l=some a→(n,a)∈l
 | [],h=>by simp [assoc] at h
 | (k,b) :: r,h=>by
  unfold assoc at h
  split at h
  ·rename_i hk;simp at hk h;subst hk h;simp
  ·exact List.mem_cons_of_mem _ (j5 h)
def tC {α:Type} (n:Nat):List (Nat × α)→Option α
 | []=>none
 | (k,a) :: r=>match Nat.beq k n with | true=>some a | false=>tC n r
theorem Ag {α:Type} {n:Nat}:∀{l:List (Nat × α)},tC n l=assoc n l
 | []=>rfl
 | (k,a) :: r=>by
  unfold tC assoc
  by_cases h:k=n
  ·subst h
   simp
  ·have h1:Nat.beq k n=false:=by
    cases hb:Nat.beq k n with
    | true=>exact absurd (Nat.eq_of_beq_eq_true hb) h
    | false=>rfl
   rw [h1,if_neg (by simpa using h)]
   exact Ag
theorem Fv {α:Type} {n:Nat} {a:α} {l:List (Nat × α)} (h:tC n l=some a):(n,a)∈l:=j5 (by rw [←Ag];exact h)
def aY.ty (T:aY) (t:TypeId):Option TI:=tC t T.mG
def aY.f (T:aY) (f:FuncId):Option Func:=match T.ft.find f with | some g=>some g | none=>tC f T.fns
def nQ (t:TypeId):Bool:=Nat.ble 1000000 t
def fJ:TD→TypeDesc→Bool
 | .int k,.int l=>j4 k l
 | .bool,.bool=>true
 | .str,.string=>true
 | .ptr e,.pointer f=>e == f
 | .sl e,.slice f=>e == f
 | .struct fs,.struct gs=>fs == gs.toList.map fun g=>(g.offset,g.type)
 | .arr n e,.array m f=>n == m && e == f
 | .wJ,.interface _=>true
 | .fn,.func _ _ _=>true
 | .map k e,.map k' e'=>k == k' && e == e'
 | .other,.int _ | .other,.bool | .other,.string | .other,.pointer _ | .other,.slice _ | .other,.struct _ | .other,.array _ _ | .other,.interface _ | .other,.func _ _ _=>false
 | .other,_=>true
 | _,_=>false
def QZ:Value→SC→Bool
 | .int k n,.int l (.lit m)=>j4 k l && n == m
 | .bool b,.bool (.lit c)=>b == c
 | .string s,.str l=>s.data.toList == l
 | .pointer none,.bI=>true
 | .slice none 0 0,.bG=>true
 | .nilFunc,.bE=>true
 | .nilIface,.dI=>true
 | .map none,.qK=>true
 | _,_=>false
theorem Xr {ρ:Env} {ν:Nat→Addr} {v:Value} {c:SC} (h:QZ v c=true):v=c.den ρ ν:=by
 unfold QZ at h
 split at h <;> simp at h
 ·simp [SC.den,IE.den,iL h.1,h.2]
 ·simp [SC.den,BE.den,h]
 ·simp only [SC.den,←h]
 ·rfl
 ·rfl
 ·rfl
 ·rfl
 ·rfl
def tF:List Value→List SC→Bool
 | [],[]=>true
 | v :: r,c :: s=>QZ v c && tF r s
 | _,_=>false
theorem oL {ρ:Env} {ν:Nat→Addr}:∀{vs:List Value} {cs:List SC},tF vs cs=true→vs=cs.map (·.den ρ ν)
 | [],[],_=>rfl
 | [],_ :: _,h=>by simp [tF] at h
 | _ :: _,[],h=>by simp [tF] at h
 | v :: r,c :: s,h=>by
  simp [tF] at h
  rw [List.map_cons,←Xr h.1,←oL h.2]
def Ui:TypeDesc→Bool
 | .struct _ | .array _ _=>true
 | _=>false
def TD.isAgg:TD→Bool
 | .struct _ | .arr _ _=>true
 | _=>false
def j6:Value→Bool
 | .agg _=>true
 | _=>false
def Q0 (P:Program) (t:TypeId) (ti:TI):Bool :=
 match P.underlying t,P.info? t with
 | some d,some i =>
  !nQ t && fJ ti.d d && (i.size == ti.size && i.bytes == ti.bytes) &&
  (match i.zero with
   | some z=>tF z.cells.toList ti.zero && j6 z == ti.d.isAgg && ti.zero.length == ti.size
   | none=>false) &&
  (!ti.eqs || (!P.stoodInHeld t && !P.eqGuardType P.depth t && (match d with | .struct fs=>fs.toList.all (fun f=>f.name != "_") | .array _ _=>true | _=>false)))
 | _,_=>false
def Lp (P:Program):List (TypeId × TI)→Bool
 | []=>true
 | (t,i) :: r=>Q0 P t i && Lp P r
structure ql (P:Program) (t:TypeId) (ti:TI):Prop where
 lt:nQ t=false
 und:∃d,P.underlying t=some d∧fJ ti.d d=true∧(ti.eqs=true→P.stoodInHeld t=false∧P.eqGuardType P.depth t=false∧∀fs,d=.struct fs→∀f∈fs.toList,f.name ≠ "_")
 info:∃i z,P.info? t=some i∧i.size=ti.size∧i.zero=some z∧tF z.cells.toList ti.zero=true∧j6 z=ti.d.isAgg∧ti.zero.length=ti.size∧i.bytes=ti.bytes
theorem Xt {P:Program} {t:TypeId} {ti:TI} (h:Q0 P t ti=true):ql P t ti:=by
 unfold Q0 at h
 split at h
 ·rename_i d i hd hi
  simp only [Bool.and_eq_true] at h
  obtain ⟨⟨⟨⟨h0,h1⟩,h2⟩,h3⟩,h4⟩:=h
  split at h3
  ·rename_i z hz
   simp only [Bool.and_eq_true,beq_iff_eq] at h2 h3
   refine ⟨by simpa using h0,⟨d,hd,h1,fun he=>?_⟩,i,z,hi,h2.1,hz,h3.1.1,h3.1.2,h3.2,h2.2⟩
   rw [he] at h4
   simp only [Bool.not_true,Bool.false_or,Bool.and_eq_true,Bool.not_eq_true'] at h4
   obtain ⟨⟨a,b⟩,c⟩:=h4
   split at c
   ·rename_i fs
    exact ⟨a,b,fun fs' he' f hf=>(by cases he';simpa using List.all_eq_true.1 c f hf)⟩
   ·exact ⟨a,b,fun fs' he'=>(by cases he')⟩
   ·cases c
  ·cases h3
 ·cases h
structure dD (P:Program) (T:aY):Prop where
 mG:Lp P T.mG=true
 fns:∀f fn,(f,fn)∈T.fns→P.funcs[f]?=some fn
 mixed:P.follows .mixedOrders=true
 ft:T.ft.flat=[]∨T.ft.flat=T.fns:=by first | exact .inl rfl | exact .inr rfl
theorem dD.Q3 {P:Program} {T:aY} (h:dD P T) {f:FuncId} {fn:Func} (hf:T.f f=some fn):(f,fn)∈T.fns:=by
 unfold aY.f at hf
 split at hf
 ·rename_i g hg
  cases hf
  have:=FT.DX hg
  rcases h.ft with e | e
  ·rw [e] at this;cases this
  ·rwa [e] at this
 ·exact Fv hf
def aY.sw (T:aY) (f:FuncId):aY:={T with wr:=T.wraps.contains f}
theorem dD.sw {P:Program} {T:aY} (h:dD P T) (f:FuncId):dD P (T.sw f):=⟨h.mG,h.fns,h.mixed,h.ft⟩
theorem dD.ty {P:Program} {T:aY} (h:dD P T) {t:TypeId} {ti:TI} (ht:T.ty t=some ti):ql P t ti:=by
 have hm:=Fv ht
 have:=h.mG
 clear ht h
 generalize T.mG=l at *
 induction l with
 | nil=>cases hm
 | cons x r ih =>
  obtain ⟨u,i⟩:=x
  simp [Lp] at this
  rcases List.mem_cons.1 hm with e | e
  ·simp at e
   obtain ⟨rfl,rfl⟩:=e
   exact Xt this.1
  ·exact ih e this.2
section
variable {P:Program} {T:aY} (hT:dD P T) {w:World} {t:TypeId} {ti:TI}
theorem ql.size (h:ql P t ti):(sizeOf t).run P w=.ok ti.size w:=by
 obtain ⟨i,z,hi,hs,_⟩:=h.info
 simp [sizeOf,typeInfo,hi,hs]
theorem ql.isAgg (h:ql P t ti):(isAgg t).run P w=.ok ti.d.isAgg w:=by
 obtain ⟨d,hd,hc,_⟩:=h.und
 unfold Go.isAgg
 simp only [Sem.run_bind,run_underlying hd,Result.andThen_ok]
 cases hd':ti.d <;> cases d <;> simp_all [fJ,TD.isAgg] <;> rfl
theorem ql.zeroV (ρ:Env) (ν:Nat→Addr) (h:ql P t ti):∃z,(zeroValue t).run P w=.ok z w∧z.cells.toList=ti.zero.map (·.den ρ ν)∧j6 z=ti.d.isAgg:=by
 obtain ⟨i,z,hi,hs,hz,hc,ha,-⟩:=h.info
 refine ⟨z,?_,oL hc,ha⟩
 simp [zeroValue,typeInfo,hi,hz]
end
abbrev Fr:=List (Nat × SV)
def ou (ρ:Env) (ν:Nat→Addr) (fr:Fr) (a:Act):Prop:=∀t v,assoc t fr=some v→a.tmps.getD t undef=v.den ρ ν
def SB.dead (ρ:Env) (sb:SB):Bool:=sb.gone || sb.nl.den ρ
def SB.vT (sb:SB):List BE:=match sb.nl with | .lit false=>[] | c=>[c.mF]
theorem SB.wK {ρ:Env} {sb:SB} (hg:sb.gone=false) (ho:∀o∈sb.vT,o.den ρ=true):sb.dead ρ=false:=by
 unfold SB.dead
 rw [hg,Bool.false_or]
 unfold SB.vT at ho
 split at ho
 ·rename_i h;rw [h];rfl
 ·have:=ho _ (List.mem_singleton.2 rfl)
  rw [BE.iP] at this
  simpa using this
theorem SB.dP {ρ:Env} {sb:SB} (h:sb.dead ρ=false):sb.gone=false:=by
 unfold SB.dead at h
 simp at h
 exact h.1
def SB.iN (sb:SB):Bool:=nQ sb.t
def eG:List MapEntry→Int→Option Int
 | [],_=>none
 | ⟨.int .i64 n,.int .i64 v,_⟩ :: r,k=>if n=k then some v else eG r k
 | _ :: _,_=>none
structure kX (es:List MapEntry):Prop where
 all:∀e∈es,∃n v b,e=⟨.int .i64 n,.int .i64 v,b⟩∧-9223372036854775808≤n∧n≤9223372036854775807
 nodup:(es.map (·.key)).Nodup
def Ah (es:List MapEntry) (p:Nat):Value :=
 match eG es (((p / 2:Nat):Int)-9223372036854775808) with
 | some v=>if p % 2=0 then .bool true else .int .i64 v
 | none=>if p % 2=0 then .bool false else .int .i64 0
def lg (es:List MapEntry):Array Value:=Array.ofFn fun p:Fin 36893488147419103232=>Ah es p
theorem xV (es:List MapEntry) {p:Nat} (h:p<36893488147419103232):(lg es)[p]?=some (Ah es p):=by
 unfold lg
 rw [Array.getElem?_ofFn,dif_pos h]
theorem Jl (es:List MapEntry) {p:Nat} (h:¬p<36893488147419103232):(lg es)[p]?=none:=by
 unfold lg
 rw [Array.getElem?_ofFn,dif_neg h]
def fC (o:Option Obj) (t:TypeId) (cs:Array Value):Prop :=
 if nQ t then ∃es clock,o=some (.map es clock)∧kX es.toList∧cs=lg es.toList else o=some (.cells cs t (0,0))
theorem fC.cells {o:Option Obj} {sb:SB} {cs:Array Value} (h:fC o sb.t cs) (hm:sb.iN=false):o=some (.cells cs sb.t (0,0)):=by
 unfold fC at h
 unfold SB.iN at hm
 rwa [if_neg (by simp [hm])] at h
theorem fC.mH {t:TypeId} {cs:Array Value} (hm:nQ t=false):fC (some (.cells cs t (0,0))) t cs:=by
 unfold fC
 rw [if_neg (by simp [hm])]
theorem fC.map {o:Option Obj} {sb:SB} {cs:Array Value} (h:fC o sb.t cs) (hm:sb.iN=true):∃es clock,o=Option.some (.map es clock)∧kX es.toList∧cs=lg es.toList:=by
 unfold fC at h
 unfold SB.iN at hm
 rwa [if_pos hm] at h
theorem fC.of_map {t:TypeId} {es:Array MapEntry} {clock:Nat} (hm:nQ t=true) (h:kX es.toList):fC (Option.some (.map es clock)) t (lg es.toList):=by
 unfold fC
 rw [if_pos hm]
 exact ⟨es,clock,rfl,h,rfl⟩
theorem fC.some {o:Option Obj} {t:TypeId} {cs:Array Value} (h:fC o t cs):∃x,o=Option.some x:=by
 unfold fC at h
 split at h
 ·obtain ⟨es,c,h,-⟩:=h
  exact ⟨_,h⟩
 ·exact ⟨_,h⟩
def xW (sb:SB) (w:World) (b:Nat):Prop:=b<w.heap.size∧(sb.aX=[]→Nat.ble 500000 sb.t=true→∃c t,w.heap[b]?=some (.cells c t (0,0)))
structure aH (ρ:Env) (ν:Nat→Addr) (hp:List SB) (w:World):Prop where
 inj:∀(i j:Nat) (a b:SB),hp[i]?=some a→hp[j]?=some b→a.dead ρ=false→b.dead ρ=false→a.ro=false→(ν i).block=(ν j).block→i=j
 aC:∀(k:Nat) (sb:SB),hp[k]?=some sb→sb.dead ρ=false→sb.ro=false→ν k=⟨(ν k).block,0,none⟩∧∃cs,fC w.heap[(ν k).block]? sb.t cs∧sb.has ρ ν cs
 rd:∀(k:Nat) (sb:SB),hp[k]?=some sb→sb.dead ρ=false→sb.ro=true→xW sb w (ν k).block∧∃cs:Array Value,sb.has ρ ν cs∧∀p v,cs[p]?=some v→w.cell? ((ν k).add p)=some v
theorem aH.drew {ρ:Env} {ν:Nat→Addr} {hp:List SB} {w:World} (h:aH ρ ν hp w) (n:Nat):aH ρ ν hp {w with drawn:=n}:=⟨h.inj,h.aC,h.rd⟩
theorem aH.lt {ρ:Env} {ν:Nat→Addr} {hp:List SB} {w:World} (h:aH ρ ν hp w) {k:Nat} {sb:SB} (hk:hp[k]?=some sb) (hg:sb.dead ρ=false):(ν k).block<w.heap.size:=by
 cases hr:sb.ro with
 | true=>exact (h.rd k sb hk hg hr).1.1
 | false =>
  obtain ⟨_,cs,h1,_⟩:=h.aC k sb hk hg hr
  obtain ⟨x,h1⟩:=h1.some
  exact (Array.getElem?_eq_some_iff.1 h1).1
theorem aH.cells {ρ:Env} {ν:Nat→Addr} {hp:List SB} {w:World} (h:aH ρ ν hp w) {k:Nat} {sb:SB} (hk:hp[k]?=some sb) (hg:sb.dead ρ=false) (hm:sb.ro=false→sb.iN=false) :
  ∃cs:Array Value,sb.has ρ ν cs∧∀p v,cs[p]?=some v→w.cell? ((ν k).add p)=some v:=by
 cases hr:sb.ro with
 | true=>obtain ⟨-,cs,h1,h2⟩:=h.rd k sb hk hg hr;exact ⟨cs,h1,h2⟩
 | false =>
  obtain ⟨he,cs,h1,h2⟩:=h.aC k sb hk hg hr
  replace h1:=h1.cells (hm hr)
  refine ⟨cs,h2,fun p v hp=>?_⟩
  have e2:(ν k).add p=⟨(ν k).block,p,none⟩:=by
   have h0:(ν k).off=0:=congrArg Addr.off he
   unfold Addr.add
   split
   ·rename_i hp0
    subst hp0
    exact he
   ·simp
  rw [e2,cell_of_row w (ν k).block p cs sb.t (0,0) h1]
  exact hp
theorem aH.aht {ρ:Env} {ν:Nat→Addr} {hp:List SB} {w:World} (h:aH ρ ν hp w) {k:Nat} {sb:SB} (hk:hp[k]?=some sb) (hg:sb.dead ρ=false) (hm:sb.ro=false→sb.iN=false):xW sb w (ν k).block:=by
 cases hr:sb.ro with
 | true=>exact (h.rd k sb hk hg hr).1
 | false =>
  refine ⟨h.lt hk hg,fun _ _=>?_⟩
  obtain ⟨_,cs,h1,_⟩:=h.aC k sb hk hg hr
  exact ⟨cs,sb.t,h1.cells (hm hr)⟩
theorem xW.of {a b:SB} {w w':World} {k:Nat} (h:xW b w k) (hs:a.aX=[]→b.aX=[]) (ht:a.t=b.t) (hz:w.heap.size≤w'.heap.size) (hk:w'.heap[k]?=w.heap[k]?):xW a w' k :=
 ⟨Nat.lt_of_lt_of_le h.1 hz,fun h1 h2=>by rw [hk];exact h.2 (hs h1) (ht ▸ h2)⟩
def ofValue:Value→Option SW
 | .int k n=>some (.one (.int k (.lit n)))
 | .bool b=>some (.one (.bool (.lit b)))
 | .string s=>some (.one (.str s.data.toList))
 | .pointer none=>some (.one .bI)
 | .slice none 0 0=>some (.one .bG)
 | .nilFunc=>some (.one .bE)
 | .nilIface=>some (.one .dI)
 | .map none=>some (.one .qK)
 | _=>none
theorem Q4 {ρ:Env} {ν:Nat→Addr} {v:Value} {x:SW} (h:ofValue v=some x):v=x.den ρ ν:=by
 unfold ofValue at h
 split at h <;> simp at h <;> subst h <;> simp [SW.den,SC.den,IE.den,BE.den]
structure iQ (ν:Nat→Addr) (gl:List (Nat × Nat)):Prop where
 at_:∀g k,Nat.blt g 1000000=true→assoc g gl=some k→ν k=⟨g,0,none⟩
 ne:∀g g' k k',Nat.blt g 1000000=false→Nat.blt g' 1000000=false→assoc g gl=some k→assoc g' gl=some k'→g≠g'→ν k≠ν k'
def Cx (e:IE):Kn→Option Int
 | []=>none
 | (.aA a (.lit n),true) :: r=>if a.same e then some n else Cx e r
 | _ :: r=>Cx e r
theorem DY {ρ:Env} {e:IE} {n:Int}:∀{kn:Kn},Kn.ok ρ kn→Cx e kn=some n→e.den ρ=n
 | [],_,h=>by simp [Cx] at h
 | (b,t) :: r,hk,h=>by
  unfold Cx at h
  split at h
  ·cases ‹_›
  ·rename_i a m r' heq
   cases heq
   split at h
   ·rename_i hs
    cases h
    have h1:(BE.aA a (.lit n)).den ρ=true:=hk _ (List.mem_cons_self ..)
    rw [←IE.aD hs]
    simpa [BE.den,IE.den] using h1
   ·exact DY (fun p hp=>hk p (List.mem_cons_of_mem _ hp)) h
  ·rename_i heq
   cases heq
   exact DY (fun p hp=>hk p (List.mem_cons_of_mem _ hp)) h
def SV.dec (kn:Kn):SV→SV
 | .w (.one (.int k (.mod a b)))=>match Cx (.mod a b) kn with
  | some n=>.w (.one (.int k (.lit n)))
  | none=>.w (.one (.int k (.mod a b)))
 | .w (.one (.iY c x))=>match c.decide kn with
  | some true=>.w (.one .dI)
  | some false=>.w (.one x)
  | none=>.w (.one (.iY c x))
 | v=>v
theorem SV.acD {ρ:Env} {ν:Nat→Addr} {kn:Kn} (hk:Kn.ok ρ kn) (v:SV):(v.dec kn).den ρ ν=v.den ρ ν:=by
 unfold SV.dec
 split
 ·rename_i k a b
  split
  ·rename_i n hn
   simp only [SV.den,SW.den,SC.den]
   rw [DY hk hn]
   rfl
  ·rfl
 ·rename_i c x
  split
  ·rename_i hd
   simp [SV.den,SW.den,SC.den,BE.dw hk hd]
  ·rename_i hd
   simp [SV.den,SW.den,SC.den,BE.dw hk hd]
  ·rfl
 ·rfl
def dK (gl:List (Nat × Nat)) (kn:Kn) (fr:Fr):Operand→Option SV
 | .tmp t=>match tC t fr with
  | some (.gd c x)=>match c.decide kn with
   | some true=>some (.w x)
   | some false=>none
   | none=>some (.gd c x)
  | some v=>some (v.dec kn)
  | none=>none
 | .const v=>(ofValue v).map .w
 | .global g=>if Nat.blt g 1000000 then (assoc g gl).map fun k=>.w (.one (.ptr {aC:=k})) else none
 | .func f=>some (.w (.one (.fn f [])))
theorem lh {ρ:Env} {ν:Nat→Addr} {gl:List (Nat × Nat)} {kn:Kn} {fr:Fr} {a:Act} (hg:iQ ν gl) (hk:Kn.ok ρ kn) (hf:ou ρ ν fr a)
  {x:Operand} {v:SV} (h:dK gl kn fr x=some v):a.eval x=v.den ρ ν:=by
 cases x with
 | tmp t =>
  simp only [dK,Ag] at h
  simp only [Act.eval]
  split at h
  ·rename_i c y hc
   have h0:=hf t _ hc
   split at h
   ·rename_i hd
    have:=BE.dw hk hd
    simp at h
    subst h
    rw [h0]
    simp [SV.den,this]
   ·cases h
   ·simp at h
    subst h
    exact h0
  ·rename_i u _ hu
   simp at h
   subst h
   rw [SV.acD hk]
   exact hf t u hu
  ·cases h
 | const u =>
  simp only [dK,Option.map_eq_some_iff] at h
  obtain ⟨y,hy,rfl⟩:=h
  exact Q4 hy
 | global g =>
  simp only [dK] at h
  split at h
  ·rename_i hlt
   simp only [Option.map_eq_some_iff] at h
   obtain ⟨k,hk',rfl⟩:=h
   simp [Act.eval,SV.den,SW.den,SC.den,SA.den,SA.off,IE.den,Addr.add_zero,hg.at_ g k hlt hk']
  ·cases h
 | func f =>
  simp [dK] at h
  subst h
  simp [Act.eval,SV.den,SW.den,SC.den]
inductive PR where
 | ok (v:SV) (gH:List BE)
 | br (c:BE)
 | no
def PR.one (c:SC) (gH:List BE:=[]):PR:=.ok (.w (.one c)) gH
def nz:SV→Option (IntKind × IE)
 | .w (.one (.int k e))=>some (k,e)
 | _=>none
def pg:SV→Option BE
 | .w (.one (.bool b))=>some b
 | _=>none
def BE.rM (a b:IE):BE:=match a.dE,b.dE with
 | some x,some y=>.lit (x == y)
 | _,_=>if a.same b then .lit true else .aA a b
theorem BE.xX (ρ:Env) (a b:IE):(BE.rM a b).den ρ=(a.den ρ == b.den ρ):=by
 unfold BE.rM
 split
 ·rename_i h1 h2;simp [BE.den,IE.aN h1,IE.aN h2]
 ·split
  ·rename_i h;simp [BE.den,IE.aD h]
  ·rfl
def BE.Xu (a b:BE):BE:=match a.dE,b.dE with
 | some x,some y=>.lit (x == y)
 | some true,none=>b
 | none,some true=>a
 | some false,none=>b.mF
 | none,some false=>a.mF
 | none,none=>if a.same b then .lit true else .beq a b
theorem BE.Xv (ρ:Env) (a b:BE):(BE.Xu a b).den ρ=(a.den ρ == b.den ρ):=by
 unfold BE.Xu
 split
 ·rename_i h1 h2;simp [BE.den,BE.aN h1,BE.aN h2]
 ·rename_i h1 h2;rw [BE.aN h1];simp
 ·rename_i h1 h2;rw [BE.aN h2];simp
 ·rename_i h1 h2;rw [BE.aN h1,BE.iP];simp
 ·rename_i h1 h2;rw [BE.aN h2,BE.iP];simp
 ·split
  ·rename_i h;simp [BE.den,BE.aD h]
  ·rfl
def uP (T:aY) (t:TypeId) (cs:List SC) (off:Nat):Option SW :=
 match T.ty t with
 | some ti=>if ti.d.isAgg then some (.agg ((cs.drop off).take ti.size)) else (cs[off]?).map .one
 | none=>none
mutual
def Dr (T:aY):Nat→TypeId→SW→SW→Option BE
 | 0,_,_,_=>none
 | n+1,t,x,y =>
  match T.ty t with
  | none=>none
  | some ti =>
   match ti.d,x,y with
   | .int _,.one (.int k a),.one (.int l b)=>if j4 k l then some (.rM a b) else none
   | .bool,.one (.bool a),.one (.bool b)=>some (.Xu a b)
   | .str,.one (.str a),.one (.str b)=>some (.lit (a == b))
   | .ptr _,.one .bI,.one .bI=>some (.lit true)
   | .ptr _,.one .bI,.one (.ptr _)=>some (.lit false)
   | .ptr _,.one (.ptr _),.one .bI=>some (.lit false)
   | .sl _,.one .bG,.one .bG=>some (.lit true)
   | .sl _,.one .bG,.one (.sl _ _ _)=>some (.lit false)
   | .sl _,.one (.sl _ _ _),.one .bG=>some (.lit false)
   | .sl _,.one .bG,.one (.fw c _ _ _)=>some c
   | .sl _,.one (.fw c _ _ _),.one .bG=>some c
   | .wJ,.one .dI,.one .dI=>some (.lit true)
   | .wJ,.one .dI,.one (.iface _ _)=>some (.lit false)
   | .wJ,.one (.iface _ _),.one .dI=>some (.lit false)
   | .wJ,.one .dI,.one (.iY c (.iface _ _))=>some c
   | .wJ,.one (.iY c (.iface _ _)),.one .dI=>some c
   | .wJ,.one (.iface t _),.one (.iface u _)=>if t == u then none else some (.lit false)
   | .fn,.one .bE,.one .bE=>some (.lit true)
   | .fn,.one .bE,.one (.fn _ _)=>some (.lit false)
   | .fn,.one (.fn _ _),.one .bE=>some (.lit false)
   | .struct fs,.agg xs,.agg ys=>if ti.eqs then H8 T n fs xs ys else none
   | .arr m e,.agg xs,.agg ys=>match T.ty e with | some te=>if Nat.ble m 32 then H9 T n e te.size (List.range m) xs ys else none | none=>none
   | _,_,_=>none
def H9 (T:aY):Nat→TypeId→Nat→List Nat→List SC→List SC→Option BE
 | 0,_,_,_,_,_=>none
 | _,_,_,[],_,_=>some (.lit true)
 | n+1,e,sz,i :: r,xs,ys =>
  match uP T e xs (i * sz),uP T e ys (i * sz) with
  | some a,some b =>
   match Dr T n e a b,H9 T n e sz r xs ys with
   | some c,some d=>some (c.rJ d)
   | _,_=>none
  | _,_=>none
def H8 (T:aY):Nat→List (Nat × TypeId)→List SC→List SC→Option BE
 | 0,_,_,_=>none
 | _,[],_,_=>some (.lit true)
 | n+1,(off,t) :: r,xs,ys =>
  match uP T t xs off,uP T t ys off with
  | some a,some b =>
   match Dr T n t a b,H8 T n r xs ys with
   | some c,some d=>some (c.rJ d)
   | _,_=>none
  | _,_=>none
end
section
variable {P:Program} {T:aY} (hT:dD P T) {w:World} {ρ:Env} {ν:Nat→Addr}
theorem qm {t:TypeId} {cs:List SC} {off:Nat} {x:SW} (hT:dD P T) (h:uP T t cs off=some x) :
  (part t (cs.map (·.den ρ ν)).toArray off).run P w=.ok (x.den ρ ν) w:=by
 unfold uP at h
 split at h
 ·rename_i ti hti
  have hok:=hT.ty hti
  unfold part
  simp only [Sem.run_bind,hok.isAgg,Result.andThen_ok]
  split at h
  ·rename_i ha
   simp only [Option.some.injEq] at h
   subst h
   simp only [ha,if_true,Sem.run_bind,hok.size,Result.andThen_ok,Sem.run_pure,SW.den]
   congr 2
   simp [←List.map_drop,←List.map_take,Nat.add_sub_cancel_left]
  ·rename_i ha
   simp only [Option.map_eq_some_iff] at h
   obtain ⟨c,hc,rfl⟩:=h
   simp [ha,hc,SW.den]
 ·cases h
end
set_option maxHeartbeats 2000000 in
theorem acE {P:Program} {T:aY} (hT:dD P T) {ρ:Env} {ν:Nat→Addr} {w:World}:∀n:Nat,
  (∀t x y c,Dr T n t x y=some c→∀d,n≤d→(Op.equalIn d t (x.den ρ ν) (y.den ρ ν)).run P w=.ok (c.den ρ) w) ∧
  (∀fs xs ys c,H8 T n fs xs ys=some c→∀d,n≤d→∀gs:List Field,fs=gs.map (fun g=>(g.offset,g.type))→(∀g∈gs,g.name ≠ "_") →
    (Op.eqFields d (xs.map (·.den ρ ν)).toArray (ys.map (·.den ρ ν)).toArray gs).run P w=.ok (c.den ρ) w) ∧
  (∀e sz is xs ys c,H9 T n e sz is xs ys=some c→∀d,n≤d→(Op.eqItems d e sz (xs.map (·.den ρ ν)).toArray (ys.map (·.den ρ ν)).toArray is).run P w=.ok (c.den ρ) w):=by
 intro n
 induction n with
 | zero=>exact ⟨fun t x y c h=>(by simp [Dr] at h),fun fs xs ys c h=>(by simp [H8] at h),fun e sz is xs ys c h=>(by simp [H9] at h)⟩
 | succ n ih =>
  refine ⟨fun t x y c h d hd=>?_,fun fs xs ys c h d hd gs hgs hn=>?_,fun e sz is xs ys c h d hd=>?_⟩
  ·obtain ⟨d,rfl⟩:∃e,d=e+1:=⟨d-1,by omega⟩
   unfold Dr at h
   split at h
   ·cases h
   ·rename_i ti hti
    obtain ⟨Jm,xY,kM,heq⟩:=(hT.ty hti).und
    split at h
    all_goals try cases h
    ·rename_i htd
     rw [htd] at kM
     cases Jm <;> simp [fJ] at kM
     split at h
     ·rename_i hk
      simp at h;subst h
      rw [BE.xX,iL hk]
      exact run_equalIn_int w d t _ _ _ _ xY
     ·cases h
    ·rename_i htd
     rw [htd] at kM
     cases Jm <;> simp [fJ] at kM
     rw [BE.Xv]
     exact run_equalIn_bool' w d t _ _ xY
    ·rename_i htd
     rw [htd] at kM
     cases Jm <;> simp [fJ] at kM
     simp only [SW.den,SC.den]
     rw [run_equalIn_string w d t _ _ xY,ByteArray.toList_eq,ByteArray.toList_eq]
     simp [BE.den]
    all_goals first
     | (rename_i htd
        rw [htd] at kM
        cases Jm <;> simp [fJ] at kM
        simp [Op.equalIn,run_underlying xY,SW.den,SC.den,BE.den]
        done)
     | (rename_i htd
        rw [htd] at kM
        cases Jm <;> simp [fJ] at kM
        cases hcc:c.den ρ <;> simp [Op.equalIn,run_underlying xY,SW.den,SC.den,hcc]
        done)
     | skip
    ·rename_i htd
     rw [htd] at kM
     cases Jm <;> simp [fJ] at kM
     split at h
     ·cases h
     ·rename_i hne
      simp at hne h
      subst h
      simp [Op.equalIn,run_underlying xY,SW.den,SC.den,BE.den,hne]
    ·rename_i htd
     rw [htd] at kM
     split at h
     ·rename_i he
      obtain ⟨h1,h2,hnm⟩:=heq he
      cases Jm <;> simp [fJ] at kM
      rename_i fs'
      replace hnm:=hnm fs' rfl
      have hfo:P.underlying t=some (.struct (P.fieldsOf t)):=by simp [Program.fieldsOf,xY]
      have ahu:P.fieldsOf t=fs':=by simp [Program.fieldsOf,xY]
      simp only [SW.den]
      rw [run_equalIn_struct w d t _ _ hfo h1,ahu]
      exact ih.2.1 _ _ _ _ h d (by omega) fs'.toList kM hnm
     ·cases h
    ·rename_i htd
     rw [htd] at kM
     split at h
     case h_2=>cases h
     rename_i te hte
     split at h
     case isFalse=>cases h
     cases Jm <;> simp [fJ] at kM
     obtain ⟨rfl,rfl⟩:=kM
     obtain ⟨i,z,hi,hsz,-⟩:=(hT.ty hte).info
     simp only [SW.den]
     rw [run_equalIn_array w d _ _ xY hi,show P.cellsOf _=te.size by unfold Program.cellsOf;rw [hi];simpa using hsz]
     exact ih.2.2 _ _ _ _ _ _ h d (by omega)
  ·cases gs with
   | nil =>
    simp at hgs
    subst hgs
    simp [H8] at h
    subst h
    simp [Op.eqFields,BE.den]
   | cons g gs =>
    simp at hgs
    subst hgs
    simp only [H8] at h
    split at h
    ·rename_i a b ha hb
     split at h
     ·rename_i e f he hf
      simp at h
      subst h
      have h1:=ih.1 _ _ _ _ he d (by omega)
      have h2:=ih.2.1 _ _ _ _ hf d (by omega) gs rfl (fun x hx=>hn x (by simp [hx]))
      have hpa:=qm (w:=w) (ρ:=ρ) (ν:=ν) hT ha
      have hpb:=qm (w:=w) (ρ:=ρ) (ν:=ν) hT hb
      simp only [Op.eqFields,hn g (by simp),ne_eq,not_false_eq_true,if_true,Sem.run_bind,hpa,hpb,Result.andThen_ok,h1,Sem.run_ite,Sem.run_pure,h2,BE.xR]
      cases e.den ρ <;> simp
     ·cases h
    ·cases h
  ·cases is with
   | nil =>
    simp [H9] at h
    subst h
    simp [Op.eqItems,BE.den]
   | cons i is =>
    simp only [H9] at h
    split at h
    ·rename_i a b ha hb
     split at h
     ·rename_i u f he hf
      simp at h
      subst h
      have h1:=ih.1 _ _ _ _ he d (by omega)
      have h2:=ih.2.2 _ _ _ _ _ _ hf d (by omega)
      have hpa:=qm (w:=w) (ρ:=ρ) (ν:=ν) hT ha
      have hpb:=qm (w:=w) (ρ:=ρ) (ν:=ν) hT hb
      simp only [Op.eqItems,Sem.run_bind,hpa,hpb,Result.andThen_ok,h1,Sem.run_ite,Sem.run_pure,h2,BE.xR]
      cases u.den ρ <;> simp
     ·cases h
    ·cases h
end Go.Rex
