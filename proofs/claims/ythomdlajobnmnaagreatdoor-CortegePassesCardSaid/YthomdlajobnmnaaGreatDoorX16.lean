/- part 16 of the proof -/
import Derived.Test.YthomdlajobnmnaaGreatDoorX10
import Derived.Test.YthomdlajobnmnaaGreatDoorX11
import Derived.Test.YthomdlajobnmnaaGreatDoorX12
import Derived.Test.YthomdlajobnmnaaGreatDoorX13
import Derived.Test.YthomdlajobnmnaaGreatDoorX15
import Derived.Test.YthomdlajobnmnaaGreatDoorX9
set_option linter.unusedSimpArgs false
set_option linter.unusedVariables false
namespace Go.Rex
def Env.pull (f:Nat→Nat) (ρ:Env):Env:=⟨fun i=>ρ.iv (f i),fun i=>ρ.bv (f i),fun i=>ρ.vv (f i),fun i=>ρ.ic (f i),fun i=>ρ.bc (f i),fun i=>ρ.vc (f i)⟩
def Env.cat (N:Nat) (ρ e:Env):Env where
 iv:=fun i=>if i<N then ρ.iv i else e.iv (i-N)
 bv:=fun i=>if i<N then ρ.bv i else e.bv (i-N)
 vv:=fun i=>if i<N then ρ.vv i else e.vv (i-N)
 ic:=fun i=>if i<N then ρ.ic i else e.ic (i-N)
 bc:=fun i=>if i<N then ρ.bc i else e.bc (i-N)
 vc:=fun i=>if i<N then ρ.vc i else e.vc (i-N)
def uB (n:Nat) (ν μ:Nat→Addr):Nat→Addr:=fun k=>if k<n then ν k else μ (k-n)
theorem Env.NM (N:Nat) (ρ e:Env):(ρ.cat N e).pull (N+·)=e:=by
 have h:∀i,¬N+i<N:=fun i=>by omega
 have h2:∀i,N+i-N=i:=fun i=>by omega
 cases e
 simp only [Env.pull,Env.cat,if_neg (h _),h2]
theorem xD (n:Nat) (ν μ:Nat→Addr) (k:Nat):uB n ν μ (n+k)=μ k:=by
 unfold uB
 rw [if_neg (by omega),show n+k-n=k by omega]
theorem qI (n:Nat) (ν μ:Nat→Addr) {k:Nat} (h:k<n):uB n ν μ k=ν k:=if_pos h
theorem dF.cat (N n:Nat) (ρ e:Env) (ν μ:Nat→Addr):dF N n ρ (ρ.cat N e) ν (uB n ν μ) :=
 ⟨fun _ h=>if_pos h,fun _ h=>if_pos h,fun _ h=>if_pos h,fun _ h=>if_pos h,fun _ h=>if_pos h,fun _ h=>if_pos h,fun _ h=>if_pos h⟩
section
variable (f g:Nat→Nat)
def IE.aU:IE→IE
 | .lit n=>.lit n
 | .var i=>.var (f i)
 | .add a b=>.add a.aU b.aU
 | .sub a b=>.sub a.aU b.aU
 | .mul a b=>.mul a.aU b.aU
 | .div a b=>.div a.aU b.aU
 | .mod a b=>.mod a.aU b.aU
 | .wrap k a=>.wrap k a.aU
 | .qg a b=>.qg a.aU b.aU
 | .imax a b=>.imax a.aU b.aU
 | .cell r a b j=>.cell (f r) a.aU b.aU j
def BE.aU:BE→BE
 | .lit b=>.lit b
 | .var i=>.var (f i)
 | .not a=>.not a.aU
 | .and a b=>.and a.aU b.aU
 | .or a b=>.or a.aU b.aU
 | .ite a b c=>.ite a.aU b.aU c.aU
 | .aA a b=>.aA (a.aU f) (b.aU f)
 | .ai a b=>.ai (a.aU f) (b.aU f)
 | .bO a b=>.bO (a.aU f) (b.aU f)
 | .beq a b=>.beq a.aU b.aU
 | .inr k a=>.inr k (a.aU f)
 | .cell r a b j=>.cell (f r) (a.aU f) (b.aU f) j
def SA.aU (a:SA):SA:={aC:=g a.aC,i1:=a.i1.aU f,s1:=a.s1,i2:=a.i2.aU f,s2:=a.s2,j:=a.j}
def SC.aU:SC→SC
 | .int k e=>.int k (e.aU f)
 | .bool b=>.bool (b.aU f)
 | .str l=>.str l
 | .val i=>.val (f i)
 | .jO r a b j=>.jO (f r) (a.aU f) (b.aU f) j
 | .ptr a=>.ptr (a.aU f g)
 | .bI=>.bI
 | .sl a l c=>.sl (a.aU f g) (l.aU f) (c.aU f)
 | .bG=>.bG
 | .fw k a l c=>.fw (k.aU f) (a.aU f g) (l.aU f) (c.aU f)
 | .fn h jS=>.fn h (jS.map g)
 | .bE=>.bE
 | .iface t c=>.iface t c.aU
 | .dI=>.dI
 | .iY c x=>.iY (c.aU f) x.aU
 | .mp b=>.mp (g b)
 | .qK=>.qK
 | .rt t b o=>.rt t b o
 | .hole=>.hole
def ae.aU (s:ae):ae:={s with r:=f s.r,n1:=s.n1.aU f}
def Up.aU (u:Up):Up:={g:=u.g,i1:=u.i1.aU f,i2:=u.i2.aU f,j:=u.j,c:=u.c.aU f g}
def SB.aU (b:SB):SB:={b with cs:=b.cs.map (SC.aU f g),aX:=b.aX.map (ae.aU f),ups:=b.ups.map (Up.aU f g),cap:=b.cap.map fun x=>(x.1.aU f,x.2),nl:=b.nl.aU f}
variable {f g} {ρ:Env} {ν:Nat→Addr}
theorem IE.gB (e:IE):(e.aU f).den ρ=e.den (ρ.pull f):=by
 induction e <;> simp_all [IE.aU,IE.den,Env.pull]
theorem BE.gB (e:BE):(e.aU f).den ρ=e.den (ρ.pull f):=by
 induction e <;> simp_all [BE.aU,BE.den,IE.gB]
 all_goals rfl
theorem SA.gB (a:SA):(a.aU f g).den ρ ν=a.den (ρ.pull f) (fun k=>ν (g k)):=by
 simp only [SA.aU,SA.den,SA.off,IE.gB]
theorem SC.gB (c:SC):(c.aU f g).den ρ ν=c.den (ρ.pull f) (fun k=>ν (g k)):=by
 induction c with
 | fn h jS=>simp only [SC.aU,SC.den,List.map_map];rfl
 | val i=>rfl
 | jO r a b j=>simp only [SC.aU,SC.den,IE.gB];rfl
 | _=>simp_all [SC.aU,SC.den,IE.gB,BE.gB,SA.gB]
theorem SC.NP (c:SC):(c.aU f g).isHole=c.isHole:=by
 induction c <;> simp_all [SC.aU,SC.isHole]
theorem ae.NQ (s:ae) (i1 i2 j:Nat):(s.aU f).base ρ i1 i2 j=s.base (ρ.pull f) i1 i2 j:=rfl
theorem zC (gi i1 i2 j:Nat) (b:Value):∀us:List Up,cK ρ ν (us.map (Up.aU f g)) gi i1 i2 j b=cK (ρ.pull f) (fun k=>ν (g k)) us gi i1 i2 j b
 | []=>rfl
 | u :: r=>by
  simp only [List.map_cons,cK,zC gi i1 i2 j b r]
  simp only [Up.aU,IE.gB,SC.gB]
theorem SB.jM (b:SB):(b.aU f g).dead ρ=b.dead (ρ.pull f):=by
 simp only [SB.dead,SB.aU,BE.gB]
theorem SB.Dj (b:SB) {arr:Array Value}:(b.aU f g).has ρ ν arr↔b.has (ρ.pull f) (fun k=>ν (g k)) arr:=by
 constructor
 ·intro h
  refine ⟨fun u hu=>?_,fun h1 h2=>?_,fun e n he=>?_,fun p c hp hh=>?_,fun gi s hs i1 i2 j h1 h2 h3=>?_⟩
  ·have:=h.un (u.aU f g) (List.mem_map.2 ⟨u,hu,rfl⟩)
   simpa only [Up.aU,IE.gB] using this
  ·have:=h.size (by simp [SB.aU,h1]) h2
   simpa [SB.aU] using this
  ·have:=h.cap (e.aU f) n (by simp [SB.aU,he])
   simpa only [IE.gB] using this
  ·have:=h.ex p (c.aU f g) (by simp [SB.aU,hp]) (by rw [SC.NP];exact hh)
   rwa [SC.gB] at this
  ·have:=h.sg gi (s.aU f) (by simp [SB.aU,hs]) i1 i2 j (by simpa only [ae.aU,IE.gB] using h1) h2 h3
   rw [ae.NQ] at this
   simpa only [SB.aU,zC,ae.aU] using this
 ·intro h
  refine ⟨fun u hu=>?_,fun h1 h2=>?_,fun e n he=>?_,fun p c hp hh=>?_,fun gi s hs i1 i2 j h1 h2 h3=>?_⟩
  ·simp only [SB.aU,List.mem_map] at hu
   obtain ⟨u',hu',rfl⟩:=hu
   have:=h.un u' hu'
   simpa only [Up.aU,IE.gB] using this
  ·have:=h.size (by simpa [SB.aU] using h1) h2
   simpa [SB.aU] using this
  ·simp only [SB.aU,Option.map_eq_some_iff] at he
   obtain ⟨⟨e',n'⟩,he,h2⟩:=he
   simp only [Prod.mk.injEq] at h2
   obtain ⟨rfl,rfl⟩:=h2
   have:=h.cap e' n' he
   simpa only [IE.gB] using this
  ·simp only [SB.aU,List.getElem?_map,Option.map_eq_some_iff] at hp
   obtain ⟨c',hp,rfl⟩:=hp
   rw [SC.NP] at hh
   rw [SC.gB]
   exact h.ex p c' hp hh
  ·simp only [SB.aU,List.getElem?_map,Option.map_eq_some_iff] at hs
   obtain ⟨s',hs,rfl⟩:=hs
   have:=h.sg gi s' hs i1 i2 j (by simpa only [ae.aU,IE.gB] using h1) h2 h3
   rw [ae.NQ]
   simpa only [SB.aU,zC,ae.aU] using this
theorem SB.NR (b:SB) {w:World} {k:Nat}:xW (b.aU f g) w k↔xW b w k:=by
 unfold xW
 simp [SB.aU]
end
theorem aH.sub {ρ:Env} {ν:Nat→Addr} {w:World} {H hp:List SB} {f g:Nat→Nat} (h:aH ρ ν H w) (hg:(List.range hp.length).map (fun j=>H[g j]?)=hp.map fun sb=>some (sb.aU f g))
  (hi:∀i j,i<hp.length→j<hp.length→g i=g j→i=j):aH (ρ.pull f) (fun k=>ν (g k)) hp w:=by
 have at_:∀(k:Nat) (sb:SB),hp[k]?=some sb→H[g k]?=some (sb.aU f g):=fun k sb hk=>by
  have hlt:=(List.getElem?_eq_some_iff.1 hk).1
  have:=congrArg (fun l=>l[k]?) hg
  simp only [List.getElem?_map,List.getElem?_range hlt,hk,Option.map_some] at this
  exact Option.some.inj this
 refine ⟨fun i j a b h1 h2 d1 d2 ra he=>?_,fun k sb hk hd hr=>?_,fun k sb hk hd hr=>?_⟩
 ·refine hi i j (List.getElem?_eq_some_iff.1 h1).1 (List.getElem?_eq_some_iff.1 h2).1 ?_
  exact h.inj (g i) (g j) _ _ (at_ i a h1) (at_ j b h2) (by rw [SB.jM];exact d1) (by rw [SB.jM];exact d2) ra he
 ·obtain ⟨h1,cs,h2,h3⟩:=h.aC (g k) _ (at_ k sb hk) (by rw [SB.jM];exact hd) hr
  exact ⟨h1,cs,h2,SB.Dj sb |>.1 h3⟩
 ·obtain ⟨h1,cs,h2,h3⟩:=h.rd (g k) _ (at_ k sb hk) (by rw [SB.jM];exact hd) hr
  exact ⟨SB.NR sb |>.1 h1,cs,SB.Dj sb |>.1 h2,h3⟩
theorem aH.app {ρ:Env} {ν:Nat→Addr} {w:World} {hp hq:List SB} {f:Nat→Nat} (h1:aH ρ ν hp w) (h2:aH (ρ.pull f) (fun k=>ν (hp.length+k)) hq w)
  (hd:∀(i j:Nat) (a b:SB),hp[i]?=some a→hq[j]?=some b→a.dead ρ=false→b.dead (ρ.pull f)=false→a.ro=false∨b.ro=false→(ν i).block≠(ν (hp.length+j)).block):aH ρ ν (hp ++ hq.map (SB.aU f (hp.length+·))) w:=by
 have at_:∀(k:Nat) (sb:SB),(hp ++ hq.map (SB.aU f (hp.length+·)))[k]?=some sb→hp[k]?=some sb∨∃j b,k=hp.length+j∧hq[j]?=some b∧sb=b.aU f (hp.length+·):=fun k sb hk=>by
  rw [List.getElem?_append] at hk
  split at hk
  ·exact .inl hk
  ·rw [List.getElem?_map,Option.map_eq_some_iff] at hk
   obtain ⟨b,hb,rfl⟩:=hk
   exact .inr ⟨k-hp.length,b,by omega,hb,rfl⟩
 refine ⟨fun i j a b hi hj d1 d2 ra he=>?_,fun k sb hk hdd hr=>?_,fun k sb hk hdd hr=>?_⟩
 ·rcases at_ i a hi with qi | ⟨i',a',rfl,qi,rfl⟩
  ·rcases at_ j b hj with qj | ⟨j',b',rfl,qj,rfl⟩
   ·exact h1.inj i j a b qi qj d1 d2 ra he
   ·rw [SB.jM] at d2
    exact absurd he (hd i j' a b' qi qj d1 d2 (.inl ra))
  ·rw [SB.jM] at d1
   rcases at_ j b hj with qj | ⟨j',b',rfl,qj,rfl⟩
   ·exact absurd he.symm (hd j i' b a' qj qi d2 d1 (.inr ra))
   ·rw [SB.jM] at d2
    have:=h2.inj i' j' a' b' qi qj d1 d2 ra he
    omega
 ·rcases at_ k sb hk with qk | ⟨j,b,rfl,qk,rfl⟩
  ·exact h1.aC k sb qk hdd hr
  ·rw [SB.jM] at hdd
   obtain ⟨g1,cs,g2,g3⟩:=h2.aC j b qk hdd hr
   exact ⟨g1,cs,g2,SB.Dj b |>.2 g3⟩
 ·rcases at_ k sb hk with qk | ⟨j,b,rfl,qk,rfl⟩
  ·exact h1.rd k sb qk hdd hr
  ·rw [SB.jM] at hdd
   obtain ⟨g1,cs,g2,g3⟩:=h2.rd j b qk hdd hr
   exact ⟨SB.NR b |>.2 g1,cs,SB.Dj b |>.2 g2,g3⟩
theorem kY.sub {z:Nat} {W:Nat→Prop} {ρ:Env} {ν:Nat→Addr} {H hp:List SB} {f g:Nat→Nat} (h:kY z W ρ ν H) (hg:(List.range hp.length).map (fun j=>H[g j]?)=hp.map fun sb=>some (sb.aU f g)):kY z W (ρ.pull f) (fun k=>ν (g k)) hp:=by
 intro k sb hk ho hd
 have hlt:=(List.getElem?_eq_some_iff.1 hk).1
 have:=congrArg (fun l=>l[k]?) hg
 simp only [List.getElem?_map,List.getElem?_range hlt,hk,Option.map_some] at this
 have:=h (g k) (sb.aU f g) (Option.some.inj this) ho (by rw [SB.jM];exact hd)
 exact this
theorem abZ {z:Nat} {W:Nat→Prop} {ρ:Env} {ν:Nat→Addr} {hp:List SB} (h:kY z W ρ ν hp) {b:Nat} (hb:jm ρ ν hp b):z≤b∨W b:=by
 obtain ⟨k,sb,h1,h2,h3,rfl⟩:=hb
 exact h k sb h1 h2 h3
def nY (hp:List SB):Bool:=hp.all fun b=>b.gone || (b.own && !b.ro)
theorem vN {hp:List SB} (h:nY hp=true) {k:Nat} {sb:SB} (hk:hp[k]?=some sb) (hg:sb.gone=false):sb.own=true∧sb.ro=false:=by
 have:=List.all_eq_true.1 h sb (List.mem_of_getElem? hk)
 simpa [hg] using this
theorem aH.frame {ρ:Env} {ν:Nat→Addr} {hp:List SB} {w w':World} (ha:nY hp=true) (h:aH ρ ν hp w) (hk:∀b,jm ρ ν hp b→w'.heap[b]?=w.heap[b]?):aH ρ ν hp w':=by
 refine ⟨h.inj,fun k sb h1 hd hr=>?_,fun k sb h1 hd hr=>?_⟩
 ·obtain ⟨g1,cs,g2,g3⟩:=h.aC k sb h1 hd hr
  refine ⟨g1,cs,?_,g3⟩
  rw [hk _ ⟨k,sb,h1,(vN ha h1 (SB.dP hd)).1,hd,rfl⟩]
  exact g2
 ·have:=(vN ha h1 (SB.dP hd)).2
  rw [hr] at this;cases this
def il (ρ:Env) (ν:Nat→Addr) (hp:List SB) (b:Nat):Prop:=∃(k:Nat) (sb:SB),hp[k]?=some sb∧sb.dead ρ=false∧b=(ν k).block
theorem ni {ρ:Env} {ν:Nat→Addr} {hp:List SB} {b:Nat} (h:jm ρ ν hp b):il ρ ν hp b:=by
 obtain ⟨k,sb,h1,-,h3,rfl⟩:=h
 exact ⟨k,sb,h1,h3,rfl⟩
theorem V7 {ρ:Env} {ν:Nat→Addr} {hp:List SB} (ha:nY hp=true) {b:Nat} (h:il ρ ν hp b):jm ρ ν hp b:=by
 obtain ⟨k,sb,h1,h3,rfl⟩:=h
 exact ⟨k,sb,h1,(vN ha h1 (SB.dP h3)).1,h3,rfl⟩
theorem oF {ρ:Env} {ν:Nat→Addr} {hp:List SB} {w:World} (h:aH ρ ν hp w) {b:Nat} (hb:il ρ ν hp b):b<w.heap.size:=by
 obtain ⟨k,sb,h1,h3,rfl⟩:=hb
 exact h.lt h1 h3
theorem rH {nv n:Nat} {ρ ρ':Env} {ν aK:Nat→Addr} (hA:dF nv n ρ ρ' ν aK) {hp:List SB} (hs:qp nv n hp=true) (hl:hp.length≤n) {b:Nat}:il ρ' aK hp b↔il ρ ν hp b:=by
 constructor
 ·rintro ⟨k,sb,h1,h3,rfl⟩
  have:=(List.getElem?_eq_some_iff.1 h1).1
  exact ⟨k,sb,h1,by rwa [SB.nA hA (jg hs k sb h1)] at h3,by rw [hA.bl k (by omega)]⟩
 ·rintro ⟨k,sb,h1,h3,rfl⟩
  have:=(List.getElem?_eq_some_iff.1 h1).1
  exact ⟨k,sb,h1,by rwa [SB.nA hA (jg hs k sb h1)],by rw [hA.bl k (by omega)]⟩
theorem aH.join {a b:List SB} {N:Nat} {zY vO:Env} {DR BX:Nat→Addr} {w:World} (ha:aH zY DR a w) (hb:aH vO BX b w) (hs:qp N a.length a=true) (hd:∀x,il zY DR a x→il vO BX b x→False) :
  aH (zY.cat N vO) (uB a.length DR BX) (a ++ b.map (SB.aU (N+·) (a.length+·))) w:=by
 have hA:=dF.cat N a.length zY vO DR BX
 have e1:(zY.cat N vO).pull (N+·)=vO:=Env.NM N zY vO
 have e2:(fun k=>uB a.length DR BX (a.length+k))=BX:=funext fun k=>xD ..
 refine aH.app (ha.ext hA hs (Nat.le_refl _)) (by rw [e1,e2];exact hb) fun i j x y hi hj dx dy _ he=>?_
 rw [e1] at dy
 have hl:=(List.getElem?_eq_some_iff.1 hi).1
 rw [qI _ _ _ hl,xD] at he
 rw [SB.nA hA (jg hs i x hi)] at dx
 exact hd _ ⟨i,x,hi,dx,rfl⟩ ⟨j,y,hj,dy,he⟩
theorem V8 {a b:List SB} {N:Nat} {zY vO:Env} {DR BX:Nat→Addr} (hs:qp N a.length a=true) {x:Nat} (h:jm (zY.cat N vO) (uB a.length DR BX) (a ++ b.map (SB.aU (N+·) (a.length+·))) x):jm zY DR a x∨jm vO BX b x:=by
 have hA:=dF.cat N a.length zY vO DR BX
 have e1:(zY.cat N vO).pull (N+·)=vO:=Env.NM N zY vO
 obtain ⟨k,sb,h1,h2,h3,rfl⟩:=h
 rw [List.getElem?_append] at h1
 split at h1
 ·rename_i hk
  rw [SB.nA hA (jg hs k sb h1)] at h3
  exact .inl ⟨k,sb,h1,h2,h3,by rw [qI _ _ _ hk]⟩
 ·rename_i hk
  rw [List.getElem?_map,Option.map_eq_some_iff] at h1
  obtain ⟨c,hc,rfl⟩:=h1
  rw [SB.jM,e1] at h3
  refine .inr ⟨k-a.length,c,hc,h2,h3,?_⟩
  have:=xD a.length DR BX (k-a.length)
  rw [show a.length+(k-a.length)=k by omega] at this
  rw [this]
def af5 (hp:List SB):Bool:=hp.all fun b=>!b.own
theorem uC {ρ:Env} {ν:Nat→Addr} {hp:List SB} (h:af5 hp=true) {x:Nat} (hx:jm ρ ν hp x):False:=by
 obtain ⟨k,sb,h1,h2,-,-⟩:=hx
 have:=List.all_eq_true.1 h sb (List.mem_of_getElem? h1)
 rw [h2] at this
 cases this
theorem aH.BZ {ρ:Env} {ν:Nat→Addr} {hp:List SB} {w w':World} (ha:nY hp=true) (h:aH ρ ν hp w) (hk:∀b,il ρ ν hp b→w'.heap[b]?=w.heap[b]?):aH ρ ν hp w' :=
 h.frame ha fun b hb=>hk b (ni hb)
theorem kY.aC {z:Nat} {W:Nat→Prop} {ρ:Env} {ν:Nat→Addr} {hp:List SB} (ha:nY hp=true) (h:kY z W ρ ν hp) {b:Nat} (hb:il ρ ν hp b):z≤b∨W b:=abZ h (V7 ha hb)
end Go.Rex
namespace Go.Proofs.YthomdlajobnmnaaGreatDoor
open Go.Rex
def iC:List SB:=jd 36 J4 0
def kF:List SB:=Nc 0 2 0
structure gL (w:World) (a:Addr) (p:PS) (B:Nat→Prop):Prop where
 ex:∃ρ ν,ν 0=a∧aH ρ ν kF w∧ay ρ (ρ.iv 0) (ρ.iv 1) 2=p∧bz ρ 2∧∀b,il ρ ν kF b→B b
structure lH (w:World) (dC:Nat→Addr):Prop where
 hp:∃ρ,aH ρ dC iC w
 gl:iQ dC (gK J4 0)
theorem K5:nY kF=true:=by kernel_rfl
section
variable {w w':World} {a:Addr} {p:PS} {B B':Nat→Prop}
theorem gL.frame (h:gL w a p B) (hk:∀b,B b→w'.heap[b]?=w.heap[b]?):gL w' a p B:=by
 obtain ⟨ρ,ν,h1,h2,h3,h4,h5⟩:=h.ex
 exact ⟨ρ,ν,h1,h2.BZ K5 fun b hb=>hk b (h5 b hb),h3,h4,h5⟩
theorem gL.mono (h:gL w a p B) (hk:∀b,B b→b<w.heap.size→B' b):gL w a p B':=by
 obtain ⟨ρ,ν,h1,h2,h3,h4,h5⟩:=h.ex
 exact ⟨ρ,ν,h1,h2,h3,h4,fun b hb=>hk b (h5 b hb) (oF h2 hb)⟩
theorem lH.frame {dC:Nat→Addr} (h:lH w dC) (hz:w.heap.size≤w'.heap.size) (hk:∀k,k<8→w'.heap[(dC k).block]?=w.heap[(dC k).block]?):lH w' dC:=by
 obtain ⟨⟨ρ,h1⟩,h2⟩:=h
 exact ⟨⟨ρ,h1.qB hz fun k sb hk' _=>hk k (Nat.lt_of_lt_of_le (List.getElem?_eq_some_iff.1 hk').1 (by decide))⟩,h2⟩
end
structure Dk (p:PS) (n m:Int):Prop where
 nb:p.nb=n
 ns:p.ns=m
 nf:p.nf=m
 steps:p.steps=0
 made:p.made=0
 bT:p.bT=true
 bd:∀i,p.bd i=Wd.zero
 gen:∀i,p.gen i=0
 used:∀i,p.used i=false
 cell:∀i k,p.cell i k=Wd.zero
 fr:∀i:Nat,(i:Int)<m→p.fr i=m-i
theorem Dk.ok {p:PS} {n m:Int} (h:Dk p n m) (h1:0≤m∧m≤1024) (h2:0≤n∧n≤200):p.OK:=by
 have hu:∀k,kv p.used k=0:=fun k=>by
  rw [r9 (v:=fun _=>false) fun i _=>h.used i,Gy]
 refine ⟨by rw [h.nb];exact h2,by rw [h.ns];exact h1,by rw [h.nf];exact h1.1,by rw [h.made,h.steps];exact ⟨Int.le_refl 0,Int.le_refl 0⟩,fun i=>by rw [h.gen,h.made];exact ⟨Int.le_refl 0,Int.le_refl 0⟩,fun i hi=>?_,fun i j hi hj=>?_,?_⟩
 ·rw [h.nf] at hi
  rw [h.fr i hi,h.ns]
  exact ⟨by omega,by omega,h.used _⟩
 ·rw [h.nf] at hj
  rw [h.fr i (by omega),h.fr j hj]
  omega
 ·rw [hu,h.nf,h.ns]
  simp
abbrev Nw (w w':World):Prop:=bA w (fun _=>False) w'
theorem G8 {ρ:Env} {ν:Nat→Addr} {w:World}:aH ρ ν [] w:=⟨fun i j a b h=>by simp at h,fun k sb h=>by simp at h,fun k sb h=>by simp at h⟩
def V9 (f:Nat→Int):Env:=⟨f,fun _=>false,fun _=>undef,fun _ _ _ _=>0,fun _ _ _ _=>false,fun _ _ _ _=>undef⟩
def fN:Nat→Nat
 | 0=>1
 | 1=>0
 | i=>i
theorem aeT:(List.range kF.length).map (fun j=>pV.hp'[j]?)=kF.map fun sb=>some (sb.aU fN fun k=>k):=by kernel_rfl
theorem Tn (m:Int) (h:0≤m∧m≤1024) (w:World) :
  Calls Tryz.prog 16 #[.int .i64 m,.int .i64 85] w fun e w'=>∃aP p B,e=.returned (.tuple #[.pointer (some aP),.nilIface])∧gL w' aP p B∧Dk p 85 m∧(∀b,B b→w.heap.size≤b)∧Nw w w':=by
 have hrun:=abY.run (V9 fun i=>if i=0 then m else 85) (fun _=>⟨0,0,none⟩) w G8 ⟨fun g k _ h=>(by cases h),fun g g' k k' _ _ h=>(by cases h)⟩ ⟨h,by show (0:Int)≤85∧(85:Int)≤200;decide⟩
 refine Calls.mono hrun ?_
 rintro e w' ⟨ρ,ν,hA,rfl,iw,hwr,how,q1,q2⟩
 have e0:ρ.iv 0=m:=(hA.iv 0 (by decide)).trans rfl
 have e1:ρ.iv 1=85:=(hA.iv 1 (by decide)).trans rfl
 have hn:∀b,¬jm (V9 fun i=>if i=0 then m else 85) (fun _=>(⟨0,0,none⟩:Addr)) pV.hp b:=fun b ⟨k,sb,hk,_⟩=>by
  have hk:([]:List SB)[k]?=some sb:=hk
  simp at hk
 obtain ⟨p,h1,h2⟩:=q2
 replace h1:ay ρ (ρ.iv 1) (ρ.iv 0) 2=p:=h1
 refine ⟨ν 0,p,il (ρ.pull fN) ν kF,rfl,⟨ρ.pull fN,ν,rfl,iw.sub aeT fun i j _ _ h=>h,h1,q1,fun _ h=>h⟩,?_,fun b hb=>?_,⟨hwr.os,hwr.tape,hwr.output,hwr.size,fun k hk _=>hwr.block k hk (hn k)⟩⟩
 ·obtain ⟨a1,a2,a3,a4,a5,a6,a7,a8,a9,DT,QC⟩:=h2
  exact ⟨a1.trans e1,a2.trans e0,a3.trans e0,a4,a5,a6,a7,a8,a9,DT,fun i hi=>(QC i (by show (i:Int)<ρ.iv 0;rw [e0];exact hi)).trans (by show ρ.iv 0-i=m-i;rw [e0])⟩
 ·rcases (how.sub aeT).aC K5 hb with h | h
  ·exact h
  ·exact absurd h (hn b)
def oq (a:Ac):Value:=.agg #[.int .i64 a.kind,.int .i64 a.slot,.int .i64 a.gen,.int .i64 a.field,.int .i64 a.old.slot,.int .i64 a.old.gen,.int .i64 a.old.tag,.int .i64 a.old.num,.bool a.old.mark,.int .i64 a.new.slot,.int .i64 a.new.gen,.int .i64 a.new.tag,.int .i64 a.new.num,.bool a.new.mark]
def K6 (w:Wd):Value:=.agg #[.int .i64 w.slot,.int .i64 w.gen,.int .i64 w.tag,.int .i64 w.num,.bool w.mark]
def jl (x:Rp):Value:=.agg #[.int .i64 x.word.slot,.int .i64 x.word.gen,.int .i64 x.word.tag,.int .i64 x.word.num,.bool x.word.mark,.bool x.ok]
def K7 (a:Ac):Env where
 iv:=fun i=>([a.kind,a.slot,a.gen,a.field,a.old.slot,a.old.gen,a.old.tag,a.old.num,0,a.new.slot,a.new.gen,a.new.tag,a.new.num,0]:List Int).getD i 0
 bv:=fun i=>if i=8 then a.old.mark else a.new.mark
 vv:=fun _=>undef
 ic:=fun _ _ _ _=>0
 bc:=fun _ _ _ _=>false
 vc:=fun _ _ _ _=>undef
def fD:Nat→Nat
 | 0=>14
 | 1=>15
 | i=>i+31
def gD:Nat→Nat
 | 0=>8
 | 1=>9
 | 2=>10
 | k=>k+10
theorem aeU:(List.range kF.length).map (fun j=>oo.hp'[gD j]?)=kF.map fun sb=>some (sb.aU fD gD):=by kernel_rfl
theorem aeV:∀i j,i<kF.length→j<kF.length→gD i=gD j→i=j:=by
 have:∀i,i<5→∀j,j<5→gD i=gD j→i=j:=by decide
 intro i j hi hj
 exact this i hi j hj
theorem K8 {w:World} {aP:Addr} {p p':PS} {B:Nat→Prop} {dC:Nat→Addr} {a:Ac} {x:Rp} (hs:lH w dC) (hp:gL w aP p B) (hz:∀k,k<8→¬B (dC k).block) (hok:p.OK) (hst:p.steps≤1000000) (hx:p.act a=(p',some x)) :
  Calls Tryz.prog 32 #[.pointer (some aP),oq a] w fun e w'=>e=.returned (.tuple #[jl x,.nilIface])∧∃B',gL w' aP p' B'∧(∀b,B' b→w.heap.size≤b∨B b)∧bA w B w':=by
 obtain ⟨cB,fA,rfl,We,rfl,hpo,hpb⟩:=hp.ex
 obtain ⟨⟨Wh,hsh⟩,hgl⟩:=hs
 have hsB:∀x,il (K7 a) dC iC x→∃k,k<8∧x=(dC k).block:=by
  rintro x ⟨k,sb,h1,_,rfl⟩
  exact ⟨k,Nat.lt_of_lt_of_le (List.getElem?_eq_some_iff.1 h1).1 (by decide),rfl⟩
 have hsh':aH (K7 a) dC iC w:=aH.ext (nv:=0) (n:=8) ⟨fun i h=>absurd h (Nat.not_lt_zero _),fun i h=>absurd h (Nat.not_lt_zero _),fun i h=>absurd h (Nat.not_lt_zero _),fun i h=>absurd h (Nat.not_lt_zero _),fun i h=>absurd h (Nat.not_lt_zero _),fun i h=>absurd h (Nat.not_lt_zero _),fun i h=>rfl⟩ (by kernel_rfl) (by decide) hsh
 have Za:=aH.join (N:=14) hsh' We (by kernel_rfl) fun x h1 h2=>by
  obtain ⟨k,hk,rfl⟩:=hsB x h1
  exact hz k hk (hpb _ h2)
 have eL:oo.hp=iC ++ kF.map (SB.aU (14+·) (iC.length+·)):=by kernel_rfl
 rw [←eL] at Za
 have mr:∀x,jm ((K7 a).cat 14 cB) (uB iC.length dC fA) oo.hp x→B x:=by
  intro x hx
  rw [eL] at hx
  rcases V8 (by kernel_rfl) hx with hb | hb
  ·exact (uC (by kernel_rfl) hb).elim
  ·exact hpb _ (ni hb)
 obtain ⟨ρ,hρ⟩:∃ρ,ρ=(K7 a).cat 14 cB:=⟨_,rfl⟩
 obtain ⟨ν,lu⟩:∃ν,ν=uB iC.length dC fA:=⟨_,rfl⟩
 have e8:ν 8=fA 0:=by rw [lu];rfl
 have eP:ay ρ (ρ.iv 14) (ρ.iv 15) 16=ay cB (cB.iv 0) (cB.iv 1) 2:=by rw [hρ];rfl
 have eA:aB ρ 0=a:=by rw [hρ];rfl
 have hG:iQ ν oo.gl:=by
  refine iQ.ext (nv:=0) (n:=8) (ρ:=Wh) (ρ':=ρ) (ν:=dC) ⟨fun i h=>absurd h (Nat.not_lt_zero _),fun i h=>absurd h (Nat.not_lt_zero _),fun i h=>absurd h (Nat.not_lt_zero _),fun i h=>absurd h (Nat.not_lt_zero _),fun i h=>absurd h (Nat.not_lt_zero _),fun i h=>absurd h (Nat.not_lt_zero _),fun i h=>?_⟩ (by kernel_rfl) hgl
  rw [lu,qI _ _ _ (Nat.lt_of_lt_of_le h (by decide))]
 have hOk:bz ρ 16:=by
  rw [hρ]
  exact hpo
 have hargs:(oo.args.map (·.den ρ ν)).toArray=#[.pointer (some (fA 0)),oq a]:=by
  rw [←e8,←eA]
  rfl
 rw [←hρ,←lu] at Za mr
 rw [←eP] at hok hst hx
 have hrun:=adT.run ρ ν w Za hG ⟨hOk,hok,hst⟩
 rw [hargs] at hrun
 refine Calls.mono hrun ?_
 rintro ev w' ⟨ρ',aK,hA,rfl,iw,hwr,how,q1,q2,q3⟩
 have eP':ay ρ' (ρ'.iv 14) (ρ'.iv 15) 16=ay ρ (ρ.iv 14) (ρ.iv 15) 16:=by
  unfold ay
  simp (disch:=decide) only [hA.iv,hA.bv,hA.ic,hA.bc]
 have eA':aB ρ' 0=a:=by
  rw [←eA]
  unfold aB az
  simp (disch:=decide) only [hA.iv,hA.bv]
 replace q2:(ay ρ' (ρ'.iv 14) (ρ'.iv 15) 16).act (aB ρ' 0)=(ay ρ' (ρ'.iv 14) (ρ'.iv 15) 33,if ρ'.bv 32=true then some (aI ρ' 26) else none):=q2
 rw [eP',eA',hx] at q2
 have hb:ρ'.bv 32=true:=by
  cases h:ρ'.bv 32 with
  | true=>rfl
  | false=>rw [h] at q2;cases q2
 rw [hb,if_pos rfl,Prod.mk.injEq,Option.some.injEq] at q2
 obtain ⟨rfl,rfl⟩:=q2
 refine ⟨?_,il (ρ'.pull fD) (fun k=>aK (gD k)) kF,⟨ρ'.pull fD,fun k=>aK (gD k),?_,iw.sub aeU aeV,rfl,q1,fun _ h=>h⟩,fun b h=>((how.sub aeU).aC K5 h).imp id (mr b),hwr.os,hwr.tape,hwr.output,hwr.size,fun k hk hn=>hwr.block k hk fun h=>hn (mr k h)⟩
 ·show Ending.returned (.tuple #[_,if ρ'.bv 32=true then _ else _])=_
  rw [hb]
  rfl
 ·show aK 8=fA 0
  rw [hA.bl 8 (by decide),e8]
def dH:List SB:=Nf 0 4 0
theorem zD:nY dH=true:=by kernel_rfl
def evF (E M T N:Int):Env:=V9 fun i=>([E,M,T,N]:List Int).getD i 0
theorem Tp (E M T N:Int) (h1:1≤E∧E≤5) (h2:0≤M∧M<T) (h3:1≤T∧T≤6) (h4:1≤N∧N≤64) (w:World) :
  Calls Tryz.prog 34 #[.int .i64 E,.int .i64 M,.int .i64 T,.int .i64 N] w fun e w'=>∃ρ ν,e=.returned (.tuple #[.pointer (some (ν 0)),.nilIface])∧(aH ρ ν dH w'∧aa ρ 0 4=RS.new E M T N∧bH ρ 4∧∀b,il ρ ν dH b→w.heap.size≤b)∧Nw w w':=by
 have hrun:=Y8.run (evF E M T N) (fun _=>⟨0,0,none⟩) w G8 ⟨fun g k _ h=>(by cases h),fun g g' k k' _ _ h=>(by cases h)⟩ ⟨h1,h2,h3,h4.1,h4.2⟩
 refine Calls.mono hrun ?_
 rintro e w' ⟨ρ,ν,hA,rfl,iw,hwr,how,q1,q2⟩
 have hn:∀b,¬jm (evF E M T N) (fun _=>(⟨0,0,none⟩:Addr)) oQ.hp b:=fun b ⟨k,sb,hk,_⟩=>by
  have hk:([]:List SB)[k]?=some sb:=hk
  simp at hk
 refine ⟨ρ,ν,rfl,⟨iw,Eq.trans q2 ?_,q1,fun b hb=>(how.aC zD hb).elim id fun h=>absurd h (hn b)⟩,hwr.os,hwr.tape,hwr.output,hwr.size,fun k hk _=>hwr.block k hk (hn k)⟩
 show RS.new (ρ.iv 0) (ρ.iv 1) (ρ.iv 2) (ρ.iv 3)=_
 rw [hA.iv 0 (by decide),hA.iv 1 (by decide),hA.iv 2 (by decide),hA.iv 3 (by decide)]
 rfl
end Go.Proofs.YthomdlajobnmnaaGreatDoor
namespace Go.Proofs.YthomdlajobnmnaaGreatDoor
open Go.RowKit Go.Rex
structure lI (w:World) (a:Addr) (r:RS) (B:Nat→Prop):Prop where
 ex:∃ρ ν,ν 0=a∧aH ρ ν dH w∧aa ρ 0 4=r∧bH ρ 4∧∀b,il ρ ν dH b→B b
section
variable {w w':World} {a:Addr} {r:RS} {B B':Nat→Prop}
theorem lI.frame (h:lI w a r B) (hk:∀b,B b→w'.heap[b]?=w.heap[b]?):lI w' a r B:=by
 obtain ⟨ρ,ν,h1,h2,h3,h4,h5⟩:=h.ex
 exact ⟨ρ,ν,h1,h2.BZ zD fun b hb=>hk b (h5 b hb),h3,h4,h5⟩
theorem lI.mono (h:lI w a r B) (hk:∀b,B b→b<w.heap.size→B' b):lI w a r B':=by
 obtain ⟨ρ,ν,h1,h2,h3,h4,h5⟩:=h.ex
 exact ⟨ρ,ν,h1,h2,h3,h4,fun b hb=>hk b (h5 b hb) (oF h2 hb)⟩
theorem lI.step (h:lI w a r B):∃b,a=⟨b,0,none⟩∧B b∧w.cell? ⟨b,18,none⟩=some (.int .i64 r.step):=by
 obtain ⟨ρ,ν,rfl,q1,rfl,h4,h5⟩:=h.ex
 obtain ⟨g1,cs,g2,g3⟩:=q1.aC 0 _ rfl rfl rfl
 have g2:=g2.cells rfl
 refine ⟨(ν 0).block,g1,h5 _ ⟨0,_,rfl,rfl,rfl⟩,?_⟩
 have:=g3.ex 18 _ rfl rfl
 unfold World.cell?
 rw [g2]
 exact this
end
def gR:Nat→Nat
 | 0=>0
 | k=>k+3
theorem G9:∀i j,i<dH.length→j<dH.length→gR i=gR j→i=j:=by
 have:∀i,i<4→∀j,j<4→gR i=gR j→i=j:=by decide
 intro i j hi hj
 exact this i hi j hj
def qW (c:Ca):Value:=.agg #[.int .i64 c.kind,.int .i64 c.slot,.int .i64 c.gen,.int .i64 c.field,.int .i64 c.old.slot,.int .i64 c.old.gen,.int .i64 c.old.tag,.int .i64 c.old.num,.bool c.old.mark,.int .i64 c.new.slot,.int .i64 c.new.gen,.int .i64 c.new.tag,.int .i64 c.new.num,.bool c.new.mark,.int .i64 c.i,.int .i64 c.j,.int .i64 c.code,.int .i64 c.val]
def EX (f:Nat→Int) (g:Nat→Bool):Env:=⟨f,g,fun _=>undef,fun _ _ _ _=>0,fun _ _ _ _=>false,fun _ _ _ _=>undef⟩
def aaC (c:Ca):Env:=EX (fun i=>([c.kind,c.slot,c.gen,c.field,c.old.slot,c.old.gen,c.old.tag,c.old.num,0,c.new.slot,c.new.gen,c.new.tag,c.new.num,0,c.i,c.j,c.code,c.val]:List Int).getD i 0) fun i=>if i=8 then c.old.mark else c.new.mark
def K9 (x:Rp):Env:=EX (fun i=>([x.word.slot,x.word.gen,x.word.tag,x.word.num]:List Int).getD i 0) fun i=>if i=4 then x.word.mark else x.ok
theorem Wi {w:World} {b:Nat} {s:Int} (h:w.cell? ⟨b,18,none⟩=some (.int .i64 s)):Calls Tryz.prog 36 #[.pointer (some ⟨b,0,none⟩)] w fun e w'=>e=.returned (.bool (decide (s≠0)))∧w'=w:=by
 go_enter Tryz.func36,Tryz.ntmps36
 go_wp2
 go_ret
 by_cases hs:s=0 <;> simp [hs]
structure uD (r:RS):Prop where
 st:(0≤r.me∧r.me<6)∧1≤r.threads∧r.threads≤6
 few:r.notes.length≤1000000
def smW (w:Wd):Prop:=(-1000000000000≤w.tag∧w.tag≤1000000000000)∧-1000000000000≤w.num∧w.num≤1000000000000
structure oG (r:RS) (x:Rp):Prop where
 ok:uD r
 s13:r.step=13→r.seen.length≤99999∧(0≤r.index∧r.index≤99999)∧(r.af=4→smW r.clock)
 s15:r.step=15→r.af=4
 w:smW x.word
 freed:-1000000000000≤r.freed∧r.freed≤1000000000000
 s16:r.step=16→∃d l,r.bD=d :: l∧d∈r.notes
 s0:r.step≠0
 s4:r.step=4→0≤r.index∧r.index≤8
 ahX:r.step=5∨r.step=6∨r.step=7→0≤r.call.i∧r.call.i<9
theorem aeX {q:Env} {x:Rp} (H:oG (aa q 0 4) x) (e2:aI q 71=x) (ho:bH q 4):xA q:=by
 have hst:(aa q 0 4).step=q.iv 22:=rfl
 refine ⟨⟨ho,⟨H.ok.st.1.1,H.ok.st.1.2,H.ok.st.2.1,H.ok.st.2.2⟩,⟨⟨?_,fun h=>?_⟩,fun h h4=>(H.s13 h).2.2 h4,fun h=>(H.s13 h).2.1,fun h=>H.s15 h⟩,?_,H.freed,H.s16⟩,H.s0,H.s4,H.ahX⟩
 ·have h1:(aT q 70 (q.iv 59)).length≤1000000:=H.ok.few
  rw [kC] at h1
  omega
 ·have h1:(dJ q 68 (q.iv 49)).length≤99999:=(H.s13 h).1
  have h2:(dJ q 68 (q.iv 49)).length=(q.iv 49).toNat:=by simp [dJ]
  rw [h2] at h1
  omega
 ·have:=H.w
  rw [←e2] at this
  exact this
def NS (i:Nat):Nat:=if i<4 then i else i+85
theorem NT:(List.range dH.length).map (fun j=>lU.hp'[gR j]?)=dH.map fun sb=>some (sb.aU NS gR):=by kernel_rfl
theorem Zb {w:World} {a:Addr} {r:RS} {B:Nat→Prop} {c:Ca} (h:lI w a r B) (hk:uD r) (h0:r.step=0) (hc:c.OK) :
  Calls Tryz.prog 37 #[.pointer (some a),qW c] w fun ev w'=>ev=.returned .nilIface∧∃B',lI w' a (r.begin c).1 B'∧(∀x,B' x→w.heap.size≤x∨B x)∧bA w B w':=by
 obtain ⟨ρ,ν,rfl,hh0,rfl,ho,hB⟩:=h.ex
 have hA:dF 71 4 ρ (ρ.cat 71 (aaC c)) ν ν:=⟨fun _ h=>if_pos h,fun _ h=>if_pos h,fun _ h=>if_pos h,fun _ h=>if_pos h,fun _ h=>if_pos h,fun _ h=>if_pos h,fun _ _=>rfl⟩
 obtain ⟨q,hq⟩:∃q,q=ρ.cat 71 (aaC c):=⟨_,rfl⟩
 rw [←hq] at hA
 have hh:aH q ν dH w:=hh0.ext hA (by kernel_rfl) (by decide)
 have e1:aa q 0 4=aa ρ 0 4:=by rw [hq];rfl
 have hoq:bH q 4:=by rw [hq];exact ho
 have e2:jr q 71=c:=by rw [hq];rfl
 have hpre':zq q:=by
  refine ⟨⟨hoq,?_,?_⟩,?_,?_⟩
  ·have:(0≤(aa q 0 4).me∧(aa q 0 4).me<6)∧1≤(aa q 0 4).threads∧(aa q 0 4).threads≤6:=by rw [e1];exact hk.st
   exact ⟨this.1.1,this.1.2,this.2.1,this.2.2⟩
  ·have h1:(aT q 70 (q.iv 59)).length≤1000000:=by
    have:=hk.few
    rw [←e1] at this
    exact this
   rw [kC] at h1
   show q.iv 59≤1000000
   omega
  ·show (aa q 0 4).step=0
   rw [e1]
   exact h0
  ·rw [e2]
   exact hc
 have hrun:=VH.run q ν w hh ⟨fun g k _ h=>(by cases h),fun g g' k k' _ _ h=>(by cases h)⟩ hpre'
 have hargs:(lU.args.map (·.den q ν)).toArray=#[.pointer (some (ν 0)),qW c]:=by
  rw [hq]
  rfl
 rw [hargs] at hrun
 refine Calls.mono hrun ?_
 rintro ev w' ⟨ρ',aK,hA',rfl,iw,hwr,how,q1,q2⟩
 have e0:aa ρ' 0 4=aa q 0 4:=by
  unfold aa jr aB aI az dJ aT gX bN
  simp (disch:=decide) only [hA'.iv,hA'.bv,hA'.ic,hA'.bc]
 have e3:jr ρ' 71=jr q 71:=by
  unfold jr az
  simp (disch:=decide) only [hA'.iv,hA'.bv]
 replace q2:aa ρ' 0 89=((aa ρ' 0 4).begin (jr ρ' 71)).1:=q2
 rw [e0,e1,e3,e2] at q2
 have mr:∀x,jm q ν dH x→B x:=fun x h=>hB x ((rH hA (by kernel_rfl) (by decide)).1 (ni h))
 refine ⟨rfl,il (ρ'.pull NS) (fun k=>aK (gR k)) dH,⟨ρ'.pull NS,fun k=>aK (gR k),?_,iw.sub NT G9,q2,q1,fun _ h=>h⟩,fun x hx=>((how.sub NT).aC zD hx).imp id (mr x),hwr.os,hwr.tape,hwr.output,hwr.size,fun b hb hn=>hwr.block b hb fun h=>hn (mr b h)⟩
 show aK 0=ν 0
 exact hA'.bl 0 (by decide)
def Tq (i:Nat):Nat:=if i<4 then i else i+73
theorem QD:(List.range dH.length).map (fun j=>nJ.hp'[gR j]?)=dH.map fun sb=>some (sb.aU Tq gR):=by kernel_rfl
theorem ab0 {w:World} {a:Addr} {r:RS} {B:Nat→Prop} {x:Rp} (h:lI w a r B) (hk:oG r x) :
  Calls Tryz.prog 40 #[.pointer (some a),jl x] w fun ev w'=>ev=.returned .nilIface∧∃B',lI w' a (r.aG x).1 B'∧(∀x,B' x→w.heap.size≤x∨B x)∧bA w B w':=by
 obtain ⟨ρ,ν,rfl,hh0,rfl,ho,hB⟩:=h.ex
 have hA:dF 71 4 ρ (ρ.cat 71 (K9 x)) ν ν:=⟨fun _ h=>if_pos h,fun _ h=>if_pos h,fun _ h=>if_pos h,fun _ h=>if_pos h,fun _ h=>if_pos h,fun _ h=>if_pos h,fun _ _=>rfl⟩
 obtain ⟨q,hq⟩:∃q,q=ρ.cat 71 (K9 x):=⟨_,rfl⟩
 rw [←hq] at hA
 have hh:aH q ν dH w:=hh0.ext hA (by kernel_rfl) (by decide)
 have e1:aa q 0 4=aa ρ 0 4:=by rw [hq];rfl
 have hoq:bH q 4:=by rw [hq];exact ho
 have e2:aI q 71=x:=by rw [hq];rfl
 have hpre':xA q:=aeX (x:=x) (by rw [e1];exact hk) e2 hoq
 have hrun:=Y5.run q ν w hh ⟨fun g k _ h=>(by cases h),fun g g' k k' _ _ h=>(by cases h)⟩ hpre'
 have hargs:(nJ.args.map (·.den q ν)).toArray=#[.pointer (some (ν 0)),jl x]:=by
  rw [hq]
  rfl
 rw [hargs] at hrun
 refine Calls.mono hrun ?_
 rintro ev w' ⟨ρ',aK,hA',rfl,iw,hwr,how,q1,q2⟩
 have e0:aa ρ' 0 4=aa q 0 4:=by
  unfold aa jr aB aI az dJ aT gX bN
  simp (disch:=decide) only [hA'.iv,hA'.bv,hA'.ic,hA'.bc]
 have e3:aI ρ' 71=aI q 71:=by
  unfold aI az
  simp (disch:=decide) only [hA'.iv,hA'.bv]
 replace q2:aa ρ' 0 77=((aa ρ' 0 4).aG (aI ρ' 71)).1:=q2
 rw [e0,e1,e3,e2] at q2
 have mr:∀x,jm q ν dH x→B x:=fun x h=>hB x ((rH hA (by kernel_rfl) (by decide)).1 (ni h))
 refine ⟨rfl,il (ρ'.pull Tq) (fun k=>aK (gR k)) dH,⟨ρ'.pull Tq,fun k=>aK (gR k),?_,iw.sub QD G9,q2,q1,fun _ h=>h⟩,fun x hx=>((how.sub QD).aC zD hx).imp id (mr x),hwr.os,hwr.tape,hwr.output,hwr.size,fun b hb hn=>hwr.block b hb fun h=>hn (mr b h)⟩
 show aK 0=ν 0
 exact hA'.bl 0 (by decide)
def Tt (i:Nat):Nat:=if i<4 then i else i+67
theorem QE:(List.range dH.length).map (fun j=>lY.hp'[gR j]?)=dH.map fun sb=>some (sb.aU Tt gR):=by kernel_rfl
theorem ab1 {w:World} {a:Addr} {r:RS} {B:Nat→Prop}  (h:lI w a r B) (h0:r.step≠0) :
  Calls Tryz.prog 39 #[.pointer (some a)] w fun ev w'=>ev=.returned (.tuple #[oq r.acc,.bool true])∧∃B',lI w' a r B'∧(∀x,B' x→w.heap.size≤x∨B x)∧bA w B w':=by
 obtain ⟨ρ,ν,rfl,hh0,rfl,ho,hB⟩:=h.ex
 have hA:dF 71 4 ρ (ρ.cat 71 (EX (fun _=>0) fun _=>false)) ν ν:=⟨fun _ h=>if_pos h,fun _ h=>if_pos h,fun _ h=>if_pos h,fun _ h=>if_pos h,fun _ h=>if_pos h,fun _ h=>if_pos h,fun _ _=>rfl⟩
 obtain ⟨q,hq⟩:∃q,q=ρ.cat 71 (EX (fun _=>0) fun _=>false):=⟨_,rfl⟩
 rw [←hq] at hA
 have hh:aH q ν dH w:=hh0.ext hA (by kernel_rfl) (by decide)
 have e1:aa q 0 4=aa ρ 0 4:=by rw [hq];rfl
 have hoq:bH q 4:=by rw [hq];exact ho
 have hpre':zB q:=⟨hoq,fun h=>h0 (by rw [←e1];exact h)⟩
 have hrun:=V6.run q ν w hh ⟨fun g k _ h=>(by cases h),fun g g' k k' _ _ h=>(by cases h)⟩ hpre'
 have hargs:(lY.args.map (·.den q ν)).toArray=#[.pointer (some (ν 0))]:=by
  rw [hq]
  rfl
 rw [hargs] at hrun
 refine Calls.mono hrun ?_
 rintro ev w' ⟨ρ',aK,hA',rfl,iw,hwr,how,q1,⟨q3,q4⟩,q2⟩
 have e0:aa ρ' 0 4=aa q 0 4:=by
  unfold aa jr aB aI az dJ aT gX bN
  simp (disch:=decide) only [hA'.iv,hA'.bv,hA'.ic,hA'.bc]
 replace q2:aa ρ' 0 71=aa ρ' 0 4:=q2
 replace q3:aB ρ' 138=(aa ρ' 0 4).acc:=q3
 replace q4:ρ'.bv 152=true:=q4
 rw [e0,e1] at q2
 rw [e0,e1] at q3
 have mr:∀x,jm q ν dH x→B x:=fun x h=>hB x ((rH hA (by kernel_rfl) (by decide)).1 (ni h))
 refine ⟨?_,il (ρ'.pull Tt) (fun k=>aK (gR k)) dH,⟨ρ'.pull Tt,fun k=>aK (gR k),?_,iw.sub QE G9,q2,q1,fun _ h=>h⟩,fun x hx=>((how.sub QE).aC zD hx).imp id (mr x),hwr.os,hwr.tape,hwr.output,hwr.size,fun b hb hn=>hwr.block b hb fun h=>hn (mr b h)⟩
 ·rw [←q3]
  show Ending.returned (.tuple #[_,.bool (ρ'.bv 152)])=_
  rw [q4]
  rfl
 ·show aK 0=ν 0
  exact hA'.bl 0 (by decide)
def NU (i:Nat):Nat:=if i<4 then i else i+67
theorem NV:(List.range dH.length).map (fun j=>kE.hp'[gR j]?)=dH.map fun sb=>some (sb.aU NU gR):=by kernel_rfl
theorem Zc {w:World} {a:Addr} {r:RS} {B:Nat→Prop}  (h:lI w a r B)  :
  Calls Tryz.prog 38 #[.pointer (some a)] w fun ev w'=>ev=.returned (jl r.bR)∧∃B',lI w' a r B'∧(∀x,B' x→w.heap.size≤x∨B x)∧bA w B w':=by
 obtain ⟨ρ,ν,rfl,hh0,rfl,ho,hB⟩:=h.ex
 have hA:dF 71 4 ρ (ρ.cat 71 (EX (fun _=>0) fun _=>false)) ν ν:=⟨fun _ h=>if_pos h,fun _ h=>if_pos h,fun _ h=>if_pos h,fun _ h=>if_pos h,fun _ h=>if_pos h,fun _ h=>if_pos h,fun _ _=>rfl⟩
 obtain ⟨q,hq⟩:∃q,q=ρ.cat 71 (EX (fun _=>0) fun _=>false):=⟨_,rfl⟩
 rw [←hq] at hA
 have hh:aH q ν dH w:=hh0.ext hA (by kernel_rfl) (by decide)
 have e1:aa q 0 4=aa ρ 0 4:=by rw [hq];rfl
 have hoq:bH q 4:=by rw [hq];exact ho
 have hpre':vM q:=hoq
 have hrun:=Tm.run q ν w hh ⟨fun g k _ h=>(by cases h),fun g g' k k' _ _ h=>(by cases h)⟩ hpre'
 have hargs:(kE.args.map (·.den q ν)).toArray=#[.pointer (some (ν 0))]:=by
  rw [hq]
  rfl
 rw [hargs] at hrun
 refine Calls.mono hrun ?_
 rintro ev w' ⟨ρ',aK,hA',rfl,iw,hwr,how,q1,q3,q2⟩
 have e0:aa ρ' 0 4=aa q 0 4:=by
  unfold aa jr aB aI az dJ aT gX bN
  simp (disch:=decide) only [hA'.iv,hA'.bv,hA'.ic,hA'.bc]
 replace q2:aa ρ' 0 71=aa ρ' 0 4:=q2
 replace q3:aI ρ' 138=(aa ρ' 0 4).bR:=q3
 rw [e0,e1] at q2
 rw [e0,e1] at q3
 have mr:∀x,jm q ν dH x→B x:=fun x h=>hB x ((rH hA (by kernel_rfl) (by decide)).1 (ni h))
 refine ⟨?_,il (ρ'.pull NU) (fun k=>aK (gR k)) dH,⟨ρ'.pull NU,fun k=>aK (gR k),?_,iw.sub NV G9,q2,q1,fun _ h=>h⟩,fun x hx=>((how.sub NV).aC zD hx).imp id (mr x),hwr.os,hwr.tape,hwr.output,hwr.size,fun b hb hn=>hwr.block b hb fun h=>hn (mr b h)⟩
 ·rw [←q3]
  rfl
 ·show aK 0=ν 0
  exact hA'.bl 0 (by decide)
def NW (b:SB):SB:={b with own:=false,ro:=true}
def zF:List SB:=kF.map NW
def lJ:dQ:={f:=41,nv:=13,gl:=gK J4 0,args:=[.one (.ptr {aC:=8}),.agg [.int .i64 (.lit 0),.int .i64 (.lit 0),iv 12]],hp:=iC ++ (Nc 0 2 8).map NW,jf:=18,ret:=.iF [.agg (jy 13),.one (.bool (.lit true))],hp':=List.replicate 13 ed}
theorem af6 {ρ:Env} {ν:Nat→Addr} {hp:List SB} {w:World} (ho:nY hp=true) (hm:(hp.all fun b=>!b.iN)=true) (h:aH ρ ν hp w):aH ρ ν (hp.map NW) w:=by
 have at_:∀(k:Nat) (sb:SB),(hp.map NW)[k]?=some sb→∃b,hp[k]?=some b∧sb=NW b:=fun k sb hk=>by
  rw [List.getElem?_map,Option.map_eq_some_iff] at hk
  obtain ⟨b,hb,rfl⟩:=hk
  exact ⟨b,hb,rfl⟩
 refine ⟨fun i j a b hi hj _ _ ra _=>?_,fun k sb hk _ hr=>?_,fun k sb hk hd _=>?_⟩
 ·obtain ⟨a',_,rfl⟩:=at_ i a hi
  cases ra
 ·obtain ⟨b',_,rfl⟩:=at_ k sb hk
  cases hr
 ·obtain ⟨b,hb,rfl⟩:=at_ k sb hk
  have hd':b.dead ρ=false:=hd
  obtain ⟨g1,cs,g2,g3⟩:=h.aC k b hb hd' (vN ho hb (SB.dP hd')).2
  have hmb:b.iN=false:=by
   have:=List.all_eq_true.1 hm b (List.mem_of_getElem? hb)
   simpa using this
  have hc:=g2.cells hmb
  refine ⟨⟨(Array.getElem?_eq_some_iff.1 hc).1,fun _ _=>⟨cs,b.t,hc⟩⟩,cs,⟨g3.un,g3.size,g3.cap,g3.ex,g3.sg⟩,fun p v hp'=>?_⟩
  rw [g1]
  have e:(⟨(ν k).block,0,none⟩:Addr).add p=⟨(ν k).block,p,none⟩:=by
   unfold Addr.add
   split
   ·rename_i h;subst h;rfl
   ·simp
  rw [e]
  unfold World.cell?
  rw [hc]
  exact hp'
noncomputable def aaD:Ex:={sched:=sched,loops:=[],cons:=[],fin:=lJ}
def QG:Out :=
 .ob (.ai y0 (.var 0)) <|
 .fin {lo:=13,ah:=13,iv:=[(16,.cell 8 (.var 12) y0 3),(15,.cell 8 (.var 12) y0 2),(14,.cell 8 (.var 12) y0 1),(13,.cell 8 (.var 12) y0 0)],bv:=[(17,.cell 8 (.var 12) y0 4)]}
def knP:Kn:=[(.ai (.lit 0) (.var 12),true),(.bO (.var 12) (.var 0),true)]
theorem Zd:exec tab aaD 8000 [] (fE lJ.f lJ.nv knP lJ.gl lJ.hp lJ.args)=QG:=by kernel_rfl
def ab2 (ρ:Env):Prop:=0≤ρ.iv 12∧ρ.iv 12<ρ.iv 0
def Ze (ρ:Env):Prop:=az ρ 13=aO (ρ.ic 8 (ρ.iv 12).toNat 0) (ρ.bc 8 (ρ.iv 12).toNat 0)
theorem Zf:bg Tryz.prog lJ ab2 Ze :=
 dA dO (E:=aaD) (cs:=[]) rfl (fun k pre post h=>by cases h) bX rfl Zd (by kernel_rfl) (fun ρ h p hp=>by
   replace h:0≤ρ.iv 12∧ρ.iv 12<ρ.iv 0:=h
   simp only [knP,List.mem_cons,List.not_mem_nil,or_false] at hp
   rcases hp with rfl | rfl
   · exact decide_eq_true h.1
   · exact decide_eq_true h.2) fun ρ h=>by
  replace h:0≤ρ.iv 12∧ρ.iv 12<ρ.iv 0:=h
  unfold QG
  refine Sat.ob (decide_eq_true (show 0≤ρ.iv 0 by omega)) (Sat.fin ?_)
  rfl
theorem Wj {w:World} {ρ:Env} {ν:Nat→Addr} (h:aH ρ ν kF w):aH ρ ν zF w:=af6 K5 (by kernel_rfl) h
theorem ab3 {w:World} {aP:Addr} {p:PS} {B:Nat→Prop} {dC:Nat→Addr} {f:Int} (hs:lH w dC) (hp:gL w aP p B) (h0:0≤f) (h1:f<p.nb) :
  Calls Tryz.prog 41 #[.pointer (some aP),.agg #[.int .i64 0,.int .i64 0,.int .i64 f]] w fun ev w'=>ev=.returned (.tuple #[K6 (p.bd f.toNat),.bool true])∧Nw w w':=by
 obtain ⟨cB,fA,rfl,We,rfl,hpo,hpb⟩:=hp.ex
 obtain ⟨⟨Wh,hsh⟩,hgl⟩:=hs
 obtain ⟨q,hq⟩:∃q:Env,q={cB with iv:=fun i=>if i=12 then f else cB.iv i}:=⟨_,rfl⟩
 obtain ⟨ν,lu⟩:∃ν,ν=uB iC.length dC fA:=⟨_,rfl⟩
 have hro:aH q fA zF w:=aH.ext (nv:=12) (n:=5) ⟨fun i hi=>by rw [hq];exact if_neg (by omega),fun _ _=>by rw [hq],fun _ _=>by rw [hq],fun _ _=>by rw [hq],fun _ _=>by rw [hq],fun _ _=>by rw [hq],fun _ _=>rfl⟩ (by kernel_rfl) (by decide) (Wj We)
 have hsh':aH q ν iC w:=aH.ext (nv:=0) (n:=8) ⟨fun i h=>absurd h (Nat.not_lt_zero _),fun i h=>absurd h (Nat.not_lt_zero _),fun i h=>absurd h (Nat.not_lt_zero _),fun i h=>absurd h (Nat.not_lt_zero _),fun i h=>absurd h (Nat.not_lt_zero _),fun i h=>absurd h (Nat.not_lt_zero _),fun i h=>by rw [lu,qI _ _ _ (Nat.lt_of_lt_of_le h (by decide))]⟩ (by kernel_rfl) (by decide) hsh
 have e1:(fun k=>ν (iC.length+k))=fA:=by rw [lu];exact funext fun k=>xD ..
 have hall:=hsh'.app (f:=id) (hq:=zF) (by rw [e1];exact hro) fun i j a b hi hj _ _ hr _=>by
  have ha:a.ro=true:=by
   have:(iC.all fun b=>b.ro)=true:=by kernel_rfl
   exact List.all_eq_true.1 this a (List.mem_of_getElem? hi)
  have hb:b.ro=true:=by
   have:(zF.all fun b=>b.ro)=true:=by kernel_rfl
   exact List.all_eq_true.1 this b (List.mem_of_getElem? hj)
  rw [ha,hb] at hr
  rcases hr with h | h <;> cases h
 have eL:lJ.hp=iC ++ zF.map (SB.aU id (iC.length+·)):=by kernel_rfl
 rw [←eL] at hall
 have hG:iQ ν lJ.gl:=by
  refine iQ.ext (nv:=0) (n:=8) (ρ:=Wh) (ρ':=q) (ν:=dC) ⟨fun i h=>absurd h (Nat.not_lt_zero _),fun i h=>absurd h (Nat.not_lt_zero _),fun i h=>absurd h (Nat.not_lt_zero _),fun i h=>absurd h (Nat.not_lt_zero _),fun i h=>absurd h (Nat.not_lt_zero _),fun i h=>absurd h (Nat.not_lt_zero _),fun i h=>?_⟩ (by kernel_rfl) hgl
  rw [lu,qI _ _ _ (Nat.lt_of_lt_of_le h (by decide))]
 have e12:q.iv 12=f:=by rw [hq];rfl
 have e0:q.iv 0=cB.iv 0:=by rw [hq];rfl
 have hrun:=Zf.run q ν w hall hG ⟨by show 0≤q.iv 12;rw [e12];exact h0,by show q.iv 12<q.iv 0;rw [e12,e0];exact h1⟩
 have hargs:(lJ.args.map (·.den q ν)).toArray=#[.pointer (some (fA 0)),.agg #[.int .i64 0,.int .i64 0,.int .i64 f]]:=by
  rw [←e12,show fA 0=ν 8 by rw [←e1];rfl]
  rfl
 rw [hargs] at hrun
 refine Calls.mono hrun ?_
 rintro ev w' ⟨ρ',aK,hA,rfl,iw,hwr,how,q1⟩
 replace q1:az ρ' 13=aO (ρ'.ic 8 (ρ'.iv 12).toNat 0) (ρ'.bc 8 (ρ'.iv 12).toNat 0):=q1
 refine ⟨?_,hwr.os,hwr.tape,hwr.output,hwr.size,fun k hk _=>hwr.block k hk fun h=>uC (by kernel_rfl) h⟩
 have e2:(ay cB (cB.iv 0) (cB.iv 1) 2).bd f.toNat=az ρ' 13:=by
  rw [q1,hA.iv 12 (by decide),hA.ic 8 (by decide),hA.bc 8 (by decide),e12,hq]
  rfl
 rw [e2]
 rfl
theorem NY (d:Wd) (w:World):Calls Tryz.prog 43 #[K6 d] w fun ev w'=>ev=.returned (.bool (decide (d.slot=0)))∧Nw w w':=by
 unfold K6
 go_enter Tryz.func43,Tryz.ntmps43
 go_wp2
 go_ret
 exact ⟨by by_cases hs:d.slot=0 <;> simp [hs],(bA.refl w _).alloc _⟩
end Go.Proofs.YthomdlajobnmnaaGreatDoor
namespace Go.Proofs.YthomdlajobnmnaaGreatDoor
open Go.Rex
section
variable {l:Lo} {t:RT} {p:PS}
end
end Go.Proofs.YthomdlajobnmnaaGreatDoor
namespace Go.Proofs.YthomdlajobnmnaaGreatDoor
open Go.RowKit Go.Rex
theorem Nw.trans {a b c:World} (h1:Nw a b) (h2:Nw b c):Nw a c :=
 ⟨h2.os.trans h1.os,h2.tape.trans h1.tape,h2.output.trans h1.output,Nat.le_trans h1.size h2.size,fun k hk _=>(h2.block k (Nat.lt_of_lt_of_le hk h1.size) id).trans (h1.block k hk id)⟩
theorem Cb {a b c:World} {F:Nat→Prop} (h1:Nw a b) (h2:bA b F c) (hF:∀x,F x→a.heap.size≤x):Nw a c :=
 ⟨h2.os.trans h1.os,h2.tape.trans h1.tape,h2.output.trans h1.output,Nat.le_trans h1.size h2.size,fun k hk _=>(h2.block k (Nat.lt_of_lt_of_le hk h1.size) fun h=>absurd (hF k h) (Nat.not_le.2 hk)).trans (h1.block k hk id)⟩
theorem Nw.bJ {w w':World} (h:Nw w w') {a:Addr} {x:Value} (hc:w.cell? a=some x):w'.cell? a=some x:=by
 rw [←hc]
 unfold World.cell?
 rw [h.block _ (World.block_lt_of_cell? _ _ hc) id]
theorem gL.cells {w:World} {a:Addr} {p:PS} {B:Nat→Prop} (h:gL w a p B) (hg:p.bT=true):∃b,a=⟨b,0,none⟩∧w.cell? ⟨b,4,none⟩=some (.int .i64 p.made)∧w.cell? ⟨b,5,none⟩=some .nilIface:=by
 obtain ⟨ρ,ν,rfl,h1,rfl,h3,h4⟩:=h.ex
 obtain ⟨g1,cs,g2,g3⟩:=h1.aC 0 _ rfl rfl rfl
 have g2:=g2.cells rfl
 refine ⟨(ν 0).block,g1,?_,?_⟩
 ·have:=g3.ex 4 _ rfl rfl
  unfold World.cell?
  rw [g2]
  exact this
 ·have:=g3.ex 5 _ rfl rfl
  unfold World.cell?
  rw [g2]
  refine this.trans (congrArg some ?_)
  show (if ρ.bv 7=true then Value.nilIface else _)=_
  exact if_pos hg
theorem Tu {w:World} {b:Nat} (h:w.cell? ⟨b,5,none⟩=some .nilIface):Calls Tryz.prog 11 #[.pointer (some ⟨b,0,none⟩)] w fun e w'=>e=.returned .nilIface∧w'=w:=by
 go_enter Tryz.func11,Tryz.ntmps11
 go_wp2
 go_ret
 exact ⟨rfl,rfl⟩
end Go.Proofs.YthomdlajobnmnaaGreatDoor
namespace Go.Proofs.YthomdlajobnmnaaGreatDoor
open Go.Rex
def Ja (v:Nat):List SC:=[iv v,iv (v+1),iv (v+2),iv (v+3)]
def QH (v:Nat):SB:={t:=130,cs:=[iv v] ++ xu (v+1) ++ Ja (v+19) ++ jy (v+23) ++ jy (v+28) ++ [iv (v+33)],own:=true}
def uE (ρ:Env) (v:Nat):Op:=⟨ρ.iv v,ρ.iv (v+1),ρ.iv (v+2),ρ.iv (v+3)⟩
def kV (ρ:Env) (v:Nat):Jb:=⟨ρ.iv v,jr ρ (v+1),uE ρ (v+19),az ρ (v+23),az ρ (v+28),ρ.iv (v+33)⟩
def Zg:Kn:=[(.aA (.var 0) (.lit 1),true),(.aA (.var 1) (.lit 0),true),(.aA (.var 3) (.lit 0),true),(.ai (.lit 0) (.var 2),true),(.ai (.var 2) (.lit 1073741824),true)]
def Zh:Kn:=[(.aA (.var 0) (.lit 1),false),(.aA (.var 0) (.lit 2),true),(.aA (.var 1) (.lit 0),true),(.aA (.var 2) (.lit 0),true),(.aA (.var 3) (.lit 0),true)]
end Go.Proofs.YthomdlajobnmnaaGreatDoor
namespace Go.Proofs.YthomdlajobnmnaaGreatDoor
open Go.RowKit Go.Rex
def lK:List SB:=[QH 0]
theorem Ha:nY lK=true:=by kernel_rfl
structure jU (w:World) (a:Addr) (j:Jb) (B:Nat→Prop):Prop where
 ex:∃ρ ν,ν 0=a∧aH ρ ν lK w∧kV ρ 0=j∧∀b,il ρ ν lK b→B b
section
variable {w w':World} {a:Addr} {j:Jb} {B B':Nat→Prop}
theorem jU.frame (h:jU w a j B) (hk:∀b,B b→w'.heap[b]?=w.heap[b]?):jU w' a j B:=by
 obtain ⟨ρ,ν,h1,h2,h3,h5⟩:=h.ex
 exact ⟨ρ,ν,h1,h2.BZ Ha fun b hb=>hk b (h5 b hb),h3,h5⟩
theorem jU.mono (h:jU w a j B) (hk:∀b,B b→b<w.heap.size→B' b):jU w a j B':=by
 obtain ⟨ρ,ν,h1,h2,h3,h5⟩:=h.ex
 exact ⟨ρ,ν,h1,h2,h3,fun b hb=>hk b (h5 b hb) (oF h2 hb)⟩
end
end Go.Proofs.YthomdlajobnmnaaGreatDoor
namespace Go.Proofs.YthomdlajobnmnaaGreatDoor
open Go.Rex
def WSt (w:Wk) (l:Lo) (t:RT):Prop :=
 (w.j=none∧w.aV=false∧StA l t)∨(w.j=none∧w.aV=true∧∃x,t=.idle x) ∨
 (∃o,w.j=some (Jb.new o)∧w.aV=true∧w.said.length<3∧o∈Gz∧StB l t) ∨
 ∃o,w.j=some {Jb.new o with at':=1}∧w.aV=true∧w.said.length<3∧o∈Gz∧StC l t
structure Pe (w:Wk) (l:Lo) (t:RT):Prop where
 rep:iG l t w.r
 ok:l.OK
 notes:l.notes=[]
 freed:l.freed=0
 ops:w.ops=Gz
 said:w.said=List.replicate w.said.length (2,0)
 le:w.said.length≤3
 st:WSt w l t
def Wk.rem (w:Wk):Nat :=
 match w.j with
 | none=>if w.aV=true then 4 * (3-w.said.length)+1 else 4 * (3-w.said.length)
 | some j=>if j.at'=0 then 4 * (3-w.said.length)-1 else 4 * (3-w.said.length)-2
def wM (w:Wk) (l:Lo) (t:RT):Nat:=20 * w.rem+mT l t
theorem aaE {k:Int} (h:1≤k∧k≤11):(Ca.of k).OK:=by
 have h9:(0:Int)≤0∧(0:Int)<9:=by decide
 exact ⟨h.1,h.2,h9.1,h9.2,h9.1,h9.2⟩
theorem Pe.end {w:Wk} {l:Lo} {t:RT} (H:Pe w l t) (h:w.idle):w.said=[(2,0),(2,0),(2,0)]:=by
 have h3:w.said.length=3:=by
  have:=h.2.2.2
  rw [H.ops] at this
  have:=H.le
  simp only [Gz,List.length_cons,List.length_nil] at *
  omega
 rw [H.said,h3]
 rfl
end Go.Proofs.YthomdlajobnmnaaGreatDoor
