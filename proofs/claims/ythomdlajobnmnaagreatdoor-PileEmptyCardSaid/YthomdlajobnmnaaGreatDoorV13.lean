/- part 13 of the proof -/
import Derived.Test.YthomdlajobnmnaaGreatDoorV10
import Derived.Test.YthomdlajobnmnaaGreatDoorV11
import Derived.Test.YthomdlajobnmnaaGreatDoorV12
set_option linter.unusedSimpArgs false
set_option linter.unusedVariables false
namespace Go.Rex
theorem bX.alloc {w0 w:World} {W:Nat→Prop} (h:bX w0 W w) (o:Obj):bX w0 W (w.alloc o) :=
 h.step rfl rfl rfl (by simp) fun k hk _=>heap_alloc_old w _ (Nat.lt_of_lt_of_le hk h.size)
theorem bX.set {w0 w:World} {W:Nat→Prop} (h:bX w0 W w) {a:Addr} {v:Value} (ha:w0.heap.size≤a.block):bX w0 W (w.setCell a v):=by
 refine h.step rfl rfl rfl (by simp [World.setCell]) fun k hk _=>?_
 simp only [World.setCell]
 rw [Array.getElem?_modify]
 rw [if_neg (by omega)]
section
variable {H:Type} {enc:TypeId × Value→H} {P:Program} {W:World}
open Go.WideShapes Go.ChangeShapes Go.RowKit
end
section
variable {σ:Sub} {ρ ρ':Env} {N:Nat}
theorem pW (m k:Nat):(bf σ m N ρ ρ').iv (m+k)=ρ'.iv (N+k):=by
 show (if m+k<m then (σ.ag ρ).iv (m+k) else ρ'.iv (m+k-m+N))=_
 rw [if_neg (by omega),show m+k-m+N=N+k by omega]
theorem za (m k:Nat):(bf σ m N ρ ρ').bv (m+k)=ρ'.bv (N+k):=by
 show (if m+k<m then (σ.ag ρ).bv (m+k) else ρ'.bv (m+k-m+N))=_
 rw [if_neg (by omega),show m+k-m+N=N+k by omega]
theorem Pv (m k:Nat):(bf σ m N ρ ρ').ic (m+k)=ρ'.ic (N+k):=by
 show (if m+k<m then (σ.ag ρ).ic (m+k) else ρ'.ic (m+k-m+N))=_
 rw [if_neg (by omega),show m+k-m+N=N+k by omega]
theorem Pw (m k:Nat):(bf σ m N ρ ρ').bc (m+k)=ρ'.bc (N+k):=by
 show (if m+k<m then (σ.ag ρ).bc (m+k) else ρ'.bc (m+k-m+N))=_
 rw [if_neg (by omega),show m+k-m+N=N+k by omega]
end
end Go.Rex
namespace Go.Proofs.YthomdlajobnmnaaGreatDoor
open Go.Rex
def dE (ρ:Env) (r:Nat) (n:Int):List Wd:=(List.range n.toNat).map fun i=>aF (ρ.ic r i 0) (ρ.bc r i 0)
def bN (ρ:Env) (r:Nat) (i:Nat):Nt:=⟨aF (ρ.ic r i 0) (ρ.bc r i 0),ρ.ic r i 0 5,ρ.ic r i 0 6⟩
def aT (ρ:Env) (r:Nat) (n:Int):List Nt:=(List.range n.toNat).map (bN ρ r)
def fV (ρ:Env) (r:Nat) (o n:Int):List Nt:=(List.range n.toNat).map fun i=>bN ρ r (o.toNat+i)
def iP (ρ:Env) (v:Nat):Ca:=⟨ρ.iv v,ρ.iv (v+1),ρ.iv (v+2),ρ.iv (v+3),av ρ (v+4),av ρ (v+9),ρ.iv (v+14),ρ.iv (v+15),ρ.iv (v+16),ρ.iv (v+17)⟩
def aa (ρ:Env) (s v:Nat):RS where
 call:=iP ρ v
 step:=ρ.iv (v+18)
 acc:=ay ρ (v+19)
 word:=av ρ (v+33)
 clock:=av ρ (v+38)
 index:=ρ.iv (v+43)
 seen:=dE ρ (v+64) (ρ.iv (v+45))
 bI:=fV ρ (v+65) (ρ.iv (v+65)) (ρ.iv (v+48))
 ak:=ρ.iv s
 me:=ρ.iv (s+1)
 threads:=ρ.iv (s+2)
 most:=ρ.iv (s+3)
 holds:=fun i=>aF (ρ.ic (v+50) i 0) (ρ.bc (v+50) i 0)
 span:=⟨ρ.bv (v+51),ρ.iv (v+52),ρ.iv (v+53)⟩
 notes:=aT ρ (v+66) (ρ.iv (v+55))
 freed:=ρ.iv (v+57)
 bK:=aH ρ (v+58)
def bH (ρ:Env) (v:Nat):Prop:=bF ρ (v+44)∧(bF ρ (v+47)∧0≤ρ.iv (v+65)∧(ρ.iv (v+48)=0∨ρ.iv (v+65)+ρ.iv (v+48)≤ρ.iv (v+66)))∧bF ρ (v+54)
theorem RS.ext' {p q:RS} (h1:p.call=q.call) (h2:p.step=q.step) (h3:p.acc=q.acc) (h4:p.word=q.word) (h5:p.clock=q.clock) (h6:p.index=q.index) (h7:p.seen=q.seen) (h8:p.bI=q.bI) (h9:p.ak=q.ak) (h10:p.me=q.me) (h11:p.threads=q.threads) (h12:p.most=q.most)
  (h13:∀i,p.holds i=q.holds i) (h14:p.span=q.span) (Uj:p.notes=q.notes) (h16:p.freed=q.freed) (h17:p.bK=q.bK):p=q:=by
 cases p
 cases q
 simp only at *
 subst h1 h2 h3 h4 h5 h6 h7 h8 h9 h10 h11 h12 h14 Uj h16 h17
 obtain rfl:=funext h13
 rfl
theorem DI {ρ ρ':Env} {r r':Nat} {n n':Int} (hn:n=n') (h:∀i,aF (ρ.ic r i 0) (ρ.bc r i 0)=aF (ρ'.ic r' i 0) (ρ'.bc r' i 0)):dE ρ r n=dE ρ' r' n':=by
 subst hn
 unfold dE
 congr 1
 funext i
 exact h i
theorem fB {ρ ρ':Env} {r r':Nat} {n n':Int} (hn:n=n') (h:∀i,bN ρ r i=bN ρ' r' i):aT ρ r n=aT ρ' r' n':=by
 subst hn
 unfold aT
 congr 1
 funext i
 exact h i
theorem Gc {ρ:Env} {r:Nat} {n:Int} (hn:n=0):dE ρ r n=[]:=by subst hn;rfl
theorem Gd {ρ:Env} {r:Nat} {n:Int} (hn:n=0):aT ρ r n=[]:=by subst hn;rfl
theorem wI {ρ ρ':Env} {r r':Nat} {o o' n n':Int} (hn:n=n') (ho:o=o') (h:∀i,bN ρ r i=bN ρ' r' i):fV ρ r o n=fV ρ' r' o' n':=by
 subst hn ho
 unfold fV
 congr 1
 funext i
 exact h _
theorem nJ {ρ:Env} {r:Nat} {o n:Int} (hn:n=0):fV ρ r o n=[]:=by subst hn;rfl
theorem bu {a b:List Wd} (h:a=b:=by first | exact Gc rfl | exact DI rfl fun i=>by simp [aF,-Int.pred_toNat,Sub.ag,assoc,CV.I,CV.B,ah,ai,ae.I,ae.B,SC.I,SC.B,IE.den,BE.den] | assumption):a=b:=h
theorem bz {a b:List Nt} (h:a=b:=by first | exact Gd rfl | exact fB rfl fun i=>by simp [bN,aF,-Int.pred_toNat,Sub.ag,assoc,CV.I,CV.B,ah,ai,ae.I,ae.B,SC.I,SC.B,IE.den,BE.den] | assumption):a=b:=h
theorem bC {a b:List Nt} (h:a=b:=by first | exact nJ rfl | exact wI rfl rfl fun i=>by simp [bN,aF,-Int.pred_toNat,Sub.ag,assoc,CV.I,CV.B,ah,ai,ae.I,ae.B,SC.I,SC.B,IE.den,BE.den] | assumption):a=b:=h
theorem bB {a b:Nat→Wd} (h:∀i,a i=b i:=by intro i;first | rfl | (simp [aa,aF,-Int.pred_toNat,Sub.ag,assoc,CV.I,CV.B,ah,ai,ae.I,ae.B,SC.I,SC.B,IE.den,BE.den];done) | (simp [aa,aF,-Int.pred_toNat,Sub.ag,assoc,CV.I,CV.B,ah,ai,ae.I,ae.B,SC.I,SC.B,IE.den,BE.den];rfl)):∀i,a i=b i:=h
theorem M9 {ρ:Env} {r:Nat} {n:Int}:fV ρ r 0 n=aT ρ r n:=by
 unfold fV aT
 congr 1
 funext i
 simp
theorem DJ {ρ:Env} {r:Nat} {o n:Int} (h0:0<n) (ho:0≤o):fV ρ r o n=bN ρ r o.toNat :: fV ρ r (o+1) (n-1):=by
 unfold fV
 rw [show n.toNat=(n-1).toNat+1 by omega,List.range_succ_eq_map,List.map_cons,List.map_map,Nat.add_zero]
 congr 1
 congr 1
 funext i
 simp only [Function.comp]
 congr 1
 omega
theorem sU {ρ:Env} {r:Nat} {n:Int}:(dE ρ r n).length=n.toNat:=by simp [dE]
theorem jC {ρ:Env} {r:Nat} {n:Int}:(aT ρ r n).length=n.toNat:=by simp [aT]
theorem Na {ρ ρ':Env} {r r':Nat} {n n':Int} {w:Wd} (h0:0≤n) (hn:n'=n+1) (h:∀i:Nat,(i:Int)<n→aF (ρ'.ic r' i 0) (ρ'.bc r' i 0)=aF (ρ.ic r i 0) (ρ.bc r i 0)) (hw:aF (ρ'.ic r' n.toNat 0) (ρ'.bc r' n.toNat 0)=w) :
  dE ρ' r' n'=dE ρ r n ++ [w]:=by
 subst hn hw
 unfold dE
 rw [show (n+1).toNat=n.toNat+1 by omega,List.range_succ,List.map_append]
 congr 1
 exact List.map_congr_left fun i hi=>h i (by have:=List.mem_range.1 hi;omega)
theorem Nb {ρ ρ':Env} {r r':Nat} {n n':Int} {w:Nt} (h0:0≤n) (hn:n'=n+1) (h:∀i:Nat,(i:Int)<n→bN ρ' r' i=bN ρ r i) (hw:bN ρ' r' n.toNat=w) :
  aT ρ' r' n'=aT ρ r n ++ [w]:=by
 subst hn hw
 unfold aT
 rw [show (n+1).toNat=n.toNat+1 by omega,List.range_succ,List.map_append]
 congr 1
 exact List.map_congr_left fun i hi=>h i (by have:=List.mem_range.1 hi;omega)
theorem oo {a b:Wd}:a=b↔a.slot=b.slot∧a.gen=b.gen∧a.tag=b.tag∧a.num=b.num∧a.mark=b.mark:=by
 cases a;cases b;simp
end Go.Proofs.YthomdlajobnmnaaGreatDoor
namespace Go.Proofs.YthomdlajobnmnaaGreatDoor
open Go.Rex
section
variable {σ:Sub} {ρ q:Env} {m d i:Nat}
theorem DK (h:i<m):(bf σ m d ρ q).iv i=(σ.ag ρ).iv i:=if_pos h
theorem Yv (h:i<m):(bf σ m d ρ q).bv i=(σ.ag ρ).bv i:=if_pos h
theorem Uk (h:i<m):(bf σ m d ρ q).ic i=(σ.ag ρ).ic i:=if_pos h
theorem Ul (h:i<m):(bf σ m d ρ q).bc i=(σ.ag ρ).bc i:=if_pos h
theorem Px (h:i<m):bN (bf σ m d ρ q) i=bN (σ.ag ρ) i:=by
 funext k
 unfold bN
 rw [Uk h,Ul h]
theorem Gf (k:Nat):bN (bf σ m d ρ q) (m+k)=bN q (d+k):=by
 funext j
 unfold bN
 rw [Pv,Pw]
theorem Lp (h:71≤m):aa (bf σ m d ρ q) 0 4=aa (σ.ag ρ) 0 4:=by
 unfold aa iP ay aH av dE aT fV
 simp (disch:=omega) only [Px,DK,Yv,Uk,Ul]
theorem Lr (h:71≤m) (hst:∀i,i<4→(σ.ag ρ).iv i=q.iv i):aa (bf σ m d ρ q) 0 m=aa q 0 d:=by
 have h0:=(DK (σ:=σ) (ρ:=ρ) (q:=q) (d:=d) (show 0<m by omega)).trans (hst 0 (by omega))
 have h1:=(DK (σ:=σ) (ρ:=ρ) (q:=q) (d:=d) (show 0+1<m by omega)).trans (hst 1 (by omega))
 have h2:=(DK (σ:=σ) (ρ:=ρ) (q:=q) (d:=d) (show 0+2<m by omega)).trans (hst 2 (by omega))
 have h3:=(DK (σ:=σ) (ρ:=ρ) (q:=q) (d:=d) (show 0+3<m by omega)).trans (hst 3 (by omega))
 have z0:=pW (σ:=σ) (ρ:=ρ) (ρ':=q) (N:=d) m 0
 have z1:=za (σ:=σ) (ρ:=ρ) (ρ':=q) (N:=d) m 0
 rw [Nat.add_zero,Nat.add_zero] at z0 z1
 unfold aa iP ay aH av dE aT fV
 rw [h0,h1,h2,h3]
 simp only [Gf,Nat.add_assoc,Nat.reduceAdd,pW,za,Pv,Pw,z0,z1]
theorem lK (k:Nat):bF (bf σ m d ρ q) (m+k)=bF q (d+k):=by
 unfold bF
 simp only [Nat.add_assoc,pW,za]
theorem Jo:bH (bf σ m d ρ q) m=bH q d:=by
 unfold bH
 rw [lK,lK,lK,pW,pW,pW]
end
section
variable {post:Env→Prop} {cs:mf} {Γ:List (Env→Prop)} {ρ:Env}
theorem dZ {g nv:Nat} {σ:Sub} {k:Out} {c:dJ} {pre YZ:Env→Prop} (hg:cs[g]?=some (c,pre,YZ)) (r:RS) (M:RS)
  (hm:71≤c.nv) (h4:4≤nv) (hst:∀i,i<4→(σ.ag ρ).iv i=ρ.iv i) (hpre:pre (σ.ag ρ)) (hr:aa (σ.ag ρ) 0 4=r)
  (ZV:∀e:Env,YZ (bf σ c.nv nv ρ (ρ.join nv e))→aa (bf σ c.nv nv ρ (ρ.join nv e)) 0 4=r→bH (bf σ c.nv nv ρ (ρ.join nv e)) c.nv∧aa (bf σ c.nv nv ρ (ρ.join nv e)) 0 c.nv=M) (K:Env→Prop)
  (hK:∀e,bH (ρ.join nv e) nv→aa (ρ.join nv e) 0 nv=M→K (ρ.join nv e)) (h:∀q,K q→Sat post cs Γ q k):Sat post cs Γ ρ (.call g σ nv k):=by
 refine Sat.iH hg hpre K (fun e hq=>?_) h
 have hs:∀i,i<4→(σ.ag ρ).iv i=(ρ.join nv e).iv i:=fun i hi=>by
  rw [hst i hi]
  exact (if_pos (show i<nv by omega)).symm
 obtain ⟨a,b⟩:=ZV e hq ((Lp hm).trans hr)
 rw [Jo] at a
 rw [Lr hm hs] at b
 exact hK e a b
end
theorem aj {ρ:Env} {b:Nat} (h1:ρ.iv (b+1)=0) (h2:ρ.iv (b+2)=0):bF ρ b:=by
 refine ⟨fun _=>h1,?_,?_,?_⟩ <;> omega
end Go.Proofs.YthomdlajobnmnaaGreatDoor
namespace Go.Proofs.YthomdlajobnmnaaGreatDoor.Sv
open Go.Rex
structure ui where
 slot:Int
 gen:Int
 tag:Int
 num:Int
 mark:Bool
 jO:Int
 kv:Int
 deriving DecidableEq
def bq (ρ:Env) (r i:Nat):ui:=⟨ρ.ic r i 0 0,ρ.ic r i 0 1,ρ.ic r i 0 2,ρ.ic r i 0 3,ρ.bc r i 0 4,ρ.ic r i 0 5,ρ.ic r i 0 6⟩
def notes (ρ:Env) (b:Nat):List ui:=(List.range (ρ.iv (b+1)).toNat).map (bq ρ (b+3))
theorem sV {α:Type} {f g:Nat→α} {n:Nat} (h:∀i,i<n→f i=g i):(List.range n).map f=(List.range n).map g :=
 List.map_congr_left fun i hi=>h i (List.mem_range.1 hi)
theorem jT (ρ:Env) (b:Nat):(notes ρ b).length=(ρ.iv (b+1)).toNat:=by simp [notes]
theorem jD {ρ ρ':Env} {b b':Nat} {x:ui} (h0:0≤ρ.iv (b+1)) (h1:ρ'.iv (b'+1)=ρ.iv (b+1)+1) (h2:∀i,i<(ρ.iv (b+1)).toNat→bq ρ' (b'+3) i=bq ρ (b+3) i)
  (h3:bq ρ' (b'+3) (ρ.iv (b+1)).toNat=x):notes ρ' b'=notes ρ b ++ [x]:=by
 unfold notes
 rw [h1,show (ρ.iv (b+1)+1).toNat=(ρ.iv (b+1)).toNat+1 by omega,List.range_succ,List.map_append,sV h2,List.map_cons,List.map_nil,h3]
theorem eD {ρ ρ':Env} {b b':Nat} (h1:ρ'.iv (b'+1)=ρ.iv (b+1)) (h2:∀i,i<(ρ.iv (b+1)).toNat→bq ρ' (b'+3) i=bq ρ (b+3) i):notes ρ' b'=notes ρ b:=by
 unfold notes
 rw [h1,sV h2]
theorem qE {ρ:Env} {b:Nat} {i:Nat} (h:i<(ρ.iv (b+1)).toNat):(notes ρ b).take (i+1)=(notes ρ b).take i ++ [bq ρ (b+3) i]:=by
 have hl:i<(notes ρ b).length:=by rw [jT];exact h
 rw [List.take_succ_eq_append_getElem hl]
 simp [notes]
theorem qF (ρ:Env) (b:Nat) {n:Nat} (h:(ρ.iv (b+1)).toNat≤n):(notes ρ b).take n=notes ρ b:=List.take_of_length_le (by rw [jT];exact h)
def jU (ρ:Env) (b:Nat):List Int:=(List.range (ρ.iv (b+1)).toNat).map fun j=>ρ.ic (b+3) j 0 0
def uj (ρ:Env) (b:Nat):List (Bool × Int × Int):=(List.range (ρ.iv (b+1)).toNat).map fun j=>(ρ.bc (b+3) j 0 0,ρ.ic (b+3) j 0 1,ρ.ic (b+3) j 0 2)
def pE (l:List Int) (n:ui):Bool:=l.any fun s=>decide (s=n.slot)
def l9 (l:List Int) (n:ui):Bool:=l.any fun e=>decide ((0<e∧n.jO≤e)∧e≤n.kv)
def pF (l:List (Bool × Int × Int)) (n:ui):Bool:=l.any fun s=>decide ((s.1=true∧s.2.1≤n.kv)∧n.jO≤s.2.2)
def pG (now:Int) (n:ui):Bool:=decide (now < -9223372036854775806∨now-2<n.kv)
noncomputable def Py:Ex:={sched:=sched,loops:=[M6,Xu],fin:=ko}
def BA:Out :=
 .ob (.or (.not (.var 0)) (.aB (.var 1) (.lit 0))) <|
 .ob (.aA (.lit 0) (.var 1)) <|
 .loop 8 {lo:=8,az:=3,iv:=[(16,.lit 0),(14,.lit 0),(13,.lit 0),(10,.lit 0),(9,.lit 0)],bv:=[(12,.lit true),(8,.lit true)],nb:=[4,3]} <|
 .br (.bR (.var 16) (.var 1))
 (.ob (.not (.var 0)) <|
  .ob (.aA (.lit 0) (.var 16)) <|
  .ob (.or (.not (.var 4)) (.aB (.var 5) (.lit 0))) <|
  .ob (.aA (.lit 0) (.var 5)) <|
  .loop 17 {lo:=17,az:=7,iv:=[(17,.lit 0)]} <|
  .br (.bR (.var 17) (.var 5))
  (.ob (.not (.var 4)) <|
   .ob (.aA (.lit 0) (.var 17)) <|
   .br (.aB (.cell 7 (.var 17) (.lit 0) 0) (.cell 3 (.var 16) (.lit 0) 0))
   (.ob (.aA (.mul (.add (.var 13) (.lit 1)) (.lit 56)) (.lit 140737488355328)) <|
    .ob (.aA (.lit 0) (.var 13)) <|
    .ob (.aA (.var 13) (.var 14)) <|
    .ob (.aA (.var 14) (.lit 9223372036854775807)) <|
    .ob (.or (.not (.var 12)) (.aB (.var 13) (.lit 0))) <|
    .new 18 [.be (.and (.aA (.add (.var 13) (.lit 1)) (.var 18)) (.aA (.var 18) (.lit 9223372036854775807)))] <|
    .ob (.inr .i64 (.add (.var 16) (.lit 1))) <|
    .back 1 {lo:=8,az:=3,iv:=[(16,.add (.var 16) (.lit 1)),(14,yv 18),(13,.add (.var 13) (.lit 1)),(10,yv 10),(9,yv 9)],bv:=[(12,.lit false),(8,yw 8)],ct:=[(15,.up {r:=15,n1:=.add (.var 13) (.lit 1),s1:=7,ks:=yN} 0 [⟨0,(.var 13),(.lit 0),0,.int .i64 (.cell 3 (.var 16) (.lit 0) 0)⟩,⟨0,(.var 13),(.lit 0),1,.int .i64 (.cell 3 (.var 16) (.lit 0) 1)⟩,⟨0,(.var 13),(.lit 0),2,.int .i64 (.cell 3 (.var 16) (.lit 0) 2)⟩,⟨0,(.var 13),(.lit 0),3,.int .i64 (.cell 3 (.var 16) (.lit 0) 3)⟩,⟨0,(.var 13),(.lit 0),4,.bool (.cell 3 (.var 16) (.lit 0) 4)⟩,⟨0,(.var 13),(.lit 0),5,.int .i64 (.cell 3 (.var 16) (.lit 0) 5)⟩,⟨0,(.var 13),(.lit 0),6,.int .i64 (.cell 3 (.var 16) (.lit 0) 6)⟩] (.lit 0)),(11,yu 11 9 7 yN 0)],bk:=[(4,yc 9 7),(3,yc 3 7)]})
   (.ob (.inr .i64 (.add (.var 17) (.lit 1))) <|
    .back 0 {lo:=17,az:=7,iv:=[(17,.add (.var 17) (.lit 1))]}))
  (.ob (.aA (.mul (.add (.var 9) (.lit 1)) (.lit 56)) (.lit 140737488355328)) <|
   .ob (.aA (.lit 0) (.var 9)) <|
   .ob (.aA (.var 9) (.var 10)) <|
   .ob (.aA (.var 10) (.lit 9223372036854775807)) <|
   .ob (.or (.not (.var 8)) (.aB (.var 9) (.lit 0))) <|
   .new 18 [.be (.and (.aA (.add (.var 9) (.lit 1)) (.var 18)) (.aA (.var 18) (.lit 9223372036854775807)))] <|
   .ob (.inr .i64 (.add (.var 16) (.lit 1))) <|
   .back 1 {lo:=8,az:=3,iv:=[(16,.add (.var 16) (.lit 1)),(14,yv 14),(13,yv 13),(10,yv 18),(9,.add (.var 9) (.lit 1))],bv:=[(12,yw 12),(8,.lit false)],ct:=[(15,yu 15 13 7 yN 0),(11,.up {r:=11,n1:=.add (.var 9) (.lit 1),s1:=7,ks:=yN} 0 [⟨0,(.var 9),(.lit 0),0,.int .i64 (.cell 3 (.var 16) (.lit 0) 0)⟩,⟨0,(.var 9),(.lit 0),1,.int .i64 (.cell 3 (.var 16) (.lit 0) 1)⟩,⟨0,(.var 9),(.lit 0),2,.int .i64 (.cell 3 (.var 16) (.lit 0) 2)⟩,⟨0,(.var 9),(.lit 0),3,.int .i64 (.cell 3 (.var 16) (.lit 0) 3)⟩,⟨0,(.var 9),(.lit 0),4,.bool (.cell 3 (.var 16) (.lit 0) 4)⟩,⟨0,(.var 9),(.lit 0),5,.int .i64 (.cell 3 (.var 16) (.lit 0) 5)⟩,⟨0,(.var 9),(.lit 0),6,.int .i64 (.cell 3 (.var 16) (.lit 0) 6)⟩] (.lit 0))],bk:=[(4,yc 4 7),(3,yc 8 7)]}))
 (.fin {lo:=8,az:=2,iv:=[(14,yv 14),(13,yv 13),(10,yv 10),(9,yv 9)],bv:=[(12,yw 12),(8,yw 8)],ct:=[(15,yu 15 13 7 yN 0),(11,yu 11 9 7 yN 0)],bk:=[(3,yc 4 7),(2,yc 3 7)]})
theorem Pz:exec tab Py 4000 [] (eG ko.f 8 [] [] ko.hp ko.args)=BA:=by kernel_rfl
def wJ (ρ:Env) (i j:Nat):Prop:=ρ.ic 7 j 0 0=ρ.ic 3 i 0 0
def lL (ρ:Env):Prop:=bF ρ 0∧ρ.iv 1≤1000000∧bF ρ 4∧ρ.iv 5≤1000000
def Gg (ρ:Env):Prop:=bF ρ 8∧notes ρ 8=(notes ρ 0).filter (fun n=>!pE (jU ρ 4) n)∧bF ρ 12∧notes ρ 12=(notes ρ 0).filter (pE (jU ρ 4))
def rO (ρ:Env):Prop:=(0≤ρ.iv 16∧ρ.iv 16≤ρ.iv 1)∧(bF ρ 8∧notes ρ 8=((notes ρ 0).take (ρ.iv 16).toNat).filter (fun n=>!pE (jU ρ 4) n))∧bF ρ 12∧notes ρ 12=((notes ρ 0).take (ρ.iv 16).toNat).filter (pE (jU ρ 4))
def EK (ρ:Env):Prop:=(0≤ρ.iv 17∧ρ.iv 17≤ρ.iv 5)∧∀j:Nat,(j:Int)<ρ.iv 17→¬wJ ρ (ρ.iv 16).toNat j
def oZ (ρ:Env):Prop:=lL ρ∧rO ρ∧ρ.iv 16<ρ.iv 1
theorem oZ.lens {ρ:Env} (h:oZ ρ):ρ.iv 9≤ρ.iv 16∧ρ.iv 13≤ρ.iv 16:=by
 obtain ⟨⟨a1,a5,b1,b5⟩,⟨⟨i1,i2⟩,⟨⟨o1,o2,o3,o4⟩,n1⟩,⟨⟨p1,p2,p3,p4⟩,n2⟩⟩,hlt⟩:=h
 have l1:(notes ρ 8).length≤(ρ.iv 16).toNat:=by
  rw [n1];refine Nat.le_trans (List.length_filter_le _ _) ?_;rw [List.length_take];omega
 have l2:(notes ρ 12).length≤(ρ.iv 16).toNat:=by
  rw [n2];refine Nat.le_trans (List.length_filter_le _ _) ?_;rw [List.length_take];omega
 rw [jT] at l1 l2
 simp only [Nat.reduceAdd] at *
 omega
theorem oZ.take {ρ:Env} (h:oZ ρ):(notes ρ 0).take (ρ.iv 16+1).toNat=(notes ρ 0).take (ρ.iv 16).toNat ++ [bq ρ 3 (ρ.iv 16).toNat]:=by
 obtain ⟨_,⟨⟨i1,i2⟩,_⟩,hlt⟩:=h
 rw [show (ρ.iv 16+1).toNat=(ρ.iv 16).toNat+1 by omega]
 exact qE (b:=0) (by simp only [Nat.zero_add];omega)
theorem PD (ρ:Env) (hpre:lL ρ.num):Sat Gg [] [] ρ BA:=by
 replace hpre:lL ρ:=hpre
 unfold BA
 refine Sat.ob (aL hpre.1) (Sat.ob (decide_eq_true hpre.1.2.1) (Sat.loop rO (fun r=>(r.iv 1-r.iv 16).toNat) ?_ fun e hI=>Sat.br (fun hlt=>?_) (fun hge=>?_)))
 ·have h2:=hpre.1.2.1
  simp [rO,bF,notes,Sub.ag,assoc,CV.I,CV.B,ah,ai,ae.I,ae.B,SC.I,SC.B,IE.den,BE.den,h2]
 ·replace hpre:lL (ρ.join 8 e):=hpre
  replace hI:rO (ρ.join 8 e):=hI
  replace hlt:(ρ.join 8 e).iv 16<(ρ.join 8 e).iv 1:=of_decide_eq_true hlt
  have hat:oZ (ρ.join 8 e):=⟨hpre,hI,hlt⟩
  clear hpre hI hlt
  have hm:((ρ.join 8 e).num.iv 1-(ρ.join 8 e).num.iv 16).toNat=((ρ.join 8 e).iv 1-(ρ.join 8 e).iv 16).toNat:=rfl
  rw [hm]
  clear hm
  generalize ρ.join 8 e=r at *
  have hpre:=hat.1
  obtain ⟨⟨i1,i2⟩,-⟩:=hat.2.1
  have hlt:=hat.2.2
  obtain ⟨l1,l2⟩:=hat.lens
  refine Sat.ob ?_ (Sat.ob (decide_eq_true i1) (Sat.ob (aL hpre.2.2.1) (Sat.ob (decide_eq_true hpre.2.2.1.2.1) (Sat.loop EK (fun r=>(r.iv 5-r.iv 17).toNat) ?_ fun e2 hI2=>Sat.br (fun hlt2=>?_) (fun zb=>?_)))))
  ·simp only [D.le,D.fP,D.lt,D.fQ,D.eq,D.fT,D.not,D.dM,D.and,D.dN,D.or,D.fU,D.inr,D.var,D.lit,D.cz,D.beq,D.dO,D.dP,D.dQ,D.add,D.sub,D.mul,D.min,D.max,D.cB,D.bO,D.bP]
   cases h:r.bv 0
   ·rfl
   ·have:=hpre.1.1 h
    simp only [Nat.zero_add] at this
    omega
  ·refine ⟨⟨Int.le_refl 0,hpre.2.2.1.2.1⟩,fun j hj=>?_⟩
   have:(j:Int)<0:=hj
   omega
  ·replace hI2:EK (r.join 17 e2):=hI2
   replace hat:oZ (r.join 17 e2):=hat
   replace hlt2:(r.join 17 e2).iv 17<(r.join 17 e2).iv 5:=of_decide_eq_true hlt2
   rw [show (r.iv 1-r.iv 16).toNat=((r.join 17 e2).iv 1-(r.join 17 e2).iv 16).toNat from rfl]
   rw [show ((r.join 17 e2).num.iv 5-(r.join 17 e2).num.iv 17).toNat=((r.join 17 e2).iv 5-(r.join 17 e2).iv 17).toNat from rfl]
   clear hpre hlt l1 l2 i1 i2
   generalize r.join 17 e2=q at *
   have hpre:=hat.1
   obtain ⟨⟨i1,i2⟩,-⟩:=hat.2.1
   have hlt:=hat.2.2
   obtain ⟨l1,l2⟩:=hat.lens
   obtain ⟨⟨j1,j2⟩,j3⟩:=hI2
   refine Sat.ob ?_ (Sat.ob (decide_eq_true j1) (Sat.br (fun heq=>?_) (fun hne=>?_)))
   ·simp only [D.le,D.fP,D.lt,D.fQ,D.eq,D.fT,D.not,D.dM,D.and,D.dN,D.or,D.fU,D.inr,D.var,D.lit,D.cz,D.beq,D.dO,D.dP,D.dQ,D.add,D.sub,D.mul,D.min,D.max,D.cB,D.bO,D.bP]
    cases h:q.bv 4
    ·rfl
    ·have:=hpre.2.2.1.1 h
     simp only [Nat.reduceAdd] at this
     omega
   ·replace heq:wJ q (q.iv 16).toNat (q.iv 17).toNat:=by simp only [D.le,D.fP,D.lt,D.fQ,D.eq,D.fT,D.not,D.dM,D.and,D.dN,D.or,D.fU,D.inr,D.var,D.lit,D.cz,D.beq,D.dO,D.dP,D.dQ,D.add,D.sub,D.mul,D.min,D.max,D.cB,D.bO,D.bP] at heq;exact heq
    have hk:pE (jU q 4) (bq q 3 (q.iv 16).toNat)=true:=by
     refine List.any_eq_true.2 ⟨_,List.mem_map.2 ⟨(q.iv 17).toNat,List.mem_range.2 (by simp only [Nat.reduceAdd];omega),rfl⟩,decide_eq_true heq⟩
    obtain ⟨⟨o1,o2,o3,o4⟩,n1⟩:=hat.2.1.2.1
    obtain ⟨⟨p1,p2,p3,p4⟩,n2⟩:=hat.2.1.2.2
    have htk:=hat.take
    obtain ⟨_,a5,_,b5⟩:=hpre
    simp only [Nat.reduceAdd] at *
    refine Sat.ob ?_ (Sat.ob (decide_eq_true p2) (Sat.ob (decide_eq_true p3) (Sat.ob (decide_eq_true p4) (Sat.ob (aL hat.2.1.2.2.1) (Sat.new fun e3 hf=>Sat.ob ?_ (Sat.back rfl ⟨?_,?_⟩))))))
    ·simp only [D.le,D.fP,D.lt,D.fQ,D.eq,D.fT,D.not,D.dM,D.and,D.dN,D.or,D.fU,D.inr,D.var,D.lit,D.cz,D.beq,D.dO,D.dP,D.dQ,D.add,D.sub,D.mul,D.min,D.max,D.cB,D.bO,D.bP];omega
    ·simp only [D.le,D.fP,D.lt,D.fQ,D.eq,D.fT,D.not,D.dM,D.and,D.dN,D.or,D.fU,D.inr,D.var,D.lit,D.cz,D.beq,D.dO,D.dP,D.dQ,D.add,D.sub,D.mul,D.min,D.max,D.cB,D.bO,D.bP];simp [Env.join];omega
    ·have hf:=hf _ (List.mem_singleton.2 rfl)
     simp only [D.be,D.le,D.fP,D.lt,D.fQ,D.eq,D.fT,D.not,D.dM,D.and,D.dN,D.or,D.fU,D.inr,D.var,D.lit,D.cz,D.beq,D.dO,D.dP,D.dQ,D.add,D.sub,D.mul,D.min,D.max,D.cB,D.bO,D.bP] at hf
     simp [Env.join] at hf
     refine ⟨⟨by simp [Sub.ag,assoc,CV.I,CV.B,ah,ai,ae.I,ae.B,SC.I,SC.B,IE.den,BE.den,Env.join];omega,by simp [Sub.ag,assoc,CV.I,CV.B,ah,ai,ae.I,ae.B,SC.I,SC.B,IE.den,BE.den,Env.join];omega⟩,⟨⟨o1,o2,o3,o4⟩,?_⟩,⟨?_,?_⟩⟩
     ·refine Eq.trans (b:=notes q 8) (by exact eD rfl fun i _=>by simp [bq,Sub.ag,assoc,CV.I,CV.B,ah,ai,ae.I,ae.B,SC.I,SC.B,IE.den,BE.den,Env.join]) ?_
      show notes q 8=((notes q 0).take (q.iv 16+1).toNat).filter (fun n=>!pE (jU q 4) n)
      rw [htk,List.filter_append,n1]
      simp [hk]
     ·simp [bF,Sub.ag,assoc,CV.I,CV.B,ah,ai,ae.I,ae.B,SC.I,SC.B,IE.den,BE.den,Env.join]
      omega
     ·refine (jD (ρ:=q) (b:=12) (x:=bq q 3 (q.iv 16).toNat) p2 rfl (fun i hi=>?_) ?_).trans ?_
      ·have:¬(q.iv 13).toNat=i:=by simp only [Nat.reduceAdd] at hi;omega
       simp [bq,Sub.ag,assoc,CV.I,CV.B,ah,ai,ae.I,ae.B,SC.I,SC.B,IE.den,BE.den,Env.join,this]
      ·simp [bq,Sub.ag,assoc,CV.I,CV.B,ah,ai,ae.I,ae.B,SC.I,SC.B,IE.den,BE.den,Env.join]
      ·show notes q 12 ++ _=((notes q 0).take (q.iv 16+1).toNat).filter (pE (jU q 4))
       rw [htk,List.filter_append,n2]
       simp [hk]
    ·show (q.iv 1-(q.iv 16+1)).toNat<(q.iv 1-q.iv 16).toNat
     omega
   ·replace hne:¬wJ q (q.iv 16).toNat (q.iv 17).toNat:=fun h=>by
     exact Bool.false_ne_true (hne.symm.trans (by simp only [D.le,D.fP,D.lt,D.fQ,D.eq,D.fT,D.not,D.dM,D.and,D.dN,D.or,D.fU,D.inr,D.var,D.lit,D.cz,D.beq,D.dO,D.dP,D.dQ,D.add,D.sub,D.mul,D.min,D.max,D.cB,D.bO,D.bP];exact h))
    refine Sat.ob ?_ (Sat.back rfl ⟨⟨⟨?_,?_⟩,fun j hj=>?_⟩,?_⟩)
    ·simp only [D.le,D.fP,D.lt,D.fQ,D.eq,D.fT,D.not,D.dM,D.and,D.dN,D.or,D.fU,D.inr,D.var,D.lit,D.cz,D.beq,D.dO,D.dP,D.dQ,D.add,D.sub,D.mul,D.min,D.max,D.cB,D.bO,D.bP];have:=hpre.2.2.2;omega
    ·show 0≤q.iv 17+1;omega
    ·show q.iv 17+1≤q.iv 5;omega
    ·replace hj:(j:Int)<q.iv 17+1:=hj
     show ¬wJ q (q.iv 16).toNat j
     by_cases h:j=(q.iv 17).toNat
     ·subst h;exact hne
     ·exact j3 j (by omega)
    ·show (q.iv 5-(q.iv 17+1)).toNat<(q.iv 5-q.iv 17).toNat
     omega
  ·replace hI2:EK (r.join 17 e2):=hI2
   replace hat:oZ (r.join 17 e2):=hat
   replace zb:¬(r.join 17 e2).iv 17<(r.join 17 e2).iv 5:=of_decide_eq_false zb
   rw [show (r.iv 1-r.iv 16).toNat=((r.join 17 e2).iv 1-(r.join 17 e2).iv 16).toNat from rfl]
   clear hpre hlt l1 l2 i1 i2
   generalize r.join 17 e2=q at *
   have hpre:=hat.1
   obtain ⟨⟨i1,i2⟩,-⟩:=hat.2.1
   have hlt:=hat.2.2
   obtain ⟨l1,l2⟩:=hat.lens
   obtain ⟨⟨j1,j2⟩,j3⟩:=hI2
   have hk:pE (jU q 4) (bq q 3 (q.iv 16).toNat)=false:=by
    refine List.any_eq_false.2 fun x hx=>?_
    obtain ⟨j,hj,rfl⟩:=List.mem_map.1 hx
    have hj:=List.mem_range.1 hj
    simp only [Nat.reduceAdd] at hj
    exact ne_true_of_eq_false (decide_eq_false (j3 j (by omega)))
   obtain ⟨⟨o1,o2,o3,o4⟩,n1⟩:=hat.2.1.2.1
   obtain ⟨⟨p1,p2,p3,p4⟩,n2⟩:=hat.2.1.2.2
   have htk:=hat.take
   obtain ⟨_,a5,_,b5⟩:=hpre
   simp only [Nat.reduceAdd] at *
   refine Sat.ob ?_ (Sat.ob (decide_eq_true o2) (Sat.ob (decide_eq_true o3) (Sat.ob (decide_eq_true o4) (Sat.ob (aL hat.2.1.2.1.1) (Sat.new fun e3 hf=>Sat.ob ?_ (Sat.back rfl ⟨?_,?_⟩))))))
   ·simp only [D.le,D.fP,D.lt,D.fQ,D.eq,D.fT,D.not,D.dM,D.and,D.dN,D.or,D.fU,D.inr,D.var,D.lit,D.cz,D.beq,D.dO,D.dP,D.dQ,D.add,D.sub,D.mul,D.min,D.max,D.cB,D.bO,D.bP];omega
   ·simp only [D.le,D.fP,D.lt,D.fQ,D.eq,D.fT,D.not,D.dM,D.and,D.dN,D.or,D.fU,D.inr,D.var,D.lit,D.cz,D.beq,D.dO,D.dP,D.dQ,D.add,D.sub,D.mul,D.min,D.max,D.cB,D.bO,D.bP];simp [Env.join];omega
   ·have hf:=hf _ (List.mem_singleton.2 rfl)
    simp only [D.be,D.le,D.fP,D.lt,D.fQ,D.eq,D.fT,D.not,D.dM,D.and,D.dN,D.or,D.fU,D.inr,D.var,D.lit,D.cz,D.beq,D.dO,D.dP,D.dQ,D.add,D.sub,D.mul,D.min,D.max,D.cB,D.bO,D.bP] at hf
    simp [Env.join] at hf
    refine ⟨⟨by simp [Sub.ag,assoc,CV.I,CV.B,ah,ai,ae.I,ae.B,SC.I,SC.B,IE.den,BE.den,Env.join];omega,by simp [Sub.ag,assoc,CV.I,CV.B,ah,ai,ae.I,ae.B,SC.I,SC.B,IE.den,BE.den,Env.join];omega⟩,⟨?_,?_⟩,⟨⟨p1,p2,p3,p4⟩,?_⟩⟩
    ·simp [bF,Sub.ag,assoc,CV.I,CV.B,ah,ai,ae.I,ae.B,SC.I,SC.B,IE.den,BE.den,Env.join]
     omega
    ·refine (jD (ρ:=q) (b:=8) (x:=bq q 3 (q.iv 16).toNat) o2 rfl (fun i hi=>?_) ?_).trans ?_
     ·have:¬(q.iv 9).toNat=i:=by simp only [Nat.reduceAdd] at hi;omega
      simp [bq,Sub.ag,assoc,CV.I,CV.B,ah,ai,ae.I,ae.B,SC.I,SC.B,IE.den,BE.den,Env.join,this]
     ·simp [bq,Sub.ag,assoc,CV.I,CV.B,ah,ai,ae.I,ae.B,SC.I,SC.B,IE.den,BE.den,Env.join]
     ·show notes q 8 ++ _=((notes q 0).take (q.iv 16+1).toNat).filter (fun n=>!pE (jU q 4) n)
      rw [htk,List.filter_append,n1]
      simp [hk]
    ·refine Eq.trans (b:=notes q 12) (by exact eD rfl fun i _=>by simp [bq,Sub.ag,assoc,CV.I,CV.B,ah,ai,ae.I,ae.B,SC.I,SC.B,IE.den,BE.den,Env.join]) ?_
     show notes q 12=((notes q 0).take (q.iv 16+1).toNat).filter (pE (jU q 4))
     rw [htk,List.filter_append,n2]
     simp [hk]
   ·show (q.iv 1-(q.iv 16+1)).toNat<(q.iv 1-q.iv 16).toNat
    omega
 ·replace hpre:lL (ρ.join 8 e):=hpre
  replace hI:rO (ρ.join 8 e):=hI
  replace hge:¬(ρ.join 8 e).iv 16<(ρ.join 8 e).iv 1:=of_decide_eq_false hge
  generalize ρ.join 8 e=q at *
  obtain ⟨⟨i1,i2⟩,⟨o,n1⟩,⟨p,n2⟩⟩:=hI
  rw [qF _ _ (by simp only [Nat.zero_add];omega)] at n1 n2
  refine Sat.fin ⟨o,?_,p,?_⟩
  ·exact Eq.trans (b:=notes q 8) (by exact eD rfl fun i _=>by simp [bq,Sub.ag,assoc,CV.I,CV.B,ah,ai,ae.I,ae.B,SC.I,SC.B,IE.den,BE.den,Env.join]) n1
  ·exact Eq.trans (b:=notes q 12) (by exact eD rfl fun i _=>by simp [bq,Sub.ag,assoc,CV.I,CV.B,ah,ai,ae.I,ae.B,SC.I,SC.B,IE.den,BE.den,Env.join]) n2
theorem PE:aY Tryz.prog ko lL Gg :=
 cZ dD (E:=Py) (cs:=[]) rfl (fun k pre post h=>by cases h) bS rfl Pz (by kernel_rfl) (fun ρ _ p hp=>by cases hp) PD
noncomputable def Um:Ex:={sched:=sched,loops:=[M6,Yu],fin:=l8}
def EL:Out :=
 .ob (.or (.not (.var 0)) (.aB (.var 1) (.lit 0))) <|
 .ob (.aA (.lit 0) (.var 1)) <|
 .loop 8 {lo:=8,az:=3,iv:=[(16,.lit 0),(14,.lit 0),(13,.lit 0),(10,.lit 0),(9,.lit 0)],bv:=[(12,.lit true),(8,.lit true)],nb:=[4,3]} <|
 .br (.bR (.var 16) (.var 1))
 (.ob (.not (.var 0)) <|
  .ob (.aA (.lit 0) (.var 16)) <|
  .ob (.or (.not (.var 4)) (.aB (.var 5) (.lit 0))) <|
  .ob (.aA (.lit 0) (.var 5)) <|
  .loop 17 {lo:=17,az:=7,iv:=[(17,.lit 0)]} <|
  .br (.bR (.var 17) (.var 5))
  (.ob (.not (.var 4)) <|
   .ob (.aA (.lit 0) (.var 17)) <|
   .br (.and (.and (.bR (.lit 0) (.cell 7 (.var 17) (.lit 0) 0)) (.aA (.cell 3 (.var 16) (.lit 0) 5) (.cell 7 (.var 17) (.lit 0) 0))) (.aA (.cell 7 (.var 17) (.lit 0) 0) (.cell 3 (.var 16) (.lit 0) 6)))
   (.ob (.aA (.mul (.add (.var 13) (.lit 1)) (.lit 56)) (.lit 140737488355328)) <|
    .ob (.aA (.lit 0) (.var 13)) <|
    .ob (.aA (.var 13) (.var 14)) <|
    .ob (.aA (.var 14) (.lit 9223372036854775807)) <|
    .ob (.or (.not (.var 12)) (.aB (.var 13) (.lit 0))) <|
    .new 18 [.be (.and (.aA (.add (.var 13) (.lit 1)) (.var 18)) (.aA (.var 18) (.lit 9223372036854775807)))] <|
    .ob (.inr .i64 (.add (.var 16) (.lit 1))) <|
    .back 1 {lo:=8,az:=3,iv:=[(16,.add (.var 16) (.lit 1)),(14,yv 18),(13,.add (.var 13) (.lit 1)),(10,yv 10),(9,yv 9)],bv:=[(12,.lit false),(8,yw 8)],ct:=[(15,.up {r:=15,n1:=.add (.var 13) (.lit 1),s1:=7,ks:=yN} 0 [⟨0,(.var 13),(.lit 0),0,.int .i64 (.cell 3 (.var 16) (.lit 0) 0)⟩,⟨0,(.var 13),(.lit 0),1,.int .i64 (.cell 3 (.var 16) (.lit 0) 1)⟩,⟨0,(.var 13),(.lit 0),2,.int .i64 (.cell 3 (.var 16) (.lit 0) 2)⟩,⟨0,(.var 13),(.lit 0),3,.int .i64 (.cell 3 (.var 16) (.lit 0) 3)⟩,⟨0,(.var 13),(.lit 0),4,.bool (.cell 3 (.var 16) (.lit 0) 4)⟩,⟨0,(.var 13),(.lit 0),5,.int .i64 (.cell 3 (.var 16) (.lit 0) 5)⟩,⟨0,(.var 13),(.lit 0),6,.int .i64 (.cell 3 (.var 16) (.lit 0) 6)⟩] (.lit 0)),(11,yu 11 9 7 yN 0)],bk:=[(4,yc 8 7),(3,yc 3 7)]})
   (.ob (.inr .i64 (.add (.var 17) (.lit 1))) <|
    .back 0 {lo:=17,az:=7,iv:=[(17,.add (.var 17) (.lit 1))]}))
  (.ob (.aA (.mul (.add (.var 9) (.lit 1)) (.lit 56)) (.lit 140737488355328)) <|
   .ob (.aA (.lit 0) (.var 9)) <|
   .ob (.aA (.var 9) (.var 10)) <|
   .ob (.aA (.var 10) (.lit 9223372036854775807)) <|
   .ob (.or (.not (.var 8)) (.aB (.var 9) (.lit 0))) <|
   .new 18 [.be (.and (.aA (.add (.var 9) (.lit 1)) (.var 18)) (.aA (.var 18) (.lit 9223372036854775807)))] <|
   .ob (.inr .i64 (.add (.var 16) (.lit 1))) <|
   .back 1 {lo:=8,az:=3,iv:=[(16,.add (.var 16) (.lit 1)),(14,yv 14),(13,yv 13),(10,yv 18),(9,.add (.var 9) (.lit 1))],bv:=[(12,yw 12),(8,.lit false)],ct:=[(15,yu 15 13 7 yN 0),(11,.up {r:=11,n1:=.add (.var 9) (.lit 1),s1:=7,ks:=yN} 0 [⟨0,(.var 9),(.lit 0),0,.int .i64 (.cell 3 (.var 16) (.lit 0) 0)⟩,⟨0,(.var 9),(.lit 0),1,.int .i64 (.cell 3 (.var 16) (.lit 0) 1)⟩,⟨0,(.var 9),(.lit 0),2,.int .i64 (.cell 3 (.var 16) (.lit 0) 2)⟩,⟨0,(.var 9),(.lit 0),3,.int .i64 (.cell 3 (.var 16) (.lit 0) 3)⟩,⟨0,(.var 9),(.lit 0),4,.bool (.cell 3 (.var 16) (.lit 0) 4)⟩,⟨0,(.var 9),(.lit 0),5,.int .i64 (.cell 3 (.var 16) (.lit 0) 5)⟩,⟨0,(.var 9),(.lit 0),6,.int .i64 (.cell 3 (.var 16) (.lit 0) 6)⟩] (.lit 0))],bk:=[(4,yc 4 7),(3,yc 8 7)]}))
 (.fin {lo:=8,az:=2,iv:=[(14,yv 14),(13,yv 13),(10,yv 10),(9,yv 9)],bv:=[(12,yw 12),(8,yw 8)],ct:=[(15,yu 15 13 7 yN 0),(11,yu 11 9 7 yN 0)],bk:=[(3,yc 4 7),(2,yc 3 7)]})
theorem RX:exec tab Um 4000 [] (eG l8.f 8 [] [] l8.hp l8.args)=EL:=by kernel_rfl
def zT (ρ:Env) (i j:Nat):Prop:=(0<ρ.ic 7 j 0 0∧ρ.ic 3 i 0 5≤ρ.ic 7 j 0 0)∧ρ.ic 7 j 0 0≤ρ.ic 3 i 0 6
def nK (ρ:Env):Prop:=bF ρ 0∧ρ.iv 1≤1000000∧bF ρ 4∧ρ.iv 5≤1000000
def Jp (ρ:Env):Prop:=bF ρ 8∧notes ρ 8=(notes ρ 0).filter (fun n=>!l9 (jU ρ 4) n)∧bF ρ 12∧notes ρ 12=(notes ρ 0).filter (l9 (jU ρ 4))
def uS (ρ:Env):Prop:=(0≤ρ.iv 16∧ρ.iv 16≤ρ.iv 1)∧(bF ρ 8∧notes ρ 8=((notes ρ 0).take (ρ.iv 16).toNat).filter (fun n=>!l9 (jU ρ 4) n))∧bF ρ 12∧notes ρ 12=((notes ρ 0).take (ρ.iv 16).toNat).filter (l9 (jU ρ 4))
def Jq (ρ:Env):Prop:=(0≤ρ.iv 17∧ρ.iv 17≤ρ.iv 5)∧∀j:Nat,(j:Int)<ρ.iv 17→¬zT ρ (ρ.iv 16).toNat j
def rP (ρ:Env):Prop:=nK ρ∧uS ρ∧ρ.iv 16<ρ.iv 1
theorem rP.lens {ρ:Env} (h:rP ρ):ρ.iv 9≤ρ.iv 16∧ρ.iv 13≤ρ.iv 16:=by
 obtain ⟨⟨a1,a5,b1,b5⟩,⟨⟨i1,i2⟩,⟨⟨o1,o2,o3,o4⟩,n1⟩,⟨⟨p1,p2,p3,p4⟩,n2⟩⟩,hlt⟩:=h
 have l1:(notes ρ 8).length≤(ρ.iv 16).toNat:=by
  rw [n1];refine Nat.le_trans (List.length_filter_le _ _) ?_;rw [List.length_take];omega
 have l2:(notes ρ 12).length≤(ρ.iv 16).toNat:=by
  rw [n2];refine Nat.le_trans (List.length_filter_le _ _) ?_;rw [List.length_take];omega
 rw [jT] at l1 l2
 simp only [Nat.reduceAdd] at *
 omega
theorem rP.take {ρ:Env} (h:rP ρ):(notes ρ 0).take (ρ.iv 16+1).toNat=(notes ρ 0).take (ρ.iv 16).toNat ++ [bq ρ 3 (ρ.iv 16).toNat]:=by
 obtain ⟨_,⟨⟨i1,i2⟩,_⟩,hlt⟩:=h
 rw [show (ρ.iv 16+1).toNat=(ρ.iv 16).toNat+1 by omega]
 exact qE (b:=0) (by simp only [Nat.zero_add];omega)
theorem RY (ρ:Env) (hpre:nK ρ.num):Sat Jp [] [] ρ EL:=by
 replace hpre:nK ρ:=hpre
 unfold EL
 refine Sat.ob (aL hpre.1) (Sat.ob (decide_eq_true hpre.1.2.1) (Sat.loop uS (fun r=>(r.iv 1-r.iv 16).toNat) ?_ fun e hI=>Sat.br (fun hlt=>?_) (fun hge=>?_)))
 ·have h2:=hpre.1.2.1
  simp [uS,bF,notes,Sub.ag,assoc,CV.I,CV.B,ah,ai,ae.I,ae.B,SC.I,SC.B,IE.den,BE.den,h2]
 ·replace hpre:nK (ρ.join 8 e):=hpre
  replace hI:uS (ρ.join 8 e):=hI
  replace hlt:(ρ.join 8 e).iv 16<(ρ.join 8 e).iv 1:=of_decide_eq_true hlt
  have hat:rP (ρ.join 8 e):=⟨hpre,hI,hlt⟩
  clear hpre hI hlt
  have hm:((ρ.join 8 e).num.iv 1-(ρ.join 8 e).num.iv 16).toNat=((ρ.join 8 e).iv 1-(ρ.join 8 e).iv 16).toNat:=rfl
  rw [hm]
  clear hm
  generalize ρ.join 8 e=r at *
  have hpre:=hat.1
  obtain ⟨⟨i1,i2⟩,-⟩:=hat.2.1
  have hlt:=hat.2.2
  obtain ⟨l1,l2⟩:=hat.lens
  refine Sat.ob ?_ (Sat.ob (decide_eq_true i1) (Sat.ob (aL hpre.2.2.1) (Sat.ob (decide_eq_true hpre.2.2.1.2.1) (Sat.loop Jq (fun r=>(r.iv 5-r.iv 17).toNat) ?_ fun e2 hI2=>Sat.br (fun hlt2=>?_) (fun zb=>?_)))))
  ·simp only [D.le,D.fP,D.lt,D.fQ,D.eq,D.fT,D.not,D.dM,D.and,D.dN,D.or,D.fU,D.inr,D.var,D.lit,D.cz,D.beq,D.dO,D.dP,D.dQ,D.add,D.sub,D.mul,D.min,D.max,D.cB,D.bO,D.bP]
   cases h:r.bv 0
   ·rfl
   ·have:=hpre.1.1 h
    simp only [Nat.zero_add] at this
    omega
  ·refine ⟨⟨Int.le_refl 0,hpre.2.2.1.2.1⟩,fun j hj=>?_⟩
   have:(j:Int)<0:=hj
   omega
  ·replace hI2:Jq (r.join 17 e2):=hI2
   replace hat:rP (r.join 17 e2):=hat
   replace hlt2:(r.join 17 e2).iv 17<(r.join 17 e2).iv 5:=of_decide_eq_true hlt2
   rw [show (r.iv 1-r.iv 16).toNat=((r.join 17 e2).iv 1-(r.join 17 e2).iv 16).toNat from rfl]
   rw [show ((r.join 17 e2).num.iv 5-(r.join 17 e2).num.iv 17).toNat=((r.join 17 e2).iv 5-(r.join 17 e2).iv 17).toNat from rfl]
   clear hpre hlt l1 l2 i1 i2
   generalize r.join 17 e2=q at *
   have hpre:=hat.1
   obtain ⟨⟨i1,i2⟩,-⟩:=hat.2.1
   have hlt:=hat.2.2
   obtain ⟨l1,l2⟩:=hat.lens
   obtain ⟨⟨j1,j2⟩,j3⟩:=hI2
   refine Sat.ob ?_ (Sat.ob (decide_eq_true j1) (Sat.br (fun heq=>?_) (fun hne=>?_)))
   ·simp only [D.le,D.fP,D.lt,D.fQ,D.eq,D.fT,D.not,D.dM,D.and,D.dN,D.or,D.fU,D.inr,D.var,D.lit,D.cz,D.beq,D.dO,D.dP,D.dQ,D.add,D.sub,D.mul,D.min,D.max,D.cB,D.bO,D.bP]
    cases h:q.bv 4
    ·rfl
    ·have:=hpre.2.2.1.1 h
     simp only [Nat.reduceAdd] at this
     omega
   ·replace heq:zT q (q.iv 16).toNat (q.iv 17).toNat:=by simp only [D.le,D.fP,D.lt,D.fQ,D.eq,D.fT,D.not,D.dM,D.and,D.dN,D.or,D.fU,D.inr,D.var,D.lit,D.cz,D.beq,D.dO,D.dP,D.dQ,D.add,D.sub,D.mul,D.min,D.max,D.cB,D.bO,D.bP] at heq;exact heq
    have hk:l9 (jU q 4) (bq q 3 (q.iv 16).toNat)=true:=by
     refine List.any_eq_true.2 ⟨_,List.mem_map.2 ⟨(q.iv 17).toNat,List.mem_range.2 (by simp only [Nat.reduceAdd];omega),rfl⟩,decide_eq_true heq⟩
    obtain ⟨⟨o1,o2,o3,o4⟩,n1⟩:=hat.2.1.2.1
    obtain ⟨⟨p1,p2,p3,p4⟩,n2⟩:=hat.2.1.2.2
    have htk:=hat.take
    obtain ⟨_,a5,_,b5⟩:=hpre
    simp only [Nat.reduceAdd] at *
    refine Sat.ob ?_ (Sat.ob (decide_eq_true p2) (Sat.ob (decide_eq_true p3) (Sat.ob (decide_eq_true p4) (Sat.ob (aL hat.2.1.2.2.1) (Sat.new fun e3 hf=>Sat.ob ?_ (Sat.back rfl ⟨?_,?_⟩))))))
    ·simp only [D.le,D.fP,D.lt,D.fQ,D.eq,D.fT,D.not,D.dM,D.and,D.dN,D.or,D.fU,D.inr,D.var,D.lit,D.cz,D.beq,D.dO,D.dP,D.dQ,D.add,D.sub,D.mul,D.min,D.max,D.cB,D.bO,D.bP];omega
    ·simp only [D.le,D.fP,D.lt,D.fQ,D.eq,D.fT,D.not,D.dM,D.and,D.dN,D.or,D.fU,D.inr,D.var,D.lit,D.cz,D.beq,D.dO,D.dP,D.dQ,D.add,D.sub,D.mul,D.min,D.max,D.cB,D.bO,D.bP];simp [Env.join];omega
    ·have hf:=hf _ (List.mem_singleton.2 rfl)
     simp only [D.be,D.le,D.fP,D.lt,D.fQ,D.eq,D.fT,D.not,D.dM,D.and,D.dN,D.or,D.fU,D.inr,D.var,D.lit,D.cz,D.beq,D.dO,D.dP,D.dQ,D.add,D.sub,D.mul,D.min,D.max,D.cB,D.bO,D.bP] at hf
     simp [Env.join] at hf
     refine ⟨⟨by simp [Sub.ag,assoc,CV.I,CV.B,ah,ai,ae.I,ae.B,SC.I,SC.B,IE.den,BE.den,Env.join];omega,by simp [Sub.ag,assoc,CV.I,CV.B,ah,ai,ae.I,ae.B,SC.I,SC.B,IE.den,BE.den,Env.join];omega⟩,⟨⟨o1,o2,o3,o4⟩,?_⟩,⟨?_,?_⟩⟩
     ·refine Eq.trans (b:=notes q 8) (by exact eD rfl fun i _=>by simp [bq,Sub.ag,assoc,CV.I,CV.B,ah,ai,ae.I,ae.B,SC.I,SC.B,IE.den,BE.den,Env.join]) ?_
      show notes q 8=((notes q 0).take (q.iv 16+1).toNat).filter (fun n=>!l9 (jU q 4) n)
      rw [htk,List.filter_append,n1]
      simp [hk]
     ·simp [bF,Sub.ag,assoc,CV.I,CV.B,ah,ai,ae.I,ae.B,SC.I,SC.B,IE.den,BE.den,Env.join]
      omega
     ·refine (jD (ρ:=q) (b:=12) (x:=bq q 3 (q.iv 16).toNat) p2 rfl (fun i hi=>?_) ?_).trans ?_
      ·have:¬(q.iv 13).toNat=i:=by simp only [Nat.reduceAdd] at hi;omega
       simp [bq,Sub.ag,assoc,CV.I,CV.B,ah,ai,ae.I,ae.B,SC.I,SC.B,IE.den,BE.den,Env.join,this]
      ·simp [bq,Sub.ag,assoc,CV.I,CV.B,ah,ai,ae.I,ae.B,SC.I,SC.B,IE.den,BE.den,Env.join]
      ·show notes q 12 ++ _=((notes q 0).take (q.iv 16+1).toNat).filter (l9 (jU q 4))
       rw [htk,List.filter_append,n2]
       simp [hk]
    ·show (q.iv 1-(q.iv 16+1)).toNat<(q.iv 1-q.iv 16).toNat
     omega
   ·replace hne:¬zT q (q.iv 16).toNat (q.iv 17).toNat:=fun h=>by
     exact Bool.false_ne_true (hne.symm.trans (by simp only [D.le,D.fP,D.lt,D.fQ,D.eq,D.fT,D.not,D.dM,D.and,D.dN,D.or,D.fU,D.inr,D.var,D.lit,D.cz,D.beq,D.dO,D.dP,D.dQ,D.add,D.sub,D.mul,D.min,D.max,D.cB,D.bO,D.bP];exact h))
    refine Sat.ob ?_ (Sat.back rfl ⟨⟨⟨?_,?_⟩,fun j hj=>?_⟩,?_⟩)
    ·simp only [D.le,D.fP,D.lt,D.fQ,D.eq,D.fT,D.not,D.dM,D.and,D.dN,D.or,D.fU,D.inr,D.var,D.lit,D.cz,D.beq,D.dO,D.dP,D.dQ,D.add,D.sub,D.mul,D.min,D.max,D.cB,D.bO,D.bP];have:=hpre.2.2.2;omega
    ·show 0≤q.iv 17+1;omega
    ·show q.iv 17+1≤q.iv 5;omega
    ·replace hj:(j:Int)<q.iv 17+1:=hj
     show ¬zT q (q.iv 16).toNat j
     by_cases h:j=(q.iv 17).toNat
     ·subst h;exact hne
     ·exact j3 j (by omega)
    ·show (q.iv 5-(q.iv 17+1)).toNat<(q.iv 5-q.iv 17).toNat
     omega
  ·replace hI2:Jq (r.join 17 e2):=hI2
   replace hat:rP (r.join 17 e2):=hat
   replace zb:¬(r.join 17 e2).iv 17<(r.join 17 e2).iv 5:=of_decide_eq_false zb
   rw [show (r.iv 1-r.iv 16).toNat=((r.join 17 e2).iv 1-(r.join 17 e2).iv 16).toNat from rfl]
   clear hpre hlt l1 l2 i1 i2
   generalize r.join 17 e2=q at *
   have hpre:=hat.1
   obtain ⟨⟨i1,i2⟩,-⟩:=hat.2.1
   have hlt:=hat.2.2
   obtain ⟨l1,l2⟩:=hat.lens
   obtain ⟨⟨j1,j2⟩,j3⟩:=hI2
   have hk:l9 (jU q 4) (bq q 3 (q.iv 16).toNat)=false:=by
    refine List.any_eq_false.2 fun x hx=>?_
    obtain ⟨j,hj,rfl⟩:=List.mem_map.1 hx
    have hj:=List.mem_range.1 hj
    simp only [Nat.reduceAdd] at hj
    exact ne_true_of_eq_false (decide_eq_false (j3 j (by omega)))
   obtain ⟨⟨o1,o2,o3,o4⟩,n1⟩:=hat.2.1.2.1
   obtain ⟨⟨p1,p2,p3,p4⟩,n2⟩:=hat.2.1.2.2
   have htk:=hat.take
   obtain ⟨_,a5,_,b5⟩:=hpre
   simp only [Nat.reduceAdd] at *
   refine Sat.ob ?_ (Sat.ob (decide_eq_true o2) (Sat.ob (decide_eq_true o3) (Sat.ob (decide_eq_true o4) (Sat.ob (aL hat.2.1.2.1.1) (Sat.new fun e3 hf=>Sat.ob ?_ (Sat.back rfl ⟨?_,?_⟩))))))
   ·simp only [D.le,D.fP,D.lt,D.fQ,D.eq,D.fT,D.not,D.dM,D.and,D.dN,D.or,D.fU,D.inr,D.var,D.lit,D.cz,D.beq,D.dO,D.dP,D.dQ,D.add,D.sub,D.mul,D.min,D.max,D.cB,D.bO,D.bP];omega
   ·simp only [D.le,D.fP,D.lt,D.fQ,D.eq,D.fT,D.not,D.dM,D.and,D.dN,D.or,D.fU,D.inr,D.var,D.lit,D.cz,D.beq,D.dO,D.dP,D.dQ,D.add,D.sub,D.mul,D.min,D.max,D.cB,D.bO,D.bP];simp [Env.join];omega
   ·have hf:=hf _ (List.mem_singleton.2 rfl)
    simp only [D.be,D.le,D.fP,D.lt,D.fQ,D.eq,D.fT,D.not,D.dM,D.and,D.dN,D.or,D.fU,D.inr,D.var,D.lit,D.cz,D.beq,D.dO,D.dP,D.dQ,D.add,D.sub,D.mul,D.min,D.max,D.cB,D.bO,D.bP] at hf
    simp [Env.join] at hf
    refine ⟨⟨by simp [Sub.ag,assoc,CV.I,CV.B,ah,ai,ae.I,ae.B,SC.I,SC.B,IE.den,BE.den,Env.join];omega,by simp [Sub.ag,assoc,CV.I,CV.B,ah,ai,ae.I,ae.B,SC.I,SC.B,IE.den,BE.den,Env.join];omega⟩,⟨?_,?_⟩,⟨⟨p1,p2,p3,p4⟩,?_⟩⟩
    ·simp [bF,Sub.ag,assoc,CV.I,CV.B,ah,ai,ae.I,ae.B,SC.I,SC.B,IE.den,BE.den,Env.join]
     omega
    ·refine (jD (ρ:=q) (b:=8) (x:=bq q 3 (q.iv 16).toNat) o2 rfl (fun i hi=>?_) ?_).trans ?_
     ·have:¬(q.iv 9).toNat=i:=by simp only [Nat.reduceAdd] at hi;omega
      simp [bq,Sub.ag,assoc,CV.I,CV.B,ah,ai,ae.I,ae.B,SC.I,SC.B,IE.den,BE.den,Env.join,this]
     ·simp [bq,Sub.ag,assoc,CV.I,CV.B,ah,ai,ae.I,ae.B,SC.I,SC.B,IE.den,BE.den,Env.join]
     ·show notes q 8 ++ _=((notes q 0).take (q.iv 16+1).toNat).filter (fun n=>!l9 (jU q 4) n)
      rw [htk,List.filter_append,n1]
      simp [hk]
    ·refine Eq.trans (b:=notes q 12) (by exact eD rfl fun i _=>by simp [bq,Sub.ag,assoc,CV.I,CV.B,ah,ai,ae.I,ae.B,SC.I,SC.B,IE.den,BE.den,Env.join]) ?_
     show notes q 12=((notes q 0).take (q.iv 16+1).toNat).filter (l9 (jU q 4))
     rw [htk,List.filter_append,n2]
     simp [hk]
   ·show (q.iv 1-(q.iv 16+1)).toNat<(q.iv 1-q.iv 16).toNat
    omega
 ·replace hpre:nK (ρ.join 8 e):=hpre
  replace hI:uS (ρ.join 8 e):=hI
  replace hge:¬(ρ.join 8 e).iv 16<(ρ.join 8 e).iv 1:=of_decide_eq_false hge
  generalize ρ.join 8 e=q at *
  obtain ⟨⟨i1,i2⟩,⟨o,n1⟩,⟨p,n2⟩⟩:=hI
  rw [qF _ _ (by simp only [Nat.zero_add];omega)] at n1 n2
  refine Sat.fin ⟨o,?_,p,?_⟩
  ·exact Eq.trans (b:=notes q 8) (by exact eD rfl fun i _=>by simp [bq,Sub.ag,assoc,CV.I,CV.B,ah,ai,ae.I,ae.B,SC.I,SC.B,IE.den,BE.den,Env.join]) n1
  ·exact Eq.trans (b:=notes q 12) (by exact eD rfl fun i _=>by simp [bq,Sub.ag,assoc,CV.I,CV.B,ah,ai,ae.I,ae.B,SC.I,SC.B,IE.den,BE.den,Env.join]) n2
theorem RZ:aY Tryz.prog l8 nK Jp :=
 cZ dD (E:=Um) (cs:=[]) rfl (fun k pre post h=>by cases h) bS rfl RX (by kernel_rfl) (fun ρ _ p hp=>by cases hp) RY
noncomputable def PG:Ex:={sched:=sched,loops:=[M6,Vo],fin:=kr}
def BB:Out :=
 .ob (.or (.not (.var 0)) (.aB (.var 1) (.lit 0))) <|
 .ob (.aA (.lit 0) (.var 1)) <|
 .loop 8 {lo:=8,az:=3,iv:=[(16,.lit 0),(14,.lit 0),(13,.lit 0),(10,.lit 0),(9,.lit 0)],bv:=[(12,.lit true),(8,.lit true)],nb:=[4,3]} <|
 .br (.bR (.var 16) (.var 1))
 (.ob (.not (.var 0)) <|
  .ob (.aA (.lit 0) (.var 16)) <|
  .ob (.or (.not (.var 4)) (.aB (.var 5) (.lit 0))) <|
  .ob (.aA (.lit 0) (.var 5)) <|
  .loop 17 {lo:=17,az:=7,iv:=[(17,.lit 0)]} <|
  .br (.bR (.var 17) (.var 5))
  (.ob (.not (.var 4)) <|
   .ob (.aA (.lit 0) (.var 17)) <|
   .br (.and (.and (.cell 7 (.var 17) (.lit 0) 0) (.aA (.cell 7 (.var 17) (.lit 0) 1) (.cell 3 (.var 16) (.lit 0) 6))) (.aA (.cell 3 (.var 16) (.lit 0) 5) (.cell 7 (.var 17) (.lit 0) 2)))
   (.ob (.aA (.mul (.add (.var 13) (.lit 1)) (.lit 56)) (.lit 140737488355328)) <|
    .ob (.aA (.lit 0) (.var 13)) <|
    .ob (.aA (.var 13) (.var 14)) <|
    .ob (.aA (.var 14) (.lit 9223372036854775807)) <|
    .ob (.or (.not (.var 12)) (.aB (.var 13) (.lit 0))) <|
    .new 18 [.be (.and (.aA (.add (.var 13) (.lit 1)) (.var 18)) (.aA (.var 18) (.lit 9223372036854775807)))] <|
    .ob (.inr .i64 (.add (.var 16) (.lit 1))) <|
    .back 1 {lo:=8,az:=3,iv:=[(16,.add (.var 16) (.lit 1)),(14,yv 18),(13,.add (.var 13) (.lit 1)),(10,yv 10),(9,yv 9)],bv:=[(12,.lit false),(8,yw 8)],ct:=[(15,.up {r:=15,n1:=.add (.var 13) (.lit 1),s1:=7,ks:=yN} 0 [⟨0,(.var 13),(.lit 0),0,.int .i64 (.cell 3 (.var 16) (.lit 0) 0)⟩,⟨0,(.var 13),(.lit 0),1,.int .i64 (.cell 3 (.var 16) (.lit 0) 1)⟩,⟨0,(.var 13),(.lit 0),2,.int .i64 (.cell 3 (.var 16) (.lit 0) 2)⟩,⟨0,(.var 13),(.lit 0),3,.int .i64 (.cell 3 (.var 16) (.lit 0) 3)⟩,⟨0,(.var 13),(.lit 0),4,.bool (.cell 3 (.var 16) (.lit 0) 4)⟩,⟨0,(.var 13),(.lit 0),5,.int .i64 (.cell 3 (.var 16) (.lit 0) 5)⟩,⟨0,(.var 13),(.lit 0),6,.int .i64 (.cell 3 (.var 16) (.lit 0) 6)⟩] (.lit 0)),(11,yu 11 9 7 yN 0)],bk:=[(4,yc 9 7),(3,yc 3 7)]})
   (.ob (.inr .i64 (.add (.var 17) (.lit 1))) <|
    .back 0 {lo:=17,az:=7,iv:=[(17,.add (.var 17) (.lit 1))]}))
  (.ob (.aA (.mul (.add (.var 9) (.lit 1)) (.lit 56)) (.lit 140737488355328)) <|
   .ob (.aA (.lit 0) (.var 9)) <|
   .ob (.aA (.var 9) (.var 10)) <|
   .ob (.aA (.var 10) (.lit 9223372036854775807)) <|
   .ob (.or (.not (.var 8)) (.aB (.var 9) (.lit 0))) <|
   .new 18 [.be (.and (.aA (.add (.var 9) (.lit 1)) (.var 18)) (.aA (.var 18) (.lit 9223372036854775807)))] <|
   .ob (.inr .i64 (.add (.var 16) (.lit 1))) <|
   .back 1 {lo:=8,az:=3,iv:=[(16,.add (.var 16) (.lit 1)),(14,yv 14),(13,yv 13),(10,yv 18),(9,.add (.var 9) (.lit 1))],bv:=[(12,yw 12),(8,.lit false)],ct:=[(15,yu 15 13 7 yN 0),(11,.up {r:=11,n1:=.add (.var 9) (.lit 1),s1:=7,ks:=yN} 0 [⟨0,(.var 9),(.lit 0),0,.int .i64 (.cell 3 (.var 16) (.lit 0) 0)⟩,⟨0,(.var 9),(.lit 0),1,.int .i64 (.cell 3 (.var 16) (.lit 0) 1)⟩,⟨0,(.var 9),(.lit 0),2,.int .i64 (.cell 3 (.var 16) (.lit 0) 2)⟩,⟨0,(.var 9),(.lit 0),3,.int .i64 (.cell 3 (.var 16) (.lit 0) 3)⟩,⟨0,(.var 9),(.lit 0),4,.bool (.cell 3 (.var 16) (.lit 0) 4)⟩,⟨0,(.var 9),(.lit 0),5,.int .i64 (.cell 3 (.var 16) (.lit 0) 5)⟩,⟨0,(.var 9),(.lit 0),6,.int .i64 (.cell 3 (.var 16) (.lit 0) 6)⟩] (.lit 0))],bk:=[(4,yc 4 7),(3,yc 8 7)]}))
 (.fin {lo:=8,az:=2,iv:=[(14,yv 14),(13,yv 13),(10,yv 10),(9,yv 9)],bv:=[(12,yw 12),(8,yw 8)],ct:=[(15,yu 15 13 7 yN 0),(11,yu 11 9 7 yN 0)],bk:=[(3,yc 4 7),(2,yc 3 7)]})
theorem PH:exec tab PG 4000 [] (eG kr.f 8 [] [] kr.hp kr.args)=BB:=by kernel_rfl
def wK (ρ:Env) (i j:Nat):Prop:=(ρ.bc 7 j 0 0=true∧ρ.ic 7 j 0 1≤ρ.ic 3 i 0 6)∧ρ.ic 3 i 0 5≤ρ.ic 7 j 0 2
def lM (ρ:Env):Prop:=bF ρ 0∧ρ.iv 1≤1000000∧bF ρ 4∧ρ.iv 5≤1000000
def Gh (ρ:Env):Prop:=bF ρ 8∧notes ρ 8=(notes ρ 0).filter (fun n=>!pF (uj ρ 4) n)∧bF ρ 12∧notes ρ 12=(notes ρ 0).filter (pF (uj ρ 4))
def rQ (ρ:Env):Prop:=(0≤ρ.iv 16∧ρ.iv 16≤ρ.iv 1)∧(bF ρ 8∧notes ρ 8=((notes ρ 0).take (ρ.iv 16).toNat).filter (fun n=>!pF (uj ρ 4) n))∧bF ρ 12∧notes ρ 12=((notes ρ 0).take (ρ.iv 16).toNat).filter (pF (uj ρ 4))
def EM (ρ:Env):Prop:=(0≤ρ.iv 17∧ρ.iv 17≤ρ.iv 5)∧∀j:Nat,(j:Int)<ρ.iv 17→¬wK ρ (ρ.iv 16).toNat j
def o5 (ρ:Env):Prop:=lM ρ∧rQ ρ∧ρ.iv 16<ρ.iv 1
theorem o5.lens {ρ:Env} (h:o5 ρ):ρ.iv 9≤ρ.iv 16∧ρ.iv 13≤ρ.iv 16:=by
 obtain ⟨⟨a1,a5,b1,b5⟩,⟨⟨i1,i2⟩,⟨⟨o1,o2,o3,o4⟩,n1⟩,⟨⟨p1,p2,p3,p4⟩,n2⟩⟩,hlt⟩:=h
 have l1:(notes ρ 8).length≤(ρ.iv 16).toNat:=by
  rw [n1];refine Nat.le_trans (List.length_filter_le _ _) ?_;rw [List.length_take];omega
 have l2:(notes ρ 12).length≤(ρ.iv 16).toNat:=by
  rw [n2];refine Nat.le_trans (List.length_filter_le _ _) ?_;rw [List.length_take];omega
 rw [jT] at l1 l2
 simp only [Nat.reduceAdd] at *
 omega
theorem o5.take {ρ:Env} (h:o5 ρ):(notes ρ 0).take (ρ.iv 16+1).toNat=(notes ρ 0).take (ρ.iv 16).toNat ++ [bq ρ 3 (ρ.iv 16).toNat]:=by
 obtain ⟨_,⟨⟨i1,i2⟩,_⟩,hlt⟩:=h
 rw [show (ρ.iv 16+1).toNat=(ρ.iv 16).toNat+1 by omega]
 exact qE (b:=0) (by simp only [Nat.zero_add];omega)
theorem PI (ρ:Env) (hpre:lM ρ.num):Sat Gh [] [] ρ BB:=by
 replace hpre:lM ρ:=hpre
 unfold BB
 refine Sat.ob (aL hpre.1) (Sat.ob (decide_eq_true hpre.1.2.1) (Sat.loop rQ (fun r=>(r.iv 1-r.iv 16).toNat) ?_ fun e hI=>Sat.br (fun hlt=>?_) (fun hge=>?_)))
 ·have h2:=hpre.1.2.1
  simp [rQ,bF,notes,Sub.ag,assoc,CV.I,CV.B,ah,ai,ae.I,ae.B,SC.I,SC.B,IE.den,BE.den,h2]
 ·replace hpre:lM (ρ.join 8 e):=hpre
  replace hI:rQ (ρ.join 8 e):=hI
  replace hlt:(ρ.join 8 e).iv 16<(ρ.join 8 e).iv 1:=of_decide_eq_true hlt
  have hat:o5 (ρ.join 8 e):=⟨hpre,hI,hlt⟩
  clear hpre hI hlt
  have hm:((ρ.join 8 e).num.iv 1-(ρ.join 8 e).num.iv 16).toNat=((ρ.join 8 e).iv 1-(ρ.join 8 e).iv 16).toNat:=rfl
  rw [hm]
  clear hm
  generalize ρ.join 8 e=r at *
  have hpre:=hat.1
  obtain ⟨⟨i1,i2⟩,-⟩:=hat.2.1
  have hlt:=hat.2.2
  obtain ⟨l1,l2⟩:=hat.lens
  refine Sat.ob ?_ (Sat.ob (decide_eq_true i1) (Sat.ob (aL hpre.2.2.1) (Sat.ob (decide_eq_true hpre.2.2.1.2.1) (Sat.loop EM (fun r=>(r.iv 5-r.iv 17).toNat) ?_ fun e2 hI2=>Sat.br (fun hlt2=>?_) (fun zb=>?_)))))
  ·simp only [D.le,D.fP,D.lt,D.fQ,D.eq,D.fT,D.not,D.dM,D.and,D.dN,D.or,D.fU,D.inr,D.var,D.lit,D.cz,D.beq,D.dO,D.dP,D.dQ,D.add,D.sub,D.mul,D.min,D.max,D.cB,D.bO,D.bP]
   cases h:r.bv 0
   ·rfl
   ·have:=hpre.1.1 h
    simp only [Nat.zero_add] at this
    omega
  ·refine ⟨⟨Int.le_refl 0,hpre.2.2.1.2.1⟩,fun j hj=>?_⟩
   have:(j:Int)<0:=hj
   omega
  ·replace hI2:EM (r.join 17 e2):=hI2
   replace hat:o5 (r.join 17 e2):=hat
   replace hlt2:(r.join 17 e2).iv 17<(r.join 17 e2).iv 5:=of_decide_eq_true hlt2
   rw [show (r.iv 1-r.iv 16).toNat=((r.join 17 e2).iv 1-(r.join 17 e2).iv 16).toNat from rfl]
   rw [show ((r.join 17 e2).num.iv 5-(r.join 17 e2).num.iv 17).toNat=((r.join 17 e2).iv 5-(r.join 17 e2).iv 17).toNat from rfl]
   clear hpre hlt l1 l2 i1 i2
   generalize r.join 17 e2=q at *
   have hpre:=hat.1
   obtain ⟨⟨i1,i2⟩,-⟩:=hat.2.1
   have hlt:=hat.2.2
   obtain ⟨l1,l2⟩:=hat.lens
   obtain ⟨⟨j1,j2⟩,j3⟩:=hI2
   refine Sat.ob ?_ (Sat.ob (decide_eq_true j1) (Sat.br (fun heq=>?_) (fun hne=>?_)))
   ·simp only [D.le,D.fP,D.lt,D.fQ,D.eq,D.fT,D.not,D.dM,D.and,D.dN,D.or,D.fU,D.inr,D.var,D.lit,D.cz,D.beq,D.dO,D.dP,D.dQ,D.add,D.sub,D.mul,D.min,D.max,D.cB,D.bO,D.bP]
    cases h:q.bv 4
    ·rfl
    ·have:=hpre.2.2.1.1 h
     simp only [Nat.reduceAdd] at this
     omega
   ·replace heq:wK q (q.iv 16).toNat (q.iv 17).toNat:=by simp only [D.le,D.fP,D.lt,D.fQ,D.eq,D.fT,D.not,D.dM,D.and,D.dN,D.or,D.fU,D.inr,D.var,D.lit,D.cz,D.beq,D.dO,D.dP,D.dQ,D.add,D.sub,D.mul,D.min,D.max,D.cB,D.bO,D.bP] at heq;exact heq
    have hk:pF (uj q 4) (bq q 3 (q.iv 16).toNat)=true:=by
     refine List.any_eq_true.2 ⟨_,List.mem_map.2 ⟨(q.iv 17).toNat,List.mem_range.2 (by simp only [Nat.reduceAdd];omega),rfl⟩,decide_eq_true heq⟩
    obtain ⟨⟨o1,o2,o3,o4⟩,n1⟩:=hat.2.1.2.1
    obtain ⟨⟨p1,p2,p3,p4⟩,n2⟩:=hat.2.1.2.2
    have htk:=hat.take
    obtain ⟨_,a5,_,b5⟩:=hpre
    simp only [Nat.reduceAdd] at *
    refine Sat.ob ?_ (Sat.ob (decide_eq_true p2) (Sat.ob (decide_eq_true p3) (Sat.ob (decide_eq_true p4) (Sat.ob (aL hat.2.1.2.2.1) (Sat.new fun e3 hf=>Sat.ob ?_ (Sat.back rfl ⟨?_,?_⟩))))))
    ·simp only [D.le,D.fP,D.lt,D.fQ,D.eq,D.fT,D.not,D.dM,D.and,D.dN,D.or,D.fU,D.inr,D.var,D.lit,D.cz,D.beq,D.dO,D.dP,D.dQ,D.add,D.sub,D.mul,D.min,D.max,D.cB,D.bO,D.bP];omega
    ·simp only [D.le,D.fP,D.lt,D.fQ,D.eq,D.fT,D.not,D.dM,D.and,D.dN,D.or,D.fU,D.inr,D.var,D.lit,D.cz,D.beq,D.dO,D.dP,D.dQ,D.add,D.sub,D.mul,D.min,D.max,D.cB,D.bO,D.bP];simp [Env.join];omega
    ·have hf:=hf _ (List.mem_singleton.2 rfl)
     simp only [D.be,D.le,D.fP,D.lt,D.fQ,D.eq,D.fT,D.not,D.dM,D.and,D.dN,D.or,D.fU,D.inr,D.var,D.lit,D.cz,D.beq,D.dO,D.dP,D.dQ,D.add,D.sub,D.mul,D.min,D.max,D.cB,D.bO,D.bP] at hf
     simp [Env.join] at hf
     refine ⟨⟨by simp [Sub.ag,assoc,CV.I,CV.B,ah,ai,ae.I,ae.B,SC.I,SC.B,IE.den,BE.den,Env.join];omega,by simp [Sub.ag,assoc,CV.I,CV.B,ah,ai,ae.I,ae.B,SC.I,SC.B,IE.den,BE.den,Env.join];omega⟩,⟨⟨o1,o2,o3,o4⟩,?_⟩,⟨?_,?_⟩⟩
     ·refine Eq.trans (b:=notes q 8) (by exact eD rfl fun i _=>by simp [bq,Sub.ag,assoc,CV.I,CV.B,ah,ai,ae.I,ae.B,SC.I,SC.B,IE.den,BE.den,Env.join]) ?_
      show notes q 8=((notes q 0).take (q.iv 16+1).toNat).filter (fun n=>!pF (uj q 4) n)
      rw [htk,List.filter_append,n1]
      simp [hk]
     ·simp [bF,Sub.ag,assoc,CV.I,CV.B,ah,ai,ae.I,ae.B,SC.I,SC.B,IE.den,BE.den,Env.join]
      omega
     ·refine (jD (ρ:=q) (b:=12) (x:=bq q 3 (q.iv 16).toNat) p2 rfl (fun i hi=>?_) ?_).trans ?_
      ·have:¬(q.iv 13).toNat=i:=by simp only [Nat.reduceAdd] at hi;omega
       simp [bq,Sub.ag,assoc,CV.I,CV.B,ah,ai,ae.I,ae.B,SC.I,SC.B,IE.den,BE.den,Env.join,this]
      ·simp [bq,Sub.ag,assoc,CV.I,CV.B,ah,ai,ae.I,ae.B,SC.I,SC.B,IE.den,BE.den,Env.join]
      ·show notes q 12 ++ _=((notes q 0).take (q.iv 16+1).toNat).filter (pF (uj q 4))
       rw [htk,List.filter_append,n2]
       simp [hk]
    ·show (q.iv 1-(q.iv 16+1)).toNat<(q.iv 1-q.iv 16).toNat
     omega
   ·replace hne:¬wK q (q.iv 16).toNat (q.iv 17).toNat:=fun h=>by
     exact Bool.false_ne_true (hne.symm.trans (by simp only [D.le,D.fP,D.lt,D.fQ,D.eq,D.fT,D.not,D.dM,D.and,D.dN,D.or,D.fU,D.inr,D.var,D.lit,D.cz,D.beq,D.dO,D.dP,D.dQ,D.add,D.sub,D.mul,D.min,D.max,D.cB,D.bO,D.bP];exact h))
    refine Sat.ob ?_ (Sat.back rfl ⟨⟨⟨?_,?_⟩,fun j hj=>?_⟩,?_⟩)
    ·simp only [D.le,D.fP,D.lt,D.fQ,D.eq,D.fT,D.not,D.dM,D.and,D.dN,D.or,D.fU,D.inr,D.var,D.lit,D.cz,D.beq,D.dO,D.dP,D.dQ,D.add,D.sub,D.mul,D.min,D.max,D.cB,D.bO,D.bP];have:=hpre.2.2.2;omega
    ·show 0≤q.iv 17+1;omega
    ·show q.iv 17+1≤q.iv 5;omega
    ·replace hj:(j:Int)<q.iv 17+1:=hj
     show ¬wK q (q.iv 16).toNat j
     by_cases h:j=(q.iv 17).toNat
     ·subst h;exact hne
     ·exact j3 j (by omega)
    ·show (q.iv 5-(q.iv 17+1)).toNat<(q.iv 5-q.iv 17).toNat
     omega
  ·replace hI2:EM (r.join 17 e2):=hI2
   replace hat:o5 (r.join 17 e2):=hat
   replace zb:¬(r.join 17 e2).iv 17<(r.join 17 e2).iv 5:=of_decide_eq_false zb
   rw [show (r.iv 1-r.iv 16).toNat=((r.join 17 e2).iv 1-(r.join 17 e2).iv 16).toNat from rfl]
   clear hpre hlt l1 l2 i1 i2
   generalize r.join 17 e2=q at *
   have hpre:=hat.1
   obtain ⟨⟨i1,i2⟩,-⟩:=hat.2.1
   have hlt:=hat.2.2
   obtain ⟨l1,l2⟩:=hat.lens
   obtain ⟨⟨j1,j2⟩,j3⟩:=hI2
   have hk:pF (uj q 4) (bq q 3 (q.iv 16).toNat)=false:=by
    refine List.any_eq_false.2 fun x hx=>?_
    obtain ⟨j,hj,rfl⟩:=List.mem_map.1 hx
    have hj:=List.mem_range.1 hj
    simp only [Nat.reduceAdd] at hj
    exact ne_true_of_eq_false (decide_eq_false (j3 j (by omega)))
   obtain ⟨⟨o1,o2,o3,o4⟩,n1⟩:=hat.2.1.2.1
   obtain ⟨⟨p1,p2,p3,p4⟩,n2⟩:=hat.2.1.2.2
   have htk:=hat.take
   obtain ⟨_,a5,_,b5⟩:=hpre
   simp only [Nat.reduceAdd] at *
   refine Sat.ob ?_ (Sat.ob (decide_eq_true o2) (Sat.ob (decide_eq_true o3) (Sat.ob (decide_eq_true o4) (Sat.ob (aL hat.2.1.2.1.1) (Sat.new fun e3 hf=>Sat.ob ?_ (Sat.back rfl ⟨?_,?_⟩))))))
   ·simp only [D.le,D.fP,D.lt,D.fQ,D.eq,D.fT,D.not,D.dM,D.and,D.dN,D.or,D.fU,D.inr,D.var,D.lit,D.cz,D.beq,D.dO,D.dP,D.dQ,D.add,D.sub,D.mul,D.min,D.max,D.cB,D.bO,D.bP];omega
   ·simp only [D.le,D.fP,D.lt,D.fQ,D.eq,D.fT,D.not,D.dM,D.and,D.dN,D.or,D.fU,D.inr,D.var,D.lit,D.cz,D.beq,D.dO,D.dP,D.dQ,D.add,D.sub,D.mul,D.min,D.max,D.cB,D.bO,D.bP];simp [Env.join];omega
   ·have hf:=hf _ (List.mem_singleton.2 rfl)
    simp only [D.be,D.le,D.fP,D.lt,D.fQ,D.eq,D.fT,D.not,D.dM,D.and,D.dN,D.or,D.fU,D.inr,D.var,D.lit,D.cz,D.beq,D.dO,D.dP,D.dQ,D.add,D.sub,D.mul,D.min,D.max,D.cB,D.bO,D.bP] at hf
    simp [Env.join] at hf
    refine ⟨⟨by simp [Sub.ag,assoc,CV.I,CV.B,ah,ai,ae.I,ae.B,SC.I,SC.B,IE.den,BE.den,Env.join];omega,by simp [Sub.ag,assoc,CV.I,CV.B,ah,ai,ae.I,ae.B,SC.I,SC.B,IE.den,BE.den,Env.join];omega⟩,⟨?_,?_⟩,⟨⟨p1,p2,p3,p4⟩,?_⟩⟩
    ·simp [bF,Sub.ag,assoc,CV.I,CV.B,ah,ai,ae.I,ae.B,SC.I,SC.B,IE.den,BE.den,Env.join]
     omega
    ·refine (jD (ρ:=q) (b:=8) (x:=bq q 3 (q.iv 16).toNat) o2 rfl (fun i hi=>?_) ?_).trans ?_
     ·have:¬(q.iv 9).toNat=i:=by simp only [Nat.reduceAdd] at hi;omega
      simp [bq,Sub.ag,assoc,CV.I,CV.B,ah,ai,ae.I,ae.B,SC.I,SC.B,IE.den,BE.den,Env.join,this]
     ·simp [bq,Sub.ag,assoc,CV.I,CV.B,ah,ai,ae.I,ae.B,SC.I,SC.B,IE.den,BE.den,Env.join]
     ·show notes q 8 ++ _=((notes q 0).take (q.iv 16+1).toNat).filter (fun n=>!pF (uj q 4) n)
      rw [htk,List.filter_append,n1]
      simp [hk]
    ·refine Eq.trans (b:=notes q 12) (by exact eD rfl fun i _=>by simp [bq,Sub.ag,assoc,CV.I,CV.B,ah,ai,ae.I,ae.B,SC.I,SC.B,IE.den,BE.den,Env.join]) ?_
     show notes q 12=((notes q 0).take (q.iv 16+1).toNat).filter (pF (uj q 4))
     rw [htk,List.filter_append,n2]
     simp [hk]
   ·show (q.iv 1-(q.iv 16+1)).toNat<(q.iv 1-q.iv 16).toNat
    omega
 ·replace hpre:lM (ρ.join 8 e):=hpre
  replace hI:rQ (ρ.join 8 e):=hI
  replace hge:¬(ρ.join 8 e).iv 16<(ρ.join 8 e).iv 1:=of_decide_eq_false hge
  generalize ρ.join 8 e=q at *
  obtain ⟨⟨i1,i2⟩,⟨o,n1⟩,⟨p,n2⟩⟩:=hI
  rw [qF _ _ (by simp only [Nat.zero_add];omega)] at n1 n2
  refine Sat.fin ⟨o,?_,p,?_⟩
  ·exact Eq.trans (b:=notes q 8) (by exact eD rfl fun i _=>by simp [bq,Sub.ag,assoc,CV.I,CV.B,ah,ai,ae.I,ae.B,SC.I,SC.B,IE.den,BE.den,Env.join]) n1
  ·exact Eq.trans (b:=notes q 12) (by exact eD rfl fun i _=>by simp [bq,Sub.ag,assoc,CV.I,CV.B,ah,ai,ae.I,ae.B,SC.I,SC.B,IE.den,BE.den,Env.join]) n2
theorem PK:aY Tryz.prog kr lM Gh :=
 cZ dD (E:=PG) (cs:=[]) rfl (fun k pre post h=>by cases h) bS rfl PH (by kernel_rfl) (fun ρ _ p hp=>by cases hp) PI
noncomputable def Ls:Ex:={sched:=sched,loops:=[M6],fin:=jA}
def zf:Out :=
 .ob (.or (.not (.var 0)) (.aB (.var 1) (.lit 0))) <|
 .ob (.aA (.lit 0) (.var 1)) <|
 .loop 8 {lo:=8,az:=2,iv:=[(16,.lit 0),(14,.lit 0),(13,.lit 0),(10,.lit 0),(9,.lit 0)],bv:=[(12,.lit true),(8,.lit true)],nb:=[3,2]} <|
 .br (.bR (.var 16) (.var 1))
 (.ob (.not (.var 0)) <|
  .ob (.aA (.lit 0) (.var 16)) <|
  .ob (.or (.bR (.var 4) (.lit (-9223372036854775806))) (.inr .i64 (.sub (.var 4) (.lit 2)))) <|
  .br (.or (.bR (.var 4) (.lit (-9223372036854775806))) (.bR (.sub (.var 4) (.lit 2)) (.cell 3 (.var 16) (.lit 0) 6)))
  (.ob (.aA (.mul (.add (.var 13) (.lit 1)) (.lit 56)) (.lit 140737488355328)) <|
   .ob (.aA (.lit 0) (.var 13)) <|
   .ob (.aA (.var 13) (.var 14)) <|
   .ob (.aA (.var 14) (.lit 9223372036854775807)) <|
   .ob (.or (.not (.var 12)) (.aB (.var 13) (.lit 0))) <|
   .new 17 [.be (.and (.aA (.add (.var 13) (.lit 1)) (.var 17)) (.aA (.var 17) (.lit 9223372036854775807)))] <|
   .ob (.inr .i64 (.add (.var 16) (.lit 1))) <|
   .back 0 {lo:=8,az:=2,iv:=[(16,.add (.var 16) (.lit 1)),(14,yv 17),(13,.add (.var 13) (.lit 1)),(10,yv 10),(9,yv 9)],bv:=[(12,.lit false),(8,yw 8)],ct:=[(15,.up {r:=15,n1:=.add (.var 13) (.lit 1),s1:=7,ks:=yN} 0 [⟨0,(.var 13),(.lit 0),0,.int .i64 (.cell 3 (.var 16) (.lit 0) 0)⟩,⟨0,(.var 13),(.lit 0),1,.int .i64 (.cell 3 (.var 16) (.lit 0) 1)⟩,⟨0,(.var 13),(.lit 0),2,.int .i64 (.cell 3 (.var 16) (.lit 0) 2)⟩,⟨0,(.var 13),(.lit 0),3,.int .i64 (.cell 3 (.var 16) (.lit 0) 3)⟩,⟨0,(.var 13),(.lit 0),4,.bool (.cell 3 (.var 16) (.lit 0) 4)⟩,⟨0,(.var 13),(.lit 0),5,.int .i64 (.cell 3 (.var 16) (.lit 0) 5)⟩,⟨0,(.var 13),(.lit 0),6,.int .i64 (.cell 3 (.var 16) (.lit 0) 6)⟩] (.lit 0)),(11,yu 11 9 7 yN 0)],bk:=[(3,yc 7 7),(2,yc 2 7)]})
  (.ob (.aA (.mul (.add (.var 9) (.lit 1)) (.lit 56)) (.lit 140737488355328)) <|
   .ob (.aA (.lit 0) (.var 9)) <|
   .ob (.aA (.var 9) (.var 10)) <|
   .ob (.aA (.var 10) (.lit 9223372036854775807)) <|
   .ob (.or (.not (.var 8)) (.aB (.var 9) (.lit 0))) <|
   .new 17 [.be (.and (.aA (.add (.var 9) (.lit 1)) (.var 17)) (.aA (.var 17) (.lit 9223372036854775807)))] <|
   .ob (.inr .i64 (.add (.var 16) (.lit 1))) <|
   .back 0 {lo:=8,az:=2,iv:=[(16,.add (.var 16) (.lit 1)),(14,yv 14),(13,yv 13),(10,yv 17),(9,.add (.var 9) (.lit 1))],bv:=[(12,yw 12),(8,.lit false)],ct:=[(15,yu 15 13 7 yN 0),(11,.up {r:=11,n1:=.add (.var 9) (.lit 1),s1:=7,ks:=yN} 0 [⟨0,(.var 9),(.lit 0),0,.int .i64 (.cell 3 (.var 16) (.lit 0) 0)⟩,⟨0,(.var 9),(.lit 0),1,.int .i64 (.cell 3 (.var 16) (.lit 0) 1)⟩,⟨0,(.var 9),(.lit 0),2,.int .i64 (.cell 3 (.var 16) (.lit 0) 2)⟩,⟨0,(.var 9),(.lit 0),3,.int .i64 (.cell 3 (.var 16) (.lit 0) 3)⟩,⟨0,(.var 9),(.lit 0),4,.bool (.cell 3 (.var 16) (.lit 0) 4)⟩,⟨0,(.var 9),(.lit 0),5,.int .i64 (.cell 3 (.var 16) (.lit 0) 5)⟩,⟨0,(.var 9),(.lit 0),6,.int .i64 (.cell 3 (.var 16) (.lit 0) 6)⟩] (.lit 0))],bk:=[(3,yc 3 7),(2,yc 7 7)]}))
 (.fin {lo:=8,az:=1,iv:=[(14,yv 14),(13,yv 13),(10,yv 10),(9,yv 9)],bv:=[(12,yw 12),(8,yw 8)],ct:=[(15,yu 15 13 7 yN 0),(11,yu 11 9 7 yN 0)],bk:=[(2,yc 3 7),(1,yc 2 7)]})
theorem Nc:exec tab Ls 4000 [] (eG jA.f 8 [] [] jA.hp jA.args)=zf:=by kernel_rfl
def jY (ρ:Env):Prop:=bF ρ 0∧ρ.iv 1≤1000000∧-9223372036854775808≤ρ.iv 4∧ρ.iv 4≤9223372036854775807
def DL (ρ:Env):Prop:=bF ρ 8∧notes ρ 8=(notes ρ 0).filter (fun n=>!pG (ρ.iv 4) n)∧bF ρ 12∧notes ρ 12=(notes ρ 0).filter (pG (ρ.iv 4))
def pX (ρ:Env):Prop:=(0≤ρ.iv 16∧ρ.iv 16≤ρ.iv 1)∧(bF ρ 8∧notes ρ 8=((notes ρ 0).take (ρ.iv 16).toNat).filter (fun n=>!pG (ρ.iv 4) n))∧bF ρ 12∧notes ρ 12=((notes ρ 0).take (ρ.iv 16).toNat).filter (pG (ρ.iv 4))
def rR (ρ:Env):Prop:=jY ρ∧pX ρ∧ρ.iv 16<ρ.iv 1
theorem rR.lens {ρ:Env} (h:rR ρ):ρ.iv 9≤ρ.iv 16∧ρ.iv 13≤ρ.iv 16:=by
 obtain ⟨⟨a1,a5,b1⟩,⟨⟨i1,i2⟩,⟨⟨o1,o2,o3,o4⟩,n1⟩,⟨⟨p1,p2,p3,p4⟩,n2⟩⟩,hlt⟩:=h
 have l1:(notes ρ 8).length≤(ρ.iv 16).toNat:=by
  rw [n1];refine Nat.le_trans (List.length_filter_le _ _) ?_;rw [List.length_take];omega
 have l2:(notes ρ 12).length≤(ρ.iv 16).toNat:=by
  rw [n2];refine Nat.le_trans (List.length_filter_le _ _) ?_;rw [List.length_take];omega
 rw [jT] at l1 l2
 simp only [Nat.reduceAdd] at *
 omega
theorem rR.take {ρ:Env} (h:rR ρ):(notes ρ 0).take (ρ.iv 16+1).toNat=(notes ρ 0).take (ρ.iv 16).toNat ++ [bq ρ 3 (ρ.iv 16).toNat]:=by
 obtain ⟨_,⟨⟨i1,i2⟩,_⟩,hlt⟩:=h
 rw [show (ρ.iv 16+1).toNat=(ρ.iv 16).toNat+1 by omega]
 exact qE (b:=0) (by simp only [Nat.zero_add];omega)
theorem Nf (ρ:Env) (hpre:jY ρ.num):Sat DL [] [] ρ zf:=by
 replace hpre:jY ρ:=hpre
 unfold zf
 refine Sat.ob (aL hpre.1) (Sat.ob (decide_eq_true hpre.1.2.1) (Sat.loop pX (fun r=>(r.iv 1-r.iv 16).toNat) ?_ fun e hI=>Sat.br (fun hlt=>?_) (fun hge=>?_)))
 ·have h2:=hpre.1.2.1
  simp [pX,bF,notes,Sub.ag,assoc,CV.I,CV.B,ah,ai,ae.I,ae.B,SC.I,SC.B,IE.den,BE.den,h2]
 ·replace hpre:jY (ρ.join 8 e):=hpre
  replace hI:pX (ρ.join 8 e):=hI
  replace hlt:(ρ.join 8 e).iv 16<(ρ.join 8 e).iv 1:=of_decide_eq_true hlt
  have hat:rR (ρ.join 8 e):=⟨hpre,hI,hlt⟩
  clear hpre hI hlt
  have hm:((ρ.join 8 e).num.iv 1-(ρ.join 8 e).num.iv 16).toNat=((ρ.join 8 e).iv 1-(ρ.join 8 e).iv 16).toNat:=rfl
  rw [hm]
  clear hm
  generalize ρ.join 8 e=r at *
  have hpre:=hat.1
  obtain ⟨⟨i1,i2⟩,-⟩:=hat.2.1
  have hlt:=hat.2.2
  obtain ⟨l1,l2⟩:=hat.lens
  obtain ⟨⟨o1,o2,o3,o4⟩,n1⟩:=hat.2.1.2.1
  obtain ⟨⟨p1,p2,p3,p4⟩,n2⟩:=hat.2.1.2.2
  have htk:=hat.take
  have hpre:=hat.1
  obtain ⟨_,a5,b4,b5⟩:=hpre
  simp only [Nat.reduceAdd] at *
  refine Sat.ob ?_ (Sat.ob (decide_eq_true i1) (Sat.ob ?_ (Sat.br (fun heq=>?_) (fun hne=>?_))))
  ·simp only [D.le,D.fP,D.lt,D.fQ,D.eq,D.fT,D.not,D.dM,D.and,D.dN,D.or,D.fU,D.inr,D.var,D.lit,D.cz,D.beq,D.dO,D.dP,D.dQ,D.add,D.sub,D.mul,D.min,D.max,D.cB,D.bO,D.bP]
   cases h:r.bv 0
   ·rfl
   ·have:=hat.1.1.1 h
    simp only [Nat.zero_add] at this
    omega
  ·simp only [D.le,D.fP,D.lt,D.fQ,D.eq,D.fT,D.not,D.dM,D.and,D.dN,D.or,D.fU,D.inr,D.var,D.lit,D.cz,D.beq,D.dO,D.dP,D.dQ,D.add,D.sub,D.mul,D.min,D.max,D.cB,D.bO,D.bP]
   omega
  ·have hk:pG (r.iv 4) (bq r 3 (r.iv 16).toNat)=true:=by
    simp only [D.le,D.fP,D.lt,D.fQ,D.eq,D.fT,D.not,D.dM,D.and,D.dN,D.or,D.fU,D.inr,D.var,D.lit,D.cz,D.beq,D.dO,D.dP,D.dQ,D.add,D.sub,D.mul,D.min,D.max,D.cB,D.bO,D.bP] at heq
    exact decide_eq_true heq
   refine Sat.ob ?_ (Sat.ob (decide_eq_true p2) (Sat.ob (decide_eq_true p3) (Sat.ob (decide_eq_true p4) (Sat.ob (aL hat.2.1.2.2.1) (Sat.new fun e3 hf=>Sat.ob ?_ (Sat.back rfl ⟨?_,?_⟩))))))
   ·simp only [D.le,D.fP,D.lt,D.fQ,D.eq,D.fT,D.not,D.dM,D.and,D.dN,D.or,D.fU,D.inr,D.var,D.lit,D.cz,D.beq,D.dO,D.dP,D.dQ,D.add,D.sub,D.mul,D.min,D.max,D.cB,D.bO,D.bP];omega
   ·simp only [D.le,D.fP,D.lt,D.fQ,D.eq,D.fT,D.not,D.dM,D.and,D.dN,D.or,D.fU,D.inr,D.var,D.lit,D.cz,D.beq,D.dO,D.dP,D.dQ,D.add,D.sub,D.mul,D.min,D.max,D.cB,D.bO,D.bP];simp [Env.join];omega
   ·have hf:=hf _ (List.mem_singleton.2 rfl)
    simp only [D.be,D.le,D.fP,D.lt,D.fQ,D.eq,D.fT,D.not,D.dM,D.and,D.dN,D.or,D.fU,D.inr,D.var,D.lit,D.cz,D.beq,D.dO,D.dP,D.dQ,D.add,D.sub,D.mul,D.min,D.max,D.cB,D.bO,D.bP] at hf
    simp [Env.join] at hf
    refine ⟨⟨by simp [Sub.ag,assoc,CV.I,CV.B,ah,ai,ae.I,ae.B,SC.I,SC.B,IE.den,BE.den,Env.join];omega,by simp [Sub.ag,assoc,CV.I,CV.B,ah,ai,ae.I,ae.B,SC.I,SC.B,IE.den,BE.den,Env.join];omega⟩,⟨⟨o1,o2,o3,o4⟩,?_⟩,⟨?_,?_⟩⟩
    ·refine Eq.trans (b:=notes r 8) (by exact eD rfl fun i _=>by simp [bq,Sub.ag,assoc,CV.I,CV.B,ah,ai,ae.I,ae.B,SC.I,SC.B,IE.den,BE.den,Env.join]) ?_
     show notes r 8=((notes r 0).take (r.iv 16+1).toNat).filter (fun n=>!pG (r.iv 4) n)
     rw [htk,List.filter_append,n1]
     simp [hk]
    ·simp [bF,Sub.ag,assoc,CV.I,CV.B,ah,ai,ae.I,ae.B,SC.I,SC.B,IE.den,BE.den,Env.join]
     omega
    ·refine (jD (ρ:=r) (b:=12) (x:=bq r 3 (r.iv 16).toNat) p2 rfl (fun i hi=>?_) ?_).trans ?_
     ·have:¬(r.iv 13).toNat=i:=by simp only [Nat.reduceAdd] at hi;omega
      simp [bq,Sub.ag,assoc,CV.I,CV.B,ah,ai,ae.I,ae.B,SC.I,SC.B,IE.den,BE.den,Env.join,this]
     ·simp [bq,Sub.ag,assoc,CV.I,CV.B,ah,ai,ae.I,ae.B,SC.I,SC.B,IE.den,BE.den,Env.join]
     ·show notes r 12 ++ _=((notes r 0).take (r.iv 16+1).toNat).filter (pG (r.iv 4))
      rw [htk,List.filter_append,n2]
      simp [hk]
   ·show (r.iv 1-(r.iv 16+1)).toNat<(r.iv 1-r.iv 16).toNat
    omega
  ·have hk:pG (r.iv 4) (bq r 3 (r.iv 16).toNat)=false:=by
    refine decide_eq_false fun h=>Bool.false_ne_true (hne.symm.trans ?_)
    simp only [D.le,D.fP,D.lt,D.fQ,D.eq,D.fT,D.not,D.dM,D.and,D.dN,D.or,D.fU,D.inr,D.var,D.lit,D.cz,D.beq,D.dO,D.dP,D.dQ,D.add,D.sub,D.mul,D.min,D.max,D.cB,D.bO,D.bP];exact h
   refine Sat.ob ?_ (Sat.ob (decide_eq_true o2) (Sat.ob (decide_eq_true o3) (Sat.ob (decide_eq_true o4) (Sat.ob (aL hat.2.1.2.1.1) (Sat.new fun e3 hf=>Sat.ob ?_ (Sat.back rfl ⟨?_,?_⟩))))))
   ·simp only [D.le,D.fP,D.lt,D.fQ,D.eq,D.fT,D.not,D.dM,D.and,D.dN,D.or,D.fU,D.inr,D.var,D.lit,D.cz,D.beq,D.dO,D.dP,D.dQ,D.add,D.sub,D.mul,D.min,D.max,D.cB,D.bO,D.bP];omega
   ·simp only [D.le,D.fP,D.lt,D.fQ,D.eq,D.fT,D.not,D.dM,D.and,D.dN,D.or,D.fU,D.inr,D.var,D.lit,D.cz,D.beq,D.dO,D.dP,D.dQ,D.add,D.sub,D.mul,D.min,D.max,D.cB,D.bO,D.bP];simp [Env.join];omega
   ·have hf:=hf _ (List.mem_singleton.2 rfl)
    simp only [D.be,D.le,D.fP,D.lt,D.fQ,D.eq,D.fT,D.not,D.dM,D.and,D.dN,D.or,D.fU,D.inr,D.var,D.lit,D.cz,D.beq,D.dO,D.dP,D.dQ,D.add,D.sub,D.mul,D.min,D.max,D.cB,D.bO,D.bP] at hf
    simp [Env.join] at hf
    refine ⟨⟨by simp [Sub.ag,assoc,CV.I,CV.B,ah,ai,ae.I,ae.B,SC.I,SC.B,IE.den,BE.den,Env.join];omega,by simp [Sub.ag,assoc,CV.I,CV.B,ah,ai,ae.I,ae.B,SC.I,SC.B,IE.den,BE.den,Env.join];omega⟩,⟨?_,?_⟩,⟨⟨p1,p2,p3,p4⟩,?_⟩⟩
    ·simp [bF,Sub.ag,assoc,CV.I,CV.B,ah,ai,ae.I,ae.B,SC.I,SC.B,IE.den,BE.den,Env.join]
     omega
    ·refine (jD (ρ:=r) (b:=8) (x:=bq r 3 (r.iv 16).toNat) o2 rfl (fun i hi=>?_) ?_).trans ?_
     ·have:¬(r.iv 9).toNat=i:=by simp only [Nat.reduceAdd] at hi;omega
      simp [bq,Sub.ag,assoc,CV.I,CV.B,ah,ai,ae.I,ae.B,SC.I,SC.B,IE.den,BE.den,Env.join,this]
     ·simp [bq,Sub.ag,assoc,CV.I,CV.B,ah,ai,ae.I,ae.B,SC.I,SC.B,IE.den,BE.den,Env.join]
     ·show notes r 8 ++ _=((notes r 0).take (r.iv 16+1).toNat).filter (fun n=>!pG (r.iv 4) n)
      rw [htk,List.filter_append,n1]
      simp [hk]
    ·refine Eq.trans (b:=notes r 12) (by exact eD rfl fun i _=>by simp [bq,Sub.ag,assoc,CV.I,CV.B,ah,ai,ae.I,ae.B,SC.I,SC.B,IE.den,BE.den,Env.join]) ?_
     show notes r 12=((notes r 0).take (r.iv 16+1).toNat).filter (pG (r.iv 4))
     rw [htk,List.filter_append,n2]
     simp [hk]
   ·show (r.iv 1-(r.iv 16+1)).toNat<(r.iv 1-r.iv 16).toNat
    omega
 ·replace hpre:jY (ρ.join 8 e):=hpre
  replace hI:pX (ρ.join 8 e):=hI
  replace hge:¬(ρ.join 8 e).iv 16<(ρ.join 8 e).iv 1:=of_decide_eq_false hge
  generalize ρ.join 8 e=q at *
  obtain ⟨⟨i1,i2⟩,⟨o,n1⟩,⟨p,n2⟩⟩:=hI
  rw [qF _ _ (by simp only [Nat.zero_add];omega)] at n1 n2
  refine Sat.fin ⟨o,?_,p,?_⟩
  ·exact Eq.trans (b:=notes q 8) (by exact eD rfl fun i _=>by simp [bq,Sub.ag,assoc,CV.I,CV.B,ah,ai,ae.I,ae.B,SC.I,SC.B,IE.den,BE.den,Env.join]) n1
  ·exact Eq.trans (b:=notes q 12) (by exact eD rfl fun i _=>by simp [bq,Sub.ag,assoc,CV.I,CV.B,ah,ai,ae.I,ae.B,SC.I,SC.B,IE.den,BE.den,Env.join]) n2
theorem Ng:aY Tryz.prog jA jY DL :=
 cZ dD (E:=Ls) (cs:=[]) rfl (fun k pre post h=>by cases h) bS rfl Nc (by kernel_rfl) (fun ρ _ p hp=>by cases hp) Nf
end Go.Proofs.YthomdlajobnmnaaGreatDoor.Sv
namespace Go.Proofs.YthomdlajobnmnaaGreatDoor
open Go.Rex
def Y0:Kn:=[(.aA (.lit 0) (.var 0),true),(.bR (.var 0) (.lit 6),true),(.bR (.var 1) (.lit 0),false),(.aA (.lit 9) (.var 1),false)]
noncomputable def l9:Ex:={sched:=sched,loops:=[],fin:=fM}
def EN:Out :=
 .ob (.inr .i64 (.mul (.var 0) (.lit 9))) <|
 .ob (.inr .i64 (.add (.lit 25) (.mul (.var 0) (.lit 9)))) <|
 .ob (.inr .i64 (.add (.add (.lit 25) (.mul (.var 0) (.lit 9))) (.var 1))) <|
 .fin {lo:=2,az:=0}
theorem R3:exec tab l9 8000 [] (eG fM.f fM.nv Y0 fM.gl fM.hp fM.args)=EN:=by kernel_rfl
def uT (ρ:Env):Prop:=(0≤ρ.iv 0∧ρ.iv 0<6)∧0≤ρ.iv 1∧ρ.iv 1<9
def kT (_:Env):Prop:=True
theorem R4 (ρ:Env) (hpre:uT ρ.num):Sat kT [] [] ρ EN:=by
 replace hpre:uT ρ:=hpre
 obtain ⟨⟨a,b⟩,c,d⟩:=hpre
 unfold EN
 refine Sat.ob ?_ (Sat.ob ?_ (Sat.ob ?_ (Sat.fin trivial)))
 all_goals simp only [Da];omega
theorem Jr:aY Tryz.prog fM uT kT :=
 cZ dD (E:=l9) (cs:=[]) rfl (fun k pre post h=>by cases h) bS rfl R3 (by kernel_rfl) (fun ρ h p hp=>by
   obtain ⟨⟨a,b⟩,c,d⟩:=h
   simp only [Y0,List.mem_cons,List.not_mem_nil,or_false] at hp
   rcases hp with rfl | rfl | rfl | rfl
   · exact decide_eq_true a
   · exact decide_eq_true b
   · exact decide_eq_false (by simp only [IE.den];omega)
   · exact decide_eq_false (by simp only [IE.den];omega)) R4
def Y1:Kn:=[(.aA (.lit 0) (.var 0),true),(.bR (.var 0) (.lit 6),true)]
noncomputable def Un:Ex:={sched:=sched,loops:=[],fin:=fZ}
def EO:Out :=
 .ob (.inr .i64 (.add (.lit 79) (.var 0))) <|
 .fin {lo:=1,az:=0}
theorem R5:exec tab Un 8000 [] (eG fZ.f fZ.nv Y1 fZ.gl fZ.hp fZ.args)=EO:=by kernel_rfl
def uU (ρ:Env):Prop:=0≤ρ.iv 0∧ρ.iv 0<6
theorem R6 (ρ:Env) (hpre:uU ρ.num):Sat kT [] [] ρ EO:=by
 replace hpre:uU ρ:=hpre
 obtain ⟨a,b⟩:=hpre
 unfold EO
 refine Sat.ob ?_ (Sat.fin trivial)
 simp only [Da];omega
theorem Js:aY Tryz.prog fZ uU kT :=
 cZ dD (E:=Un) (cs:=[]) rfl (fun k pre post h=>by cases h) bS rfl R5 (by kernel_rfl) (fun ρ h p hp=>by
   obtain ⟨a,b⟩:=h
   simp only [Y1,List.mem_cons,List.not_mem_nil,or_false] at hp
   rcases hp with rfl | rfl
   · exact decide_eq_true a
   · exact decide_eq_true b) R6
def zg:mf:=[(fM,uT,kT),(fZ,uU,kT)]
theorem EP:∀k pre post,(k,pre,post)∈zg→jy k=true∧aY Tryz.prog k pre post:=by
 intro k pre post h
 simp only [zg,List.mem_cons,List.not_mem_nil,or_false,Prod.mk.injEq] at h
 rcases h with ⟨rfl,rfl,rfl⟩ | ⟨rfl,rfl,rfl⟩
 ·exact ⟨by kernel_rfl,Jr⟩
 ·exact ⟨by kernel_rfl,Js⟩
end Go.Proofs.YthomdlajobnmnaaGreatDoor
namespace Go.Proofs.YthomdlajobnmnaaGreatDoor
open Go.Rex
noncomputable def Uo:Ex:={sched:=sched,loops:=[],fin:=fO}
def ES:Out :=
 .ob (.or (.not (.var 51)) (.aB (.var 52) (.lit 0))) <|
 .ob (.aA (.lit 0) (.var 52)) <|
 .br (.aB (.var 52) (.lit 0))
 (.fin {lo:=71,az:=4,iv:=yo [(132,.lit 0),(131,.lit 0),(130,.lit 0),(129,.lit 0)]<|yr 128 61 3<|[(124,yv 57),(123,yv 56),(120,.lit 0),(119,.lit 0),(117,.lit 0),(116,.lit 0),(114,.lit 0),(112,.lit 0),(111,.lit 0),(110,.lit 0),(109,.lit 0),(107,.lit 0),(106,.lit 0),(105,.lit 0),(104,.lit 0),(102,.lit 0),(101,.lit 0),(100,.lit 0),(99,.lit 0),(97,.lit 0),(96,.lit 0),(95,.lit 0),(94,.lit 0),(93,.lit 0),(92,.lit 0),(91,.lit 0),(90,.lit 0),(89,.lit 0),(88,.lit 0),(87,.lit 0),(86,.lit 0),(85,.lit 0),(83,.lit 0),(82,.lit 0),(81,.lit 0),(80,.lit 0),(78,.lit 0),(77,.lit 0),(76,.lit 0),(75,.lit 0),(74,.lit 0),(73,.lit 0),(72,.lit 0),(71,.lit 0)],bv:=[(134,.lit true),(133,.lit false),(125,yw 58),(122,yw 55),(118,.lit true),(115,.lit true),(113,.lit false),(108,.lit false),(103,.lit false),(98,.lit false),(84,.lit false),(79,.lit false)],ct:=[(137,yu 70 59 7 yN 0),(121,yl 54 9 5 50 yW 0)],bk:=[(6,yc 3 7)],nb:=[5,4,5,4]})
 (.ob (.not (.var 51)) <|
  .ob (.bR (.lit 0) (.var 52)) <|
  .ob (.aA (.lit 0) (.var 69)) <|
  .ob (.bR (.var 69) (.var 70)) <|
  .fin {lo:=71,az:=4,iv:=yo [(137,yv 70)]<|yr 132 65 7<|yo [(124,yv 57),(123,yv 56),(120,yv 53),(119,yv 52),(136,yv 69),(117,yv 50),(116,yv 49),(114,yv 47)]<|yr 112 45 4<|yr 107 40 4<|yo [(102,.lit 0),(101,.lit 0),(100,.lit 0),(99,.lit 0),(97,.cell 69 (.var 69) (.lit 0) 3),(96,.cell 69 (.var 69) (.lit 0) 2),(95,.cell 69 (.var 69) (.lit 0) 1),(94,.cell 69 (.var 69) (.lit 0) 0),(93,.lit 0),(92,.lit 0),(91,.lit 0),(90,.lit 5),(89,.lit 16)]<|yr 88 21 4<|yr 83 16 4<|yr 78 11 8 [],bv:=[(134,yw 67),(133,yw 66),(125,yw 58),(122,yw 55),(118,yw 51),(115,yw 48),(113,yw 46),(108,yw 41),(103,.lit false),(98,.cell 69 (.var 69) (.lit 0) 4),(84,yw 17),(79,yw 12)],ct:=[(137,yu 70 59 7 yN 0),(136,yu 69 70 7 yN 0),(135,yu 68 49 5 yW 0),(121,yl 54 9 5 50 yW 0)],bk:=[(6,yc 3 7),(5,yc 2 7),(4,yc 1 5)]})
theorem R7:exec tab Uo 8000 [] (eG fO.f fO.nv [] fO.gl fO.hp fO.args)=ES:=by kernel_rfl
def Jt (ρ:Env):Prop:=bH ρ 4
def wL (ρ:Env):Prop:=bH ρ 71∧aa ρ 0 71=(aa ρ 0 4).ed
theorem R8 (ρ:Env) (hpre:Jt ρ.num):Sat wL [] [] ρ ES:=by
 replace hpre:Jt ρ:=hpre
 obtain ⟨o1,o2,o3⟩:=hpre
 unfold ES
 have p2:=o2.1.2.1
 have p3:=o2.2
 simp only [Nat.reduceAdd] at p2 p3
 refine Sat.ob (aL o2.1) (Sat.ob (decide_eq_true p2) (Sat.br (fun c=>?_) (fun c=>?_)))
 ·simp only [Da] at c
  have hd:(aa ρ 0 4).bI=[]:=nJ c
  have hm:(aa ρ 0 4).ed=(aa ρ 0 4).done:=by unfold RS.ed;rw [hd]
  exact Sat.fin ⟨⟨(by first | exact o1 | exact o2 | exact o3 | exact aj rfl rfl | assumption),(by first | exact o2 | exact ⟨aj rfl rfl,Int.le_refl 0,.inl rfl⟩ | assumption),(by first | exact o1 | exact o2 | exact o3 | exact aj rfl rfl | assumption)⟩,Eq.trans (b:=(aa ρ 0 4).done) (RS.ext' rfl rfl rfl rfl rfl rfl bu bC rfl rfl rfl rfl bB rfl bz rfl rfl) (Eq.symm (hm))⟩
 ·simp only [Da] at c
  have h1:(aa ρ 0 4).bI=_:=DJ (ρ:=ρ) (r:=69) (o:=ρ.iv 69) (n:=ρ.iv 52) (by omega) p3.1
  have hm:(aa ρ 0 4).ed=(aa ρ 0 4).ask 16 ⟨5,0,0,0,(bN ρ 69 (ρ.iv 69).toNat).ref,Wd.zero⟩:=by unfold RS.ed;rw [h1]
  refine Sat.ob (bT o2.1 (by simp only [Nat.reduceAdd];omega)) (Sat.ob (by simp only [Da];omega) (Sat.ob (by simp only [Da];omega) (Sat.ob (by simp only [Da];omega) (Sat.fin ⟨⟨(by first | exact o1 | exact o2 | exact o3 | exact aj rfl rfl | assumption),(by first | exact o2 | exact ⟨aj rfl rfl,Int.le_refl 0,.inl rfl⟩ | assumption),(by first | exact o1 | exact o2 | exact o3 | exact aj rfl rfl | assumption)⟩,Eq.trans (b:=(aa ρ 0 4).ask 16 ⟨5,0,0,0,(bN ρ 69 (ρ.iv 69).toNat).ref,Wd.zero⟩) (RS.ext' rfl rfl rfl rfl rfl rfl bu bC rfl rfl rfl rfl bB rfl bz rfl rfl) (Eq.symm (hm))⟩))))
theorem Ju:aY Tryz.prog fO Jt wL :=
 cZ dD (E:=Uo) (cs:=[]) rfl (fun k pre post h=>by cases h) bS rfl R7 (by kernel_rfl) (fun ρ _ p hp=>by cases hp) R8
end Go.Proofs.YthomdlajobnmnaaGreatDoor
namespace Go.Proofs.YthomdlajobnmnaaGreatDoor
open Go.Rex
def uV (ρ:Env):Prop:=0≤ρ.iv 1∧ρ.iv 1<6∧1≤ρ.iv 2∧ρ.iv 2≤6
theorem je {σ:Sub} {ρ:Env} (h0:(σ.ag ρ).iv 0=ρ.iv 0) (h1:(σ.ag ρ).iv 1=ρ.iv 1) (h2:(σ.ag ρ).iv 2=ρ.iv 2) (h3:(σ.ag ρ).iv 3=ρ.iv 3):∀i,i<4→(σ.ag ρ).iv i=ρ.iv i:=by
 intro i hi
 match i with
 | 0=>exact h0
 | 1=>exact h1
 | 2=>exact h2
 | 3=>exact h3
noncomputable def Uq:Ex:={sched:=sched,loops:=[],cons:=[fM,fZ],fin:=iG}
def ET:Out :=
 .br (.or (.aB (.var 0) (.lit 2)) (.aB (.var 0) (.lit 3)))
 (.ob (.inr .i64 (.mul (.var 2) (.lit 9))) <|
  .br (.aA (.mul (.var 2) (.lit 9)) (.var 71))
  (.fin {lo:=72,az:=4,iv:=yo [(138,yv 70)]<|yr 133 65 7<|yo [(125,yv 57),(124,yv 56),(121,yv 53),(120,yv 52),(137,yv 69),(118,yv 50),(117,yv 49),(115,yv 47)]<|yr 113 45 4<|yr 108 40 4<|yr 103 35 4<|yr 98 30 13<|yr 84 16 4<|yr 79 11 8 [],bv:=[(135,yw 67),(134,yw 66),(126,yw 58),(123,yw 55),(119,yw 51),(116,yw 48),(114,yw 46),(109,yw 41),(104,yw 36),(99,yw 31),(85,yw 17),(80,yw 12),(139,.lit false)],ct:=[(138,yu 70 59 7 yN 0),(137,yu 69 70 7 yN 0),(136,yu 68 49 5 yW 0),(122,yl 54 9 5 50 yW 0)],bk:=[(6,yc 3 7),(5,yc 2 7),(4,yc 1 5)]})
  (.ob (.inr .i64 (.div (.var 71) (.lit 9))) <|
   .call 0 {lo:=0,az:=0,iv:=[(1,.mod (.var 71) (.lit 9)),(0,.div (.var 71) (.lit 9))]} 72 <|
   .fin {lo:=72,az:=4,iv:=yo [(138,yv 70)]<|yr 133 65 7<|yo [(125,yv 57),(124,yv 56),(121,yv 53),(120,yv 52),(137,yv 69),(118,yv 50),(117,yv 49),(115,yv 71)]<|yr 113 45 4<|yr 108 40 4<|yo [(103,.lit 0),(102,.lit 0),(101,.lit 0),(100,.lit 0),(98,.lit 0),(97,.lit 0),(96,.lit 0),(95,.lit 0),(94,.add (.add (.lit 25) (.mul (.div (.var 71) (.lit 9)) (.lit 9))) (.mod (.var 71) (.lit 9))),(93,.lit 0),(92,.lit 0),(91,.lit 1),(90,.lit 13)]<|yr 89 21 4<|yr 84 16 4<|yr 79 11 8 [],bv:=[(135,yw 67),(134,yw 66),(126,yw 58),(123,yw 55),(119,yw 51),(116,yw 48),(114,yw 46),(109,yw 41),(104,.lit false),(99,.lit false),(85,yw 17),(80,yw 12),(139,.lit true)],ct:=[(138,yu 70 59 7 yN 0),(137,yu 69 70 7 yN 0),(136,yu 68 49 5 yW 0),(122,yl 54 9 5 50 yW 0)],bk:=[(6,yc 3 7),(5,yc 2 7),(4,yc 1 5)]}))
 (.br (.aA (.var 2) (.var 71))
  (.fin {lo:=72,az:=4,iv:=yo [(138,yv 70)]<|yr 133 65 7<|yo [(125,yv 57),(124,yv 56),(121,yv 53),(120,yv 52),(137,yv 69),(118,yv 50),(117,yv 49),(115,yv 47)]<|yr 113 45 4<|yr 108 40 4<|yr 103 35 4<|yr 98 30 13<|yr 84 16 4<|yr 79 11 8 [],bv:=[(135,yw 67),(134,yw 66),(126,yw 58),(123,yw 55),(119,yw 51),(116,yw 48),(114,yw 46),(109,yw 41),(104,yw 36),(99,yw 31),(85,yw 17),(80,yw 12),(139,.lit false)],ct:=[(138,yu 70 59 7 yN 0),(137,yu 69 70 7 yN 0),(136,yu 68 49 5 yW 0),(122,yl 54 9 5 50 yW 0)],bk:=[(6,yc 3 7),(5,yc 2 7),(4,yc 1 5)]})
  (.call 1 {lo:=0,az:=0,iv:=[(0,yv 71)]} 72 <|
   .fin {lo:=72,az:=4,iv:=yo [(138,yv 70)]<|yr 133 65 7<|yo [(125,yv 57),(124,yv 56),(121,yv 53),(120,yv 52),(137,yv 69),(118,yv 50),(117,yv 49),(115,yv 71)]<|yr 113 45 4<|yr 108 40 4<|yo [(103,.lit 0),(102,.lit 0),(101,.lit 0),(100,.lit 0),(98,.lit 0),(97,.lit 0),(96,.lit 0),(95,.lit 0),(94,.add (.lit 79) (.var 71)),(93,.lit 0),(92,.lit 0),(91,.lit 1),(90,.lit 13)]<|yr 89 21 4<|yr 84 16 4<|yr 79 11 8 [],bv:=[(135,yw 67),(134,yw 66),(126,yw 58),(123,yw 55),(119,yw 51),(116,yw 48),(114,yw 46),(109,yw 41),(104,.lit false),(99,.lit false),(85,yw 17),(80,yw 12),(139,.lit true)],ct:=[(138,yu 70 59 7 yN 0),(137,yu 69 70 7 yN 0),(136,yu 68 49 5 yW 0),(122,yl 54 9 5 50 yW 0)],bk:=[(6,yc 3 7),(5,yc 2 7),(4,yc 1 5)]}))
theorem R9:exec tab Uq 8000 [] (eG iG.f iG.nv [] iG.gl iG.hp iG.args)=ET:=by kernel_rfl
def qW (ρ:Env):Prop:=bH ρ 4∧uV ρ∧0≤ρ.iv 71∧ρ.iv 71≤1000000
def rT (ρ:Env):Prop:=bH ρ 72∧ρ.bv 139=((aa ρ 0 4).look (ρ.iv 71)).isSome∧aa ρ 0 72=((aa ρ 0 4).look (ρ.iv 71)).getD (aa ρ 0 4)
theorem Gi {r q:RS} {n:Int} (h:r.look n=some q):(r.look n).getD r=q:=by rw [h];rfl
theorem Gj {r:RS} {n:Int} (h:r.look n=none):(r.look n).getD r=r:=by rw [h];rfl
theorem Y2 {n:Int} (h:0≤n):n.tdiv 9=n / 9∧n.tmod 9=n % 9:=⟨Int.tdiv_eq_ediv_of_nonneg h,Int.tmod_eq_emod_of_nonneg h⟩
theorem Sa (ρ:Env) (hpre:qW ρ.num):Sat rT zg [] ρ ET:=by
 replace hpre:qW ρ:=hpre
 obtain ⟨⟨o1,o2,o3⟩,⟨s1,s2,s3,s4⟩,n1,n2⟩:=hpre
 unfold ET
 refine Sat.br (fun c=>?_) (fun c=>?_)
 ·simp only [Da] at c
  have hk:(aa ρ 0 4).bJ:=c
  refine Sat.ob (by simp only [Da];omega) (Sat.br (fun c2=>?_) (fun c2=>?_))
  ·simp only [Da] at c2
   have hm:(aa ρ 0 4).look (ρ.iv 71)=none:=by unfold RS.look;rw [if_pos hk];exact if_pos c2
   exact Sat.fin ⟨⟨(by first | exact o1 | exact o2 | exact o3 | exact aj rfl rfl | assumption),(by first | exact o2 | exact ⟨aj rfl rfl,Int.le_refl 0,.inl rfl⟩ | assumption),(by first | exact o1 | exact o2 | exact o3 | exact aj rfl rfl | assumption)⟩,(by show false=_;exact (congrArg Option.isSome hm).symm),Eq.trans (b:=(aa ρ 0 4)) (RS.ext' rfl rfl rfl rfl rfl rfl bu bC rfl rfl rfl rfl bB rfl bz rfl rfl) (Eq.symm (Gj hm))⟩
  ·simp only [Da] at c2
   have hm:(aa ρ 0 4).look (ρ.iv 71)=some (({aa ρ 0 4 with index:=ρ.iv 71}:RS).load 13 0 0 (25+ρ.iv 71)):=by unfold RS.look;rw [if_pos hk];exact if_neg (by show ¬ρ.iv 71≥ρ.iv 2 * 9;omega)
   obtain ⟨d1,d2⟩:=Y2 n1
   refine Sat.ob (by simp only [Da];show _∧_;simp only [IE.den,d1];omega) (Sat.iH (c:=fM) rfl ⟨⟨?_,?_⟩,?_,?_⟩ (fun q=>((bH q 4)∧0≤q.iv 71)∧(aa q 0 4).look (q.iv 71)=some (({aa q 0 4 with index:=q.iv 71}:RS).load 13 0 0 (25+q.iv 71))) (fun e _=>⟨⟨⟨o1,o2,o3⟩,n1⟩,hm⟩) fun q hq=>?_)
   ·show 0≤(ρ.iv 71).tdiv 9;omega
   ·show (ρ.iv 71).tdiv 9<6;omega
   ·show 0≤(ρ.iv 71).tmod 9;omega
   ·show (ρ.iv 71).tmod 9<9;omega
   obtain ⟨⟨⟨o1,o2,o3⟩,n1⟩,hm⟩:=hq
   obtain ⟨d1,d2⟩:=Y2 n1
   have e:25+(q.iv 71).tdiv 9 * 9+(q.iv 71).tmod 9=25+q.iv 71:=by omega
   exact Sat.fin ⟨⟨(by first | exact o1 | exact o2 | exact o3 | exact aj rfl rfl | assumption),(by first | exact o2 | exact ⟨aj rfl rfl,Int.le_refl 0,.inl rfl⟩ | assumption),(by first | exact o1 | exact o2 | exact o3 | exact aj rfl rfl | assumption)⟩,(by show true=_;exact (congrArg Option.isSome hm).symm),Eq.trans (b:=(({aa q 0 4 with index:=q.iv 71}:RS).load 13 0 0 (25+q.iv 71))) (RS.ext' rfl rfl (congrArg (fun x=>(⟨1,0,0,x,Wd.zero,Wd.zero⟩:Ac)) e) rfl rfl rfl bu bC rfl rfl rfl rfl bB rfl bz rfl rfl) (Eq.symm (Gi hm))⟩
 ·simp only [Da] at c
  have hk:¬(aa ρ 0 4).bJ:=fun h:ρ.iv 0=2∨ρ.iv 0=3=>by omega
  refine Sat.br (fun c2=>?_) (fun c2=>?_)
  ·simp only [Da] at c2
   have hm:(aa ρ 0 4).look (ρ.iv 71)=none:=by unfold RS.look;rw [if_neg hk];exact if_pos c2
   exact Sat.fin ⟨⟨(by first | exact o1 | exact o2 | exact o3 | exact aj rfl rfl | assumption),(by first | exact o2 | exact ⟨aj rfl rfl,Int.le_refl 0,.inl rfl⟩ | assumption),(by first | exact o1 | exact o2 | exact o3 | exact aj rfl rfl | assumption)⟩,(by show false=_;exact (congrArg Option.isSome hm).symm),Eq.trans (b:=(aa ρ 0 4)) (RS.ext' rfl rfl rfl rfl rfl rfl bu bC rfl rfl rfl rfl bB rfl bz rfl rfl) (Eq.symm (Gj hm))⟩
  ·simp only [Da] at c2
   have hm:(aa ρ 0 4).look (ρ.iv 71)=some (({aa ρ 0 4 with index:=ρ.iv 71}:RS).load 13 0 0 (79+ρ.iv 71)):=by unfold RS.look;rw [if_neg hk];exact if_neg (by show ¬ρ.iv 71≥ρ.iv 2;omega)
   refine Sat.iH (c:=fZ) rfl ⟨n1,?_⟩ (fun q=>((bH q 4)∧0≤q.iv 71)∧(aa q 0 4).look (q.iv 71)=some (({aa q 0 4 with index:=q.iv 71}:RS).load 13 0 0 (79+q.iv 71))) (fun e _=>⟨⟨⟨o1,o2,o3⟩,n1⟩,hm⟩) fun q hq=>?_
   ·show ρ.iv 71<6;omega
   obtain ⟨⟨⟨o1,o2,o3⟩,n1⟩,hm⟩:=hq
   exact Sat.fin ⟨⟨(by first | exact o1 | exact o2 | exact o3 | exact aj rfl rfl | assumption),(by first | exact o2 | exact ⟨aj rfl rfl,Int.le_refl 0,.inl rfl⟩ | assumption),(by first | exact o1 | exact o2 | exact o3 | exact aj rfl rfl | assumption)⟩,(by show true=_;exact (congrArg Option.isSome hm).symm),Eq.trans (b:=(({aa q 0 4 with index:=q.iv 71}:RS).load 13 0 0 (79+q.iv 71))) (RS.ext' rfl rfl rfl rfl rfl rfl bu bC rfl rfl rfl rfl bB rfl bz rfl rfl) (Eq.symm (Gi hm))⟩
theorem Jv:aY Tryz.prog iG qW rT :=
 cZ dD (E:=Uq) (cs:=zg) rfl EP bS rfl R9 (by kernel_rfl) (fun ρ _ p hp=>by cases hp) Sa
end Go.Proofs.YthomdlajobnmnaaGreatDoor
