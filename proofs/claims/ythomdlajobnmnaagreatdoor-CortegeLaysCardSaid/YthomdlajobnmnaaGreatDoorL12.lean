/- part 12 of the proof -/
import Derived.Test.YthomdlajobnmnaaGreatDoorL10
import Derived.Test.YthomdlajobnmnaaGreatDoorL11
import Derived.Test.YthomdlajobnmnaaGreatDoorL9
set_option linter.unusedSimpArgs false
set_option linter.unusedVariables false
namespace Go.Rex
theorem bC.alloc {w0 w:World} {W:Nat→Prop} (h:bC w0 W w) (o:Obj):bC w0 W (w.alloc o) :=
 h.step rfl rfl rfl (by simp) fun k hk _=>heap_alloc_old w _ (Nat.lt_of_lt_of_le hk h.size)
section
variable {H:Type} {enc:TypeId × Value→H} {P:Program} {W:World}
open Go.WideShapes Go.ChangeShapes Go.RowKit
end
section
variable {σ:Sub} {ρ ρ':Env} {N:Nat}
theorem qA (m k:Nat):(bf σ m N ρ ρ').iv (m+k)=ρ'.iv (N+k):=by
 show (if m+k<m then (σ.ag ρ).iv (m+k) else ρ'.iv (m+k-m+N))=_
 rw [if_neg (by omega),show m+k-m+N=N+k by omega]
theorem zG (m k:Nat):(bf σ m N ρ ρ').bv (m+k)=ρ'.bv (N+k):=by
 show (if m+k<m then (σ.ag ρ).bv (m+k) else ρ'.bv (m+k-m+N))=_
 rw [if_neg (by omega),show m+k-m+N=N+k by omega]
theorem Qq (m k:Nat):(bf σ m N ρ ρ').ic (m+k)=ρ'.ic (N+k):=by
 show (if m+k<m then (σ.ag ρ).ic (m+k) else ρ'.ic (m+k-m+N))=_
 rw [if_neg (by omega),show m+k-m+N=N+k by omega]
theorem Qr (m k:Nat):(bf σ m N ρ ρ').bc (m+k)=ρ'.bc (N+k):=by
 show (if m+k<m then (σ.ag ρ).bc (m+k) else ρ'.bc (m+k-m+N))=_
 rw [if_neg (by omega),show m+k-m+N=N+k by omega]
end
end Go.Rex
namespace Go.Proofs.YthomdlajobnmnaaGreatDoor
open Go.Rex
def dL (ρ:Env) (r:Nat) (n:Int):List Wd:=(List.range n.toNat).map fun i=>aF (ρ.ic r i 0) (ρ.bc r i 0)
def bR (ρ:Env) (r:Nat) (i:Nat):Nt:=⟨aF (ρ.ic r i 0) (ρ.bc r i 0),ρ.ic r i 0 5,ρ.ic r i 0 6⟩
def aT (ρ:Env) (r:Nat) (n:Int):List Nt:=(List.range n.toNat).map (bR ρ r)
def gH (ρ:Env) (r:Nat) (o n:Int):List Nt:=(List.range n.toNat).map fun i=>bR ρ r (o.toNat+i)
def iW (ρ:Env) (v:Nat):Ca:=⟨ρ.iv v,ρ.iv (v+1),ρ.iv (v+2),ρ.iv (v+3),ak ρ (v+4),ak ρ (v+9),ρ.iv (v+14),ρ.iv (v+15),ρ.iv (v+16),ρ.iv (v+17)⟩
def aa (ρ:Env) (s v:Nat):RS where
 call:=iW ρ v
 step:=ρ.iv (v+18)
 acc:=ay ρ (v+19)
 word:=ak ρ (v+33)
 clock:=ak ρ (v+38)
 index:=ρ.iv (v+43)
 seen:=dL ρ (v+64) (ρ.iv (v+45))
 bL:=gH ρ (v+65) (ρ.iv (v+65)) (ρ.iv (v+48))
 av:=ρ.iv s
 me:=ρ.iv (s+1)
 threads:=ρ.iv (s+2)
 most:=ρ.iv (s+3)
 holds:=fun i=>aF (ρ.ic (v+50) i 0) (ρ.bc (v+50) i 0)
 span:=⟨ρ.bv (v+51),ρ.iv (v+52),ρ.iv (v+53)⟩
 notes:=aT ρ (v+66) (ρ.iv (v+55))
 freed:=ρ.iv (v+57)
 bV:=aG ρ (v+58)
def bK (ρ:Env) (v:Nat):Prop:=bG ρ (v+44)∧(bG ρ (v+47)∧0≤ρ.iv (v+65)∧(ρ.iv (v+48)=0∨ρ.iv (v+65)+ρ.iv (v+48)≤ρ.iv (v+66)))∧bG ρ (v+54)
theorem RS.ext' {p q:RS} (h1:p.call=q.call) (h2:p.step=q.step) (h3:p.acc=q.acc) (h4:p.word=q.word) (h5:p.clock=q.clock) (h6:p.index=q.index) (h7:p.seen=q.seen) (h8:p.bL=q.bL) (h9:p.av=q.av) (h10:p.me=q.me) (h11:p.threads=q.threads) (h12:p.most=q.most)
  (h13:∀i,p.holds i=q.holds i) (h14:p.span=q.span) (Vy:p.notes=q.notes) (h16:p.freed=q.freed) (h17:p.bV=q.bV):p=q:=by
 cases p
 cases q
 simp only at *
 subst h1 h2 h3 h4 h5 h6 h7 h8 h9 h10 h11 h12 h14 Vy h16 h17
 obtain rfl:=funext h13
 rfl
theorem Ez {ρ ρ':Env} {r r':Nat} {n n':Int} (hn:n=n') (h:∀i,aF (ρ.ic r i 0) (ρ.bc r i 0)=aF (ρ'.ic r' i 0) (ρ'.bc r' i 0)):dL ρ r n=dL ρ' r' n':=by
 subst hn
 unfold dL
 congr 1
 funext i
 exact h i
theorem fJ {ρ ρ':Env} {r r':Nat} {n n':Int} (hn:n=n') (h:∀i,bR ρ r i=bR ρ' r' i):aT ρ r n=aT ρ' r' n':=by
 subst hn
 unfold aT
 congr 1
 funext i
 exact h i
theorem Hd {ρ:Env} {r:Nat} {n:Int} (hn:n=0):dL ρ r n=[]:=by subst hn;rfl
theorem He {ρ:Env} {r:Nat} {n:Int} (hn:n=0):aT ρ r n=[]:=by subst hn;rfl
theorem xm {ρ ρ':Env} {r r':Nat} {o o' n n':Int} (hn:n=n') (ho:o=o') (h:∀i,bR ρ r i=bR ρ' r' i):gH ρ r o n=gH ρ' r' o' n':=by
 subst hn ho
 unfold gH
 congr 1
 funext i
 exact h _
theorem nZ {ρ:Env} {r:Nat} {o n:Int} (hn:n=0):gH ρ r o n=[]:=by subst hn;rfl
theorem bA {a b:List Wd} (h:a=b:=by first | exact Hd rfl | exact Ez rfl fun i=>by simp [aF,-Int.pred_toNat,Sub.ag,assoc,CV.I,CV.B,ah,ai,ae.I,ae.B,SC.I,SC.B,IE.den,BE.den] | assumption):a=b:=h
theorem bB {a b:List Nt} (h:a=b:=by first | exact He rfl | exact fJ rfl fun i=>by simp [bR,aF,-Int.pred_toNat,Sub.ag,assoc,CV.I,CV.B,ah,ai,ae.I,ae.B,SC.I,SC.B,IE.den,BE.den] | assumption):a=b:=h
theorem bF {a b:List Nt} (h:a=b:=by first | exact nZ rfl | exact xm rfl rfl fun i=>by simp [bR,aF,-Int.pred_toNat,Sub.ag,assoc,CV.I,CV.B,ah,ai,ae.I,ae.B,SC.I,SC.B,IE.den,BE.den] | assumption):a=b:=h
theorem bE {a b:Nat→Wd} (h:∀i,a i=b i:=by intro i;first | rfl | (simp [aa,aF,-Int.pred_toNat,Sub.ag,assoc,CV.I,CV.B,ah,ai,ae.I,ae.B,SC.I,SC.B,IE.den,BE.den];done) | (simp [aa,aF,-Int.pred_toNat,Sub.ag,assoc,CV.I,CV.B,ah,ai,ae.I,ae.B,SC.I,SC.B,IE.den,BE.den];rfl)):∀i,a i=b i:=h
theorem Oi {ρ:Env} {r:Nat} {n:Int}:gH ρ r 0 n=aT ρ r n:=by
 unfold gH aT
 congr 1
 funext i
 simp
theorem EA {ρ:Env} {r:Nat} {o n:Int} (h0:0<n) (ho:0≤o):gH ρ r o n=bR ρ r o.toNat :: gH ρ r (o+1) (n-1):=by
 unfold gH
 rw [show n.toNat=(n-1).toNat+1 by omega,List.range_succ_eq_map,List.map_cons,List.map_map,Nat.add_zero]
 congr 1
 congr 1
 funext i
 simp only [Function.comp]
 congr 1
 omega
theorem uf {ρ:Env} {r:Nat} {n:Int}:(dL ρ r n).length=n.toNat:=by simp [dL]
theorem jP {ρ:Env} {r:Nat} {n:Int}:(aT ρ r n).length=n.toNat:=by simp [aT]
theorem Oj {ρ ρ':Env} {r r':Nat} {n n':Int} {w:Wd} (h0:0≤n) (hn:n'=n+1) (h:∀i:Nat,(i:Int)<n→aF (ρ'.ic r' i 0) (ρ'.bc r' i 0)=aF (ρ.ic r i 0) (ρ.bc r i 0)) (hw:aF (ρ'.ic r' n.toNat 0) (ρ'.bc r' n.toNat 0)=w) :
  dL ρ' r' n'=dL ρ r n ++ [w]:=by
 subst hn hw
 unfold dL
 rw [show (n+1).toNat=n.toNat+1 by omega,List.range_succ,List.map_append]
 congr 1
 exact List.map_congr_left fun i hi=>h i (by have:=List.mem_range.1 hi;omega)
theorem Ol {ρ ρ':Env} {r r':Nat} {n n':Int} {w:Nt} (h0:0≤n) (hn:n'=n+1) (h:∀i:Nat,(i:Int)<n→bR ρ' r' i=bR ρ r i) (hw:bR ρ' r' n.toNat=w) :
  aT ρ' r' n'=aT ρ r n ++ [w]:=by
 subst hn hw
 unfold aT
 rw [show (n+1).toNat=n.toNat+1 by omega,List.range_succ,List.map_append]
 congr 1
 exact List.map_congr_left fun i hi=>h i (by have:=List.mem_range.1 hi;omega)
theorem oU {a b:Wd}:a=b↔a.slot=b.slot∧a.gen=b.gen∧a.tag=b.tag∧a.num=b.num∧a.mark=b.mark:=by
 cases a;cases b;simp
section
variable {σ:Sub} {ρ q:Env} {m d i:Nat}
theorem EB (h:i<m):(bf σ m d ρ q).iv i=(σ.ag ρ).iv i:=if_pos h
theorem Z0 (h:i<m):(bf σ m d ρ q).bv i=(σ.ag ρ).bv i:=if_pos h
theorem Vz (h:i<m):(bf σ m d ρ q).ic i=(σ.ag ρ).ic i:=if_pos h
theorem VA (h:i<m):(bf σ m d ρ q).bc i=(σ.ag ρ).bc i:=if_pos h
theorem Qs (h:i<m):bR (bf σ m d ρ q) i=bR (σ.ag ρ) i:=by
 funext k
 unfold bR
 rw [Vz h,VA h]
theorem Hf (k:Nat):bR (bf σ m d ρ q) (m+k)=bR q (d+k):=by
 funext j
 unfold bR
 rw [Qq,Qr]
theorem MH (h:71≤m):aa (bf σ m d ρ q) 0 4=aa (σ.ag ρ) 0 4:=by
 unfold aa iW ay aG ak dL aT gH
 simp (disch:=omega) only [Qs,EB,Z0,Vz,VA]
theorem MI (h:71≤m) (hst:∀i,i<4→(σ.ag ρ).iv i=q.iv i):aa (bf σ m d ρ q) 0 m=aa q 0 d:=by
 have h0:=(EB (σ:=σ) (ρ:=ρ) (q:=q) (d:=d) (show 0<m by omega)).trans (hst 0 (by omega))
 have h1:=(EB (σ:=σ) (ρ:=ρ) (q:=q) (d:=d) (show 0+1<m by omega)).trans (hst 1 (by omega))
 have h2:=(EB (σ:=σ) (ρ:=ρ) (q:=q) (d:=d) (show 0+2<m by omega)).trans (hst 2 (by omega))
 have h3:=(EB (σ:=σ) (ρ:=ρ) (q:=q) (d:=d) (show 0+3<m by omega)).trans (hst 3 (by omega))
 have z0:=qA (σ:=σ) (ρ:=ρ) (ρ':=q) (N:=d) m 0
 have z1:=zG (σ:=σ) (ρ:=ρ) (ρ':=q) (N:=d) m 0
 rw [Nat.add_zero,Nat.add_zero] at z0 z1
 unfold aa iW ay aG ak dL aT gH
 rw [h0,h1,h2,h3]
 simp only [Hf,Nat.add_assoc,Nat.reduceAdd,qA,zG,Qq,Qr,z0,z1]
theorem mf (k:Nat):bG (bf σ m d ρ q) (m+k)=bG q (d+k):=by
 unfold bG
 simp only [Nat.add_assoc,qA,zG]
theorem Kc:bK (bf σ m d ρ q) m=bK q d:=by
 unfold bK
 rw [mf,mf,mf,qA,qA,qA]
end
section
variable {post:Env→Prop} {cs:mY} {Γ:List (Env→Prop)} {ρ:Env}
theorem eB {g nv:Nat} {σ:Sub} {k:Out} {c:dJ} {pre pst:Env→Prop} (hg:cs[g]?=some (c,pre,pst)) (r:RS) (M:RS)
  (hm:71≤c.nv) (h4:4≤nv) (hst:∀i,i<4→(σ.ag ρ).iv i=ρ.iv i) (hpre:pre (σ.ag ρ)) (hr:aa (σ.ag ρ) 0 4=r)
  (aby:∀e:Env,pst (bf σ c.nv nv ρ (ρ.join nv e))→aa (bf σ c.nv nv ρ (ρ.join nv e)) 0 4=r→bK (bf σ c.nv nv ρ (ρ.join nv e)) c.nv∧aa (bf σ c.nv nv ρ (ρ.join nv e)) 0 c.nv=M) (K:Env→Prop)
  (hK:∀e,bK (ρ.join nv e) nv→aa (ρ.join nv e) 0 nv=M→K (ρ.join nv e)) (h:∀q,K q→Sat post cs Γ q k):Sat post cs Γ ρ (.call g σ nv k):=by
 refine Sat.iT hg hpre K (fun e hq=>?_) h
 have hs:∀i,i<4→(σ.ag ρ).iv i=(ρ.join nv e).iv i:=fun i hi=>by
  rw [hst i hi]
  exact (if_pos (show i<nv by omega)).symm
 obtain ⟨a,b⟩:=aby e hq ((MH hm).trans hr)
 rw [Kc] at a
 rw [MI hm hs] at b
 exact hK e a b
end
theorem aj {ρ:Env} {b:Nat} (h1:ρ.iv (b+1)=0) (h2:ρ.iv (b+2)=0):bG ρ b:=by
 refine ⟨fun _=>h1,?_,?_,?_⟩ <;> omega
end Go.Proofs.YthomdlajobnmnaaGreatDoor
namespace Go.Proofs.YthomdlajobnmnaaGreatDoor.Sv
open Go.Rex
structure uI where
 slot:Int
 gen:Int
 tag:Int
 num:Int
 mark:Bool
 ko:Int
 lg:Int
 deriving DecidableEq
def bg (ρ:Env) (r i:Nat):uI:=⟨ρ.ic r i 0 0,ρ.ic r i 0 1,ρ.ic r i 0 2,ρ.ic r i 0 3,ρ.bc r i 0 4,ρ.ic r i 0 5,ρ.ic r i 0 6⟩
def notes (ρ:Env) (b:Nat):List uI:=(List.range (ρ.iv (b+1)).toNat).map (bg ρ (b+3))
theorem ug {α:Type} {f g:Nat→α} {n:Nat} (h:∀i,i<n→f i=g i):(List.range n).map f=(List.range n).map g :=
 List.map_congr_left fun i hi=>h i (List.mem_range.1 hi)
theorem kC (ρ:Env) (b:Nat):(notes ρ b).length=(ρ.iv (b+1)).toNat:=by simp [notes]
theorem jQ {ρ ρ':Env} {b b':Nat} {x:uI} (h0:0≤ρ.iv (b+1)) (h1:ρ'.iv (b'+1)=ρ.iv (b+1)+1) (h2:∀i,i<(ρ.iv (b+1)).toNat→bg ρ' (b'+3) i=bg ρ (b+3) i)
  (h3:bg ρ' (b'+3) (ρ.iv (b+1)).toNat=x):notes ρ' b'=notes ρ b ++ [x]:=by
 unfold notes
 rw [h1,show (ρ.iv (b+1)+1).toNat=(ρ.iv (b+1)).toNat+1 by omega,List.range_succ,List.map_append,ug h2,List.map_cons,List.map_nil,h3]
theorem eO {ρ ρ':Env} {b b':Nat} (h1:ρ'.iv (b'+1)=ρ.iv (b+1)) (h2:∀i,i<(ρ.iv (b+1)).toNat→bg ρ' (b'+3) i=bg ρ (b+3) i):notes ρ' b'=notes ρ b:=by
 unfold notes
 rw [h1,ug h2]
theorem qZ {ρ:Env} {b:Nat} {i:Nat} (h:i<(ρ.iv (b+1)).toNat):(notes ρ b).take (i+1)=(notes ρ b).take i ++ [bg ρ (b+3) i]:=by
 have hl:i<(notes ρ b).length:=by rw [kC];exact h
 rw [List.take_succ_eq_append_getElem hl]
 simp [notes]
theorem q9 (ρ:Env) (b:Nat) {n:Nat} (h:(ρ.iv (b+1)).toNat≤n):(notes ρ b).take n=notes ρ b:=List.take_of_length_le (by rw [kC];exact h)
def kD (ρ:Env) (b:Nat):List Int:=(List.range (ρ.iv (b+1)).toNat).map fun j=>ρ.ic (b+3) j 0 0
def uJ (ρ:Env) (b:Nat):List (Bool × Int × Int):=(List.range (ρ.iv (b+1)).toNat).map fun j=>(ρ.bc (b+3) j 0 0,ρ.ic (b+3) j 0 1,ρ.ic (b+3) j 0 2)
def qc (l:List Int) (n:uI):Bool:=l.any fun s=>decide (s=n.slot)
def mW (l:List Int) (n:uI):Bool:=l.any fun e=>decide ((0<e∧n.ko≤e)∧e≤n.lg)
def qd (l:List (Bool × Int × Int)) (n:uI):Bool:=l.any fun s=>decide ((s.1=true∧s.2.1≤n.lg)∧n.ko≤s.2.2)
def qf (now:Int) (n:uI):Bool:=decide (now < -9223372036854775806∨now-2<n.lg)
noncomputable def Qt:Ex:={sched:=sched,loops:=[Oe,YL],fin:=kY}
def Cw:Out :=
 .ob (.or (.not (.var 0)) (.aB (.var 1) (.lit 0))) <|
 .ob (.aA (.lit 0) (.var 1)) <|
 .loop 8 {lo:=8,az:=3,iv:=[(16,.lit 0),(14,.lit 0),(13,.lit 0),(10,.lit 0),(9,.lit 0)],bv:=[(12,.lit true),(8,.lit true)],nb:=[4,3]} <|
 .br (.bS (.var 16) (.var 1))
 (.ob (.not (.var 0)) <|
  .ob (.aA (.lit 0) (.var 16)) <|
  .ob (.or (.not (.var 4)) (.aB (.var 5) (.lit 0))) <|
  .ob (.aA (.lit 0) (.var 5)) <|
  .loop 17 {lo:=17,az:=7,iv:=[(17,.lit 0)]} <|
  .br (.bS (.var 17) (.var 5))
  (.ob (.not (.var 4)) <|
   .ob (.aA (.lit 0) (.var 17)) <|
   .br (.aB (.cell 7 (.var 17) (.lit 0) 0) (.cell 3 (.var 16) (.lit 0) 0))
   (.ob (.aA (.mul (.add (.var 13) (.lit 1)) (.lit 56)) (.lit 140737488355328)) <|
    .ob (.aA (.lit 0) (.var 13)) <|
    .ob (.aA (.var 13) (.var 14)) <|
    .ob (.aA (.var 14) (.lit 9223372036854775807)) <|
    .ob (.or (.not (.var 12)) (.aB (.var 13) (.lit 0))) <|
    .new 18 [.be (.and (.aA (.add (.var 13) (.lit 1)) (.var 18)) (.aA (.var 18) (.lit 9223372036854775807)))] <|
    .ob (.inr .i64 (.add (.var 16) (.lit 1))) <|
    .back 1 {lo:=8,az:=3,iv:=[(16,.add (.var 16) (.lit 1)),(14,yv 18),(13,.add (.var 13) (.lit 1)),(10,yv 10),(9,yv 9)],bv:=[(12,.lit false),(8,yw 8)],ct:=[(15,.up {r:=15,n1:=.add (.var 13) (.lit 1),s1:=7,ks:=yN} 0 [⟨0,(.var 13),(.lit 0),0,.int .i64 (.cell 3 (.var 16) (.lit 0) 0)⟩,⟨0,(.var 13),(.lit 0),1,.int .i64 (.cell 3 (.var 16) (.lit 0) 1)⟩,⟨0,(.var 13),(.lit 0),2,.int .i64 (.cell 3 (.var 16) (.lit 0) 2)⟩,⟨0,(.var 13),(.lit 0),3,.int .i64 (.cell 3 (.var 16) (.lit 0) 3)⟩,⟨0,(.var 13),(.lit 0),4,.bool (.cell 3 (.var 16) (.lit 0) 4)⟩,⟨0,(.var 13),(.lit 0),5,.int .i64 (.cell 3 (.var 16) (.lit 0) 5)⟩,⟨0,(.var 13),(.lit 0),6,.int .i64 (.cell 3 (.var 16) (.lit 0) 6)⟩] (.lit 0)),(11,yu 11 9 7 yN 0)],bk:=[(4,yc 9 7),(3,yc 3 7)]})
   (.ob (.inr .i64 (.add (.var 17) (.lit 1))) <|
    .back 0 {lo:=17,az:=7,iv:=[(17,.add (.var 17) (.lit 1))]}))
  (.ob (.aA (.mul (.add (.var 9) (.lit 1)) (.lit 56)) (.lit 140737488355328)) <|
   .ob (.aA (.lit 0) (.var 9)) <|
   .ob (.aA (.var 9) (.var 10)) <|
   .ob (.aA (.var 10) (.lit 9223372036854775807)) <|
   .ob (.or (.not (.var 8)) (.aB (.var 9) (.lit 0))) <|
   .new 18 [.be (.and (.aA (.add (.var 9) (.lit 1)) (.var 18)) (.aA (.var 18) (.lit 9223372036854775807)))] <|
   .ob (.inr .i64 (.add (.var 16) (.lit 1))) <|
   .back 1 {lo:=8,az:=3,iv:=[(16,.add (.var 16) (.lit 1)),(14,yv 14),(13,yv 13),(10,yv 18),(9,.add (.var 9) (.lit 1))],bv:=[(12,yw 12),(8,.lit false)],ct:=[(15,yu 15 13 7 yN 0),(11,.up {r:=11,n1:=.add (.var 9) (.lit 1),s1:=7,ks:=yN} 0 [⟨0,(.var 9),(.lit 0),0,.int .i64 (.cell 3 (.var 16) (.lit 0) 0)⟩,⟨0,(.var 9),(.lit 0),1,.int .i64 (.cell 3 (.var 16) (.lit 0) 1)⟩,⟨0,(.var 9),(.lit 0),2,.int .i64 (.cell 3 (.var 16) (.lit 0) 2)⟩,⟨0,(.var 9),(.lit 0),3,.int .i64 (.cell 3 (.var 16) (.lit 0) 3)⟩,⟨0,(.var 9),(.lit 0),4,.bool (.cell 3 (.var 16) (.lit 0) 4)⟩,⟨0,(.var 9),(.lit 0),5,.int .i64 (.cell 3 (.var 16) (.lit 0) 5)⟩,⟨0,(.var 9),(.lit 0),6,.int .i64 (.cell 3 (.var 16) (.lit 0) 6)⟩] (.lit 0))],bk:=[(4,yc 4 7),(3,yc 8 7)]}))
 (.fin {lo:=8,az:=2,iv:=[(14,yv 14),(13,yv 13),(10,yv 10),(9,yv 9)],bv:=[(12,yw 12),(8,yw 8)],ct:=[(15,yu 15 13 7 yN 0),(11,yu 11 9 7 yN 0)],bk:=[(3,yc 4 7),(2,yc 3 7)]})
theorem Qu:exec tab Qt 4000 [] (dZ kY.f 8 [] [] kY.hp kY.args)=Cw:=by kernel_rfl
def xq (ρ:Env) (i j:Nat):Prop:=ρ.ic 7 j 0 0=ρ.ic 3 i 0 0
def mg (ρ:Env):Prop:=bG ρ 0∧ρ.iv 1≤1000000∧bG ρ 4∧ρ.iv 5≤1000000
def Hg (ρ:Env):Prop:=bG ρ 8∧notes ρ 8=(notes ρ 0).filter (fun n=>!qc (kD ρ 4) n)∧bG ρ 12∧notes ρ 12=(notes ρ 0).filter (qc (kD ρ 4))
def sJ (ρ:Env):Prop:=(0≤ρ.iv 16∧ρ.iv 16≤ρ.iv 1)∧(bG ρ 8∧notes ρ 8=((notes ρ 0).take (ρ.iv 16).toNat).filter (fun n=>!qc (kD ρ 4) n))∧bG ρ 12∧notes ρ 12=((notes ρ 0).take (ρ.iv 16).toNat).filter (qc (kD ρ 4))
def FN (ρ:Env):Prop:=(0≤ρ.iv 17∧ρ.iv 17≤ρ.iv 5)∧∀j:Nat,(j:Int)<ρ.iv 17→¬xq ρ (ρ.iv 16).toNat j
def pR (ρ:Env):Prop:=mg ρ∧sJ ρ∧ρ.iv 16<ρ.iv 1
theorem pR.lens {ρ:Env} (h:pR ρ):ρ.iv 9≤ρ.iv 16∧ρ.iv 13≤ρ.iv 16:=by
 obtain ⟨⟨a1,a5,b1,b5⟩,⟨⟨i1,i2⟩,⟨⟨o1,o2,o3,o4⟩,n1⟩,⟨⟨p1,p2,p3,p4⟩,n2⟩⟩,hlt⟩:=h
 have l1:(notes ρ 8).length≤(ρ.iv 16).toNat:=by
  rw [n1];refine Nat.le_trans (List.length_filter_le _ _) ?_;rw [List.length_take];omega
 have l2:(notes ρ 12).length≤(ρ.iv 16).toNat:=by
  rw [n2];refine Nat.le_trans (List.length_filter_le _ _) ?_;rw [List.length_take];omega
 rw [kC] at l1 l2
 simp only [Nat.reduceAdd] at *
 omega
theorem pR.take {ρ:Env} (h:pR ρ):(notes ρ 0).take (ρ.iv 16+1).toNat=(notes ρ 0).take (ρ.iv 16).toNat ++ [bg ρ 3 (ρ.iv 16).toNat]:=by
 obtain ⟨_,⟨⟨i1,i2⟩,_⟩,hlt⟩:=h
 rw [show (ρ.iv 16+1).toNat=(ρ.iv 16).toNat+1 by omega]
 exact qZ (b:=0) (by simp only [Nat.zero_add];omega)
theorem Qv (ρ:Env) (hpre:mg ρ.num):Sat Hg [] [] ρ Cw:=by
 replace hpre:mg ρ:=hpre
 unfold Cw
 refine Sat.ob (aK hpre.1) (Sat.ob (decide_eq_true hpre.1.2.1) (Sat.loop sJ (fun r=>(r.iv 1-r.iv 16).toNat) ?_ fun e hI=>Sat.br (fun hlt=>?_) (fun hge=>?_)))
 ·have h2:=hpre.1.2.1
  simp [sJ,bG,notes,Sub.ag,assoc,CV.I,CV.B,ah,ai,ae.I,ae.B,SC.I,SC.B,IE.den,BE.den,h2]
 ·replace hpre:mg (ρ.join 8 e):=hpre
  replace hI:sJ (ρ.join 8 e):=hI
  replace hlt:(ρ.join 8 e).iv 16<(ρ.join 8 e).iv 1:=of_decide_eq_true hlt
  have hat:pR (ρ.join 8 e):=⟨hpre,hI,hlt⟩
  clear hpre hI hlt
  have hm:((ρ.join 8 e).num.iv 1-(ρ.join 8 e).num.iv 16).toNat=((ρ.join 8 e).iv 1-(ρ.join 8 e).iv 16).toNat:=rfl
  rw [hm]
  clear hm
  generalize ρ.join 8 e=r at *
  have hpre:=hat.1
  obtain ⟨⟨i1,i2⟩,-⟩:=hat.2.1
  have hlt:=hat.2.2
  obtain ⟨l1,l2⟩:=hat.lens
  refine Sat.ob ?_ (Sat.ob (decide_eq_true i1) (Sat.ob (aK hpre.2.2.1) (Sat.ob (decide_eq_true hpre.2.2.1.2.1) (Sat.loop FN (fun r=>(r.iv 5-r.iv 17).toNat) ?_ fun e2 hI2=>Sat.br (fun hlt2=>?_) (fun zH=>?_)))))
  ·simp only [D.le,D.gp,D.lt,D.gq,D.eq,D.gz,D.not,D.dR,D.and,D.dS,D.or,D.gB,D.inr,D.var,D.lit,D.dh,D.beq,D.dU,D.dV,D.dW,D.add,D.sub,D.mul,D.min,D.max,D.di,D.bT,D.bU]
   cases h:r.bv 0
   ·rfl
   ·have:=hpre.1.1 h
    simp only [Nat.zero_add] at this
    omega
  ·refine ⟨⟨Int.le_refl 0,hpre.2.2.1.2.1⟩,fun j hj=>?_⟩
   have:(j:Int)<0:=hj
   omega
  ·replace hI2:FN (r.join 17 e2):=hI2
   replace hat:pR (r.join 17 e2):=hat
   replace hlt2:(r.join 17 e2).iv 17<(r.join 17 e2).iv 5:=of_decide_eq_true hlt2
   rw [show (r.iv 1-r.iv 16).toNat=((r.join 17 e2).iv 1-(r.join 17 e2).iv 16).toNat from rfl]
   rw [show ((r.join 17 e2).num.iv 5-(r.join 17 e2).num.iv 17).toNat=((r.join 17 e2).iv 5-(r.join 17 e2).iv 17).toNat from rfl]
   clear hpre hlt l1 l2 i1 i2
   generalize r.join 17 e2=q at *
   have hpre:=hat.1
   obtain ⟨⟨i1,i2⟩,-⟩:=hat.2.1
   have hlt:=hat.2.2
   obtain ⟨l1,l2⟩:=hat.lens
   obtain ⟨⟨j1,j2⟩,j3⟩:=hI2
   refine Sat.ob ?_ (Sat.ob (decide_eq_true j1) (Sat.br (fun heq=>?_) (fun hne=>?_)))
   ·simp only [D.le,D.gp,D.lt,D.gq,D.eq,D.gz,D.not,D.dR,D.and,D.dS,D.or,D.gB,D.inr,D.var,D.lit,D.dh,D.beq,D.dU,D.dV,D.dW,D.add,D.sub,D.mul,D.min,D.max,D.di,D.bT,D.bU]
    cases h:q.bv 4
    ·rfl
    ·have:=hpre.2.2.1.1 h
     simp only [Nat.reduceAdd] at this
     omega
   ·replace heq:xq q (q.iv 16).toNat (q.iv 17).toNat:=by simp only [D.le,D.gp,D.lt,D.gq,D.eq,D.gz,D.not,D.dR,D.and,D.dS,D.or,D.gB,D.inr,D.var,D.lit,D.dh,D.beq,D.dU,D.dV,D.dW,D.add,D.sub,D.mul,D.min,D.max,D.di,D.bT,D.bU] at heq;exact heq
    have hk:qc (kD q 4) (bg q 3 (q.iv 16).toNat)=true:=by
     refine List.any_eq_true.2 ⟨_,List.mem_map.2 ⟨(q.iv 17).toNat,List.mem_range.2 (by simp only [Nat.reduceAdd];omega),rfl⟩,decide_eq_true heq⟩
    obtain ⟨⟨o1,o2,o3,o4⟩,n1⟩:=hat.2.1.2.1
    obtain ⟨⟨p1,p2,p3,p4⟩,n2⟩:=hat.2.1.2.2
    have htk:=hat.take
    obtain ⟨_,a5,_,b5⟩:=hpre
    simp only [Nat.reduceAdd] at *
    refine Sat.ob ?_ (Sat.ob (decide_eq_true p2) (Sat.ob (decide_eq_true p3) (Sat.ob (decide_eq_true p4) (Sat.ob (aK hat.2.1.2.2.1) (Sat.new fun e3 hf=>Sat.ob ?_ (Sat.back rfl ⟨?_,?_⟩))))))
    ·simp only [D.le,D.gp,D.lt,D.gq,D.eq,D.gz,D.not,D.dR,D.and,D.dS,D.or,D.gB,D.inr,D.var,D.lit,D.dh,D.beq,D.dU,D.dV,D.dW,D.add,D.sub,D.mul,D.min,D.max,D.di,D.bT,D.bU];omega
    ·simp only [D.le,D.gp,D.lt,D.gq,D.eq,D.gz,D.not,D.dR,D.and,D.dS,D.or,D.gB,D.inr,D.var,D.lit,D.dh,D.beq,D.dU,D.dV,D.dW,D.add,D.sub,D.mul,D.min,D.max,D.di,D.bT,D.bU];simp [Env.join];omega
    ·have hf:=hf _ (List.mem_singleton.2 rfl)
     simp only [D.be,D.le,D.gp,D.lt,D.gq,D.eq,D.gz,D.not,D.dR,D.and,D.dS,D.or,D.gB,D.inr,D.var,D.lit,D.dh,D.beq,D.dU,D.dV,D.dW,D.add,D.sub,D.mul,D.min,D.max,D.di,D.bT,D.bU] at hf
     simp [Env.join] at hf
     refine ⟨⟨by simp [Sub.ag,assoc,CV.I,CV.B,ah,ai,ae.I,ae.B,SC.I,SC.B,IE.den,BE.den,Env.join];omega,by simp [Sub.ag,assoc,CV.I,CV.B,ah,ai,ae.I,ae.B,SC.I,SC.B,IE.den,BE.den,Env.join];omega⟩,⟨⟨o1,o2,o3,o4⟩,?_⟩,⟨?_,?_⟩⟩
     ·refine Eq.trans (b:=notes q 8) (by exact eO rfl fun i _=>by simp [bg,Sub.ag,assoc,CV.I,CV.B,ah,ai,ae.I,ae.B,SC.I,SC.B,IE.den,BE.den,Env.join]) ?_
      show notes q 8=((notes q 0).take (q.iv 16+1).toNat).filter (fun n=>!qc (kD q 4) n)
      rw [htk,List.filter_append,n1]
      simp [hk]
     ·simp [bG,Sub.ag,assoc,CV.I,CV.B,ah,ai,ae.I,ae.B,SC.I,SC.B,IE.den,BE.den,Env.join]
      omega
     ·refine (jQ (ρ:=q) (b:=12) (x:=bg q 3 (q.iv 16).toNat) p2 rfl (fun i hi=>?_) ?_).trans ?_
      ·have:¬(q.iv 13).toNat=i:=by simp only [Nat.reduceAdd] at hi;omega
       simp [bg,Sub.ag,assoc,CV.I,CV.B,ah,ai,ae.I,ae.B,SC.I,SC.B,IE.den,BE.den,Env.join,this]
      ·simp [bg,Sub.ag,assoc,CV.I,CV.B,ah,ai,ae.I,ae.B,SC.I,SC.B,IE.den,BE.den,Env.join]
      ·show notes q 12 ++ _=((notes q 0).take (q.iv 16+1).toNat).filter (qc (kD q 4))
       rw [htk,List.filter_append,n2]
       simp [hk]
    ·show (q.iv 1-(q.iv 16+1)).toNat<(q.iv 1-q.iv 16).toNat
     omega
   ·replace hne:¬xq q (q.iv 16).toNat (q.iv 17).toNat:=fun h=>by
     exact Bool.false_ne_true (hne.symm.trans (by simp only [D.le,D.gp,D.lt,D.gq,D.eq,D.gz,D.not,D.dR,D.and,D.dS,D.or,D.gB,D.inr,D.var,D.lit,D.dh,D.beq,D.dU,D.dV,D.dW,D.add,D.sub,D.mul,D.min,D.max,D.di,D.bT,D.bU];exact h))
    refine Sat.ob ?_ (Sat.back rfl ⟨⟨⟨?_,?_⟩,fun j hj=>?_⟩,?_⟩)
    ·simp only [D.le,D.gp,D.lt,D.gq,D.eq,D.gz,D.not,D.dR,D.and,D.dS,D.or,D.gB,D.inr,D.var,D.lit,D.dh,D.beq,D.dU,D.dV,D.dW,D.add,D.sub,D.mul,D.min,D.max,D.di,D.bT,D.bU];have:=hpre.2.2.2;omega
    ·show 0≤q.iv 17+1;omega
    ·show q.iv 17+1≤q.iv 5;omega
    ·replace hj:(j:Int)<q.iv 17+1:=hj
     show ¬xq q (q.iv 16).toNat j
     by_cases h:j=(q.iv 17).toNat
     ·subst h;exact hne
     ·exact j3 j (by omega)
    ·show (q.iv 5-(q.iv 17+1)).toNat<(q.iv 5-q.iv 17).toNat
     omega
  ·replace hI2:FN (r.join 17 e2):=hI2
   replace hat:pR (r.join 17 e2):=hat
   replace zH:¬(r.join 17 e2).iv 17<(r.join 17 e2).iv 5:=of_decide_eq_false zH
   rw [show (r.iv 1-r.iv 16).toNat=((r.join 17 e2).iv 1-(r.join 17 e2).iv 16).toNat from rfl]
   clear hpre hlt l1 l2 i1 i2
   generalize r.join 17 e2=q at *
   have hpre:=hat.1
   obtain ⟨⟨i1,i2⟩,-⟩:=hat.2.1
   have hlt:=hat.2.2
   obtain ⟨l1,l2⟩:=hat.lens
   obtain ⟨⟨j1,j2⟩,j3⟩:=hI2
   have hk:qc (kD q 4) (bg q 3 (q.iv 16).toNat)=false:=by
    refine List.any_eq_false.2 fun x hx=>?_
    obtain ⟨j,hj,rfl⟩:=List.mem_map.1 hx
    have hj:=List.mem_range.1 hj
    simp only [Nat.reduceAdd] at hj
    exact ne_true_of_eq_false (decide_eq_false (j3 j (by omega)))
   obtain ⟨⟨o1,o2,o3,o4⟩,n1⟩:=hat.2.1.2.1
   obtain ⟨⟨p1,p2,p3,p4⟩,n2⟩:=hat.2.1.2.2
   have htk:=hat.take
   obtain ⟨_,a5,_,b5⟩:=hpre
   simp only [Nat.reduceAdd] at *
   refine Sat.ob ?_ (Sat.ob (decide_eq_true o2) (Sat.ob (decide_eq_true o3) (Sat.ob (decide_eq_true o4) (Sat.ob (aK hat.2.1.2.1.1) (Sat.new fun e3 hf=>Sat.ob ?_ (Sat.back rfl ⟨?_,?_⟩))))))
   ·simp only [D.le,D.gp,D.lt,D.gq,D.eq,D.gz,D.not,D.dR,D.and,D.dS,D.or,D.gB,D.inr,D.var,D.lit,D.dh,D.beq,D.dU,D.dV,D.dW,D.add,D.sub,D.mul,D.min,D.max,D.di,D.bT,D.bU];omega
   ·simp only [D.le,D.gp,D.lt,D.gq,D.eq,D.gz,D.not,D.dR,D.and,D.dS,D.or,D.gB,D.inr,D.var,D.lit,D.dh,D.beq,D.dU,D.dV,D.dW,D.add,D.sub,D.mul,D.min,D.max,D.di,D.bT,D.bU];simp [Env.join];omega
   ·have hf:=hf _ (List.mem_singleton.2 rfl)
    simp only [D.be,D.le,D.gp,D.lt,D.gq,D.eq,D.gz,D.not,D.dR,D.and,D.dS,D.or,D.gB,D.inr,D.var,D.lit,D.dh,D.beq,D.dU,D.dV,D.dW,D.add,D.sub,D.mul,D.min,D.max,D.di,D.bT,D.bU] at hf
    simp [Env.join] at hf
    refine ⟨⟨by simp [Sub.ag,assoc,CV.I,CV.B,ah,ai,ae.I,ae.B,SC.I,SC.B,IE.den,BE.den,Env.join];omega,by simp [Sub.ag,assoc,CV.I,CV.B,ah,ai,ae.I,ae.B,SC.I,SC.B,IE.den,BE.den,Env.join];omega⟩,⟨?_,?_⟩,⟨⟨p1,p2,p3,p4⟩,?_⟩⟩
    ·simp [bG,Sub.ag,assoc,CV.I,CV.B,ah,ai,ae.I,ae.B,SC.I,SC.B,IE.den,BE.den,Env.join]
     omega
    ·refine (jQ (ρ:=q) (b:=8) (x:=bg q 3 (q.iv 16).toNat) o2 rfl (fun i hi=>?_) ?_).trans ?_
     ·have:¬(q.iv 9).toNat=i:=by simp only [Nat.reduceAdd] at hi;omega
      simp [bg,Sub.ag,assoc,CV.I,CV.B,ah,ai,ae.I,ae.B,SC.I,SC.B,IE.den,BE.den,Env.join,this]
     ·simp [bg,Sub.ag,assoc,CV.I,CV.B,ah,ai,ae.I,ae.B,SC.I,SC.B,IE.den,BE.den,Env.join]
     ·show notes q 8 ++ _=((notes q 0).take (q.iv 16+1).toNat).filter (fun n=>!qc (kD q 4) n)
      rw [htk,List.filter_append,n1]
      simp [hk]
    ·refine Eq.trans (b:=notes q 12) (by exact eO rfl fun i _=>by simp [bg,Sub.ag,assoc,CV.I,CV.B,ah,ai,ae.I,ae.B,SC.I,SC.B,IE.den,BE.den,Env.join]) ?_
     show notes q 12=((notes q 0).take (q.iv 16+1).toNat).filter (qc (kD q 4))
     rw [htk,List.filter_append,n2]
     simp [hk]
   ·show (q.iv 1-(q.iv 16+1)).toNat<(q.iv 1-q.iv 16).toNat
    omega
 ·replace hpre:mg (ρ.join 8 e):=hpre
  replace hI:sJ (ρ.join 8 e):=hI
  replace hge:¬(ρ.join 8 e).iv 16<(ρ.join 8 e).iv 1:=of_decide_eq_false hge
  generalize ρ.join 8 e=q at *
  obtain ⟨⟨i1,i2⟩,⟨o,n1⟩,⟨p,n2⟩⟩:=hI
  rw [q9 _ _ (by simp only [Nat.zero_add];omega)] at n1 n2
  refine Sat.fin ⟨o,?_,p,?_⟩
  ·exact Eq.trans (b:=notes q 8) (by exact eO rfl fun i _=>by simp [bg,Sub.ag,assoc,CV.I,CV.B,ah,ai,ae.I,ae.B,SC.I,SC.B,IE.den,BE.den,Env.join]) n1
  ·exact Eq.trans (b:=notes q 12) (by exact eO rfl fun i _=>by simp [bg,Sub.ag,assoc,CV.I,CV.B,ah,ai,ae.I,ae.B,SC.I,SC.B,IE.den,BE.den,Env.join]) n2
theorem Qw:aV Tryz.prog kY mg Hg :=
 cK dF (E:=Qt) (cs:=[]) rfl (fun k pre post h=>by cases h) bO rfl Qu (by kernel_rfl) (fun ρ _ p hp=>by cases hp) Qv
noncomputable def VB:Ex:={sched:=sched,loops:=[Oe,ZZ],fin:=mV}
def FO:Out :=
 .ob (.or (.not (.var 0)) (.aB (.var 1) (.lit 0))) <|
 .ob (.aA (.lit 0) (.var 1)) <|
 .loop 8 {lo:=8,az:=3,iv:=[(16,.lit 0),(14,.lit 0),(13,.lit 0),(10,.lit 0),(9,.lit 0)],bv:=[(12,.lit true),(8,.lit true)],nb:=[4,3]} <|
 .br (.bS (.var 16) (.var 1))
 (.ob (.not (.var 0)) <|
  .ob (.aA (.lit 0) (.var 16)) <|
  .ob (.or (.not (.var 4)) (.aB (.var 5) (.lit 0))) <|
  .ob (.aA (.lit 0) (.var 5)) <|
  .loop 17 {lo:=17,az:=7,iv:=[(17,.lit 0)]} <|
  .br (.bS (.var 17) (.var 5))
  (.ob (.not (.var 4)) <|
   .ob (.aA (.lit 0) (.var 17)) <|
   .br (.and (.and (.bS (.lit 0) (.cell 7 (.var 17) (.lit 0) 0)) (.aA (.cell 3 (.var 16) (.lit 0) 5) (.cell 7 (.var 17) (.lit 0) 0))) (.aA (.cell 7 (.var 17) (.lit 0) 0) (.cell 3 (.var 16) (.lit 0) 6)))
   (.ob (.aA (.mul (.add (.var 13) (.lit 1)) (.lit 56)) (.lit 140737488355328)) <|
    .ob (.aA (.lit 0) (.var 13)) <|
    .ob (.aA (.var 13) (.var 14)) <|
    .ob (.aA (.var 14) (.lit 9223372036854775807)) <|
    .ob (.or (.not (.var 12)) (.aB (.var 13) (.lit 0))) <|
    .new 18 [.be (.and (.aA (.add (.var 13) (.lit 1)) (.var 18)) (.aA (.var 18) (.lit 9223372036854775807)))] <|
    .ob (.inr .i64 (.add (.var 16) (.lit 1))) <|
    .back 1 {lo:=8,az:=3,iv:=[(16,.add (.var 16) (.lit 1)),(14,yv 18),(13,.add (.var 13) (.lit 1)),(10,yv 10),(9,yv 9)],bv:=[(12,.lit false),(8,yw 8)],ct:=[(15,.up {r:=15,n1:=.add (.var 13) (.lit 1),s1:=7,ks:=yN} 0 [⟨0,(.var 13),(.lit 0),0,.int .i64 (.cell 3 (.var 16) (.lit 0) 0)⟩,⟨0,(.var 13),(.lit 0),1,.int .i64 (.cell 3 (.var 16) (.lit 0) 1)⟩,⟨0,(.var 13),(.lit 0),2,.int .i64 (.cell 3 (.var 16) (.lit 0) 2)⟩,⟨0,(.var 13),(.lit 0),3,.int .i64 (.cell 3 (.var 16) (.lit 0) 3)⟩,⟨0,(.var 13),(.lit 0),4,.bool (.cell 3 (.var 16) (.lit 0) 4)⟩,⟨0,(.var 13),(.lit 0),5,.int .i64 (.cell 3 (.var 16) (.lit 0) 5)⟩,⟨0,(.var 13),(.lit 0),6,.int .i64 (.cell 3 (.var 16) (.lit 0) 6)⟩] (.lit 0)),(11,yu 11 9 7 yN 0)],bk:=[(4,yc 8 7),(3,yc 3 7)]})
   (.ob (.inr .i64 (.add (.var 17) (.lit 1))) <|
    .back 0 {lo:=17,az:=7,iv:=[(17,.add (.var 17) (.lit 1))]}))
  (.ob (.aA (.mul (.add (.var 9) (.lit 1)) (.lit 56)) (.lit 140737488355328)) <|
   .ob (.aA (.lit 0) (.var 9)) <|
   .ob (.aA (.var 9) (.var 10)) <|
   .ob (.aA (.var 10) (.lit 9223372036854775807)) <|
   .ob (.or (.not (.var 8)) (.aB (.var 9) (.lit 0))) <|
   .new 18 [.be (.and (.aA (.add (.var 9) (.lit 1)) (.var 18)) (.aA (.var 18) (.lit 9223372036854775807)))] <|
   .ob (.inr .i64 (.add (.var 16) (.lit 1))) <|
   .back 1 {lo:=8,az:=3,iv:=[(16,.add (.var 16) (.lit 1)),(14,yv 14),(13,yv 13),(10,yv 18),(9,.add (.var 9) (.lit 1))],bv:=[(12,yw 12),(8,.lit false)],ct:=[(15,yu 15 13 7 yN 0),(11,.up {r:=11,n1:=.add (.var 9) (.lit 1),s1:=7,ks:=yN} 0 [⟨0,(.var 9),(.lit 0),0,.int .i64 (.cell 3 (.var 16) (.lit 0) 0)⟩,⟨0,(.var 9),(.lit 0),1,.int .i64 (.cell 3 (.var 16) (.lit 0) 1)⟩,⟨0,(.var 9),(.lit 0),2,.int .i64 (.cell 3 (.var 16) (.lit 0) 2)⟩,⟨0,(.var 9),(.lit 0),3,.int .i64 (.cell 3 (.var 16) (.lit 0) 3)⟩,⟨0,(.var 9),(.lit 0),4,.bool (.cell 3 (.var 16) (.lit 0) 4)⟩,⟨0,(.var 9),(.lit 0),5,.int .i64 (.cell 3 (.var 16) (.lit 0) 5)⟩,⟨0,(.var 9),(.lit 0),6,.int .i64 (.cell 3 (.var 16) (.lit 0) 6)⟩] (.lit 0))],bk:=[(4,yc 4 7),(3,yc 8 7)]}))
 (.fin {lo:=8,az:=2,iv:=[(14,yv 14),(13,yv 13),(10,yv 10),(9,yv 9)],bv:=[(12,yw 12),(8,yw 8)],ct:=[(15,yu 15 13 7 yN 0),(11,yu 11 9 7 yN 0)],bk:=[(3,yc 4 7),(2,yc 3 7)]})
theorem Tz:exec tab VB 4000 [] (dZ mV.f 8 [] [] mV.hp mV.args)=FO:=by kernel_rfl
def Az (ρ:Env) (i j:Nat):Prop:=(0<ρ.ic 7 j 0 0∧ρ.ic 3 i 0 5≤ρ.ic 7 j 0 0)∧ρ.ic 7 j 0 0≤ρ.ic 3 i 0 6
def og (ρ:Env):Prop:=bG ρ 0∧ρ.iv 1≤1000000∧bG ρ 4∧ρ.iv 5≤1000000
def Ke (ρ:Env):Prop:=bG ρ 8∧notes ρ 8=(notes ρ 0).filter (fun n=>!mW (kD ρ 4) n)∧bG ρ 12∧notes ρ 12=(notes ρ 0).filter (mW (kD ρ 4))
def vI (ρ:Env):Prop:=(0≤ρ.iv 16∧ρ.iv 16≤ρ.iv 1)∧(bG ρ 8∧notes ρ 8=((notes ρ 0).take (ρ.iv 16).toNat).filter (fun n=>!mW (kD ρ 4) n))∧bG ρ 12∧notes ρ 12=((notes ρ 0).take (ρ.iv 16).toNat).filter (mW (kD ρ 4))
def Kg (ρ:Env):Prop:=(0≤ρ.iv 17∧ρ.iv 17≤ρ.iv 5)∧∀j:Nat,(j:Int)<ρ.iv 17→¬Az ρ (ρ.iv 16).toNat j
def sK (ρ:Env):Prop:=og ρ∧vI ρ∧ρ.iv 16<ρ.iv 1
theorem sK.lens {ρ:Env} (h:sK ρ):ρ.iv 9≤ρ.iv 16∧ρ.iv 13≤ρ.iv 16:=by
 obtain ⟨⟨a1,a5,b1,b5⟩,⟨⟨i1,i2⟩,⟨⟨o1,o2,o3,o4⟩,n1⟩,⟨⟨p1,p2,p3,p4⟩,n2⟩⟩,hlt⟩:=h
 have l1:(notes ρ 8).length≤(ρ.iv 16).toNat:=by
  rw [n1];refine Nat.le_trans (List.length_filter_le _ _) ?_;rw [List.length_take];omega
 have l2:(notes ρ 12).length≤(ρ.iv 16).toNat:=by
  rw [n2];refine Nat.le_trans (List.length_filter_le _ _) ?_;rw [List.length_take];omega
 rw [kC] at l1 l2
 simp only [Nat.reduceAdd] at *
 omega
theorem sK.take {ρ:Env} (h:sK ρ):(notes ρ 0).take (ρ.iv 16+1).toNat=(notes ρ 0).take (ρ.iv 16).toNat ++ [bg ρ 3 (ρ.iv 16).toNat]:=by
 obtain ⟨_,⟨⟨i1,i2⟩,_⟩,hlt⟩:=h
 rw [show (ρ.iv 16+1).toNat=(ρ.iv 16).toNat+1 by omega]
 exact qZ (b:=0) (by simp only [Nat.zero_add];omega)
theorem TA (ρ:Env) (hpre:og ρ.num):Sat Ke [] [] ρ FO:=by
 replace hpre:og ρ:=hpre
 unfold FO
 refine Sat.ob (aK hpre.1) (Sat.ob (decide_eq_true hpre.1.2.1) (Sat.loop vI (fun r=>(r.iv 1-r.iv 16).toNat) ?_ fun e hI=>Sat.br (fun hlt=>?_) (fun hge=>?_)))
 ·have h2:=hpre.1.2.1
  simp [vI,bG,notes,Sub.ag,assoc,CV.I,CV.B,ah,ai,ae.I,ae.B,SC.I,SC.B,IE.den,BE.den,h2]
 ·replace hpre:og (ρ.join 8 e):=hpre
  replace hI:vI (ρ.join 8 e):=hI
  replace hlt:(ρ.join 8 e).iv 16<(ρ.join 8 e).iv 1:=of_decide_eq_true hlt
  have hat:sK (ρ.join 8 e):=⟨hpre,hI,hlt⟩
  clear hpre hI hlt
  have hm:((ρ.join 8 e).num.iv 1-(ρ.join 8 e).num.iv 16).toNat=((ρ.join 8 e).iv 1-(ρ.join 8 e).iv 16).toNat:=rfl
  rw [hm]
  clear hm
  generalize ρ.join 8 e=r at *
  have hpre:=hat.1
  obtain ⟨⟨i1,i2⟩,-⟩:=hat.2.1
  have hlt:=hat.2.2
  obtain ⟨l1,l2⟩:=hat.lens
  refine Sat.ob ?_ (Sat.ob (decide_eq_true i1) (Sat.ob (aK hpre.2.2.1) (Sat.ob (decide_eq_true hpre.2.2.1.2.1) (Sat.loop Kg (fun r=>(r.iv 5-r.iv 17).toNat) ?_ fun e2 hI2=>Sat.br (fun hlt2=>?_) (fun zH=>?_)))))
  ·simp only [D.le,D.gp,D.lt,D.gq,D.eq,D.gz,D.not,D.dR,D.and,D.dS,D.or,D.gB,D.inr,D.var,D.lit,D.dh,D.beq,D.dU,D.dV,D.dW,D.add,D.sub,D.mul,D.min,D.max,D.di,D.bT,D.bU]
   cases h:r.bv 0
   ·rfl
   ·have:=hpre.1.1 h
    simp only [Nat.zero_add] at this
    omega
  ·refine ⟨⟨Int.le_refl 0,hpre.2.2.1.2.1⟩,fun j hj=>?_⟩
   have:(j:Int)<0:=hj
   omega
  ·replace hI2:Kg (r.join 17 e2):=hI2
   replace hat:sK (r.join 17 e2):=hat
   replace hlt2:(r.join 17 e2).iv 17<(r.join 17 e2).iv 5:=of_decide_eq_true hlt2
   rw [show (r.iv 1-r.iv 16).toNat=((r.join 17 e2).iv 1-(r.join 17 e2).iv 16).toNat from rfl]
   rw [show ((r.join 17 e2).num.iv 5-(r.join 17 e2).num.iv 17).toNat=((r.join 17 e2).iv 5-(r.join 17 e2).iv 17).toNat from rfl]
   clear hpre hlt l1 l2 i1 i2
   generalize r.join 17 e2=q at *
   have hpre:=hat.1
   obtain ⟨⟨i1,i2⟩,-⟩:=hat.2.1
   have hlt:=hat.2.2
   obtain ⟨l1,l2⟩:=hat.lens
   obtain ⟨⟨j1,j2⟩,j3⟩:=hI2
   refine Sat.ob ?_ (Sat.ob (decide_eq_true j1) (Sat.br (fun heq=>?_) (fun hne=>?_)))
   ·simp only [D.le,D.gp,D.lt,D.gq,D.eq,D.gz,D.not,D.dR,D.and,D.dS,D.or,D.gB,D.inr,D.var,D.lit,D.dh,D.beq,D.dU,D.dV,D.dW,D.add,D.sub,D.mul,D.min,D.max,D.di,D.bT,D.bU]
    cases h:q.bv 4
    ·rfl
    ·have:=hpre.2.2.1.1 h
     simp only [Nat.reduceAdd] at this
     omega
   ·replace heq:Az q (q.iv 16).toNat (q.iv 17).toNat:=by simp only [D.le,D.gp,D.lt,D.gq,D.eq,D.gz,D.not,D.dR,D.and,D.dS,D.or,D.gB,D.inr,D.var,D.lit,D.dh,D.beq,D.dU,D.dV,D.dW,D.add,D.sub,D.mul,D.min,D.max,D.di,D.bT,D.bU] at heq;exact heq
    have hk:mW (kD q 4) (bg q 3 (q.iv 16).toNat)=true:=by
     refine List.any_eq_true.2 ⟨_,List.mem_map.2 ⟨(q.iv 17).toNat,List.mem_range.2 (by simp only [Nat.reduceAdd];omega),rfl⟩,decide_eq_true heq⟩
    obtain ⟨⟨o1,o2,o3,o4⟩,n1⟩:=hat.2.1.2.1
    obtain ⟨⟨p1,p2,p3,p4⟩,n2⟩:=hat.2.1.2.2
    have htk:=hat.take
    obtain ⟨_,a5,_,b5⟩:=hpre
    simp only [Nat.reduceAdd] at *
    refine Sat.ob ?_ (Sat.ob (decide_eq_true p2) (Sat.ob (decide_eq_true p3) (Sat.ob (decide_eq_true p4) (Sat.ob (aK hat.2.1.2.2.1) (Sat.new fun e3 hf=>Sat.ob ?_ (Sat.back rfl ⟨?_,?_⟩))))))
    ·simp only [D.le,D.gp,D.lt,D.gq,D.eq,D.gz,D.not,D.dR,D.and,D.dS,D.or,D.gB,D.inr,D.var,D.lit,D.dh,D.beq,D.dU,D.dV,D.dW,D.add,D.sub,D.mul,D.min,D.max,D.di,D.bT,D.bU];omega
    ·simp only [D.le,D.gp,D.lt,D.gq,D.eq,D.gz,D.not,D.dR,D.and,D.dS,D.or,D.gB,D.inr,D.var,D.lit,D.dh,D.beq,D.dU,D.dV,D.dW,D.add,D.sub,D.mul,D.min,D.max,D.di,D.bT,D.bU];simp [Env.join];omega
    ·have hf:=hf _ (List.mem_singleton.2 rfl)
     simp only [D.be,D.le,D.gp,D.lt,D.gq,D.eq,D.gz,D.not,D.dR,D.and,D.dS,D.or,D.gB,D.inr,D.var,D.lit,D.dh,D.beq,D.dU,D.dV,D.dW,D.add,D.sub,D.mul,D.min,D.max,D.di,D.bT,D.bU] at hf
     simp [Env.join] at hf
     refine ⟨⟨by simp [Sub.ag,assoc,CV.I,CV.B,ah,ai,ae.I,ae.B,SC.I,SC.B,IE.den,BE.den,Env.join];omega,by simp [Sub.ag,assoc,CV.I,CV.B,ah,ai,ae.I,ae.B,SC.I,SC.B,IE.den,BE.den,Env.join];omega⟩,⟨⟨o1,o2,o3,o4⟩,?_⟩,⟨?_,?_⟩⟩
     ·refine Eq.trans (b:=notes q 8) (by exact eO rfl fun i _=>by simp [bg,Sub.ag,assoc,CV.I,CV.B,ah,ai,ae.I,ae.B,SC.I,SC.B,IE.den,BE.den,Env.join]) ?_
      show notes q 8=((notes q 0).take (q.iv 16+1).toNat).filter (fun n=>!mW (kD q 4) n)
      rw [htk,List.filter_append,n1]
      simp [hk]
     ·simp [bG,Sub.ag,assoc,CV.I,CV.B,ah,ai,ae.I,ae.B,SC.I,SC.B,IE.den,BE.den,Env.join]
      omega
     ·refine (jQ (ρ:=q) (b:=12) (x:=bg q 3 (q.iv 16).toNat) p2 rfl (fun i hi=>?_) ?_).trans ?_
      ·have:¬(q.iv 13).toNat=i:=by simp only [Nat.reduceAdd] at hi;omega
       simp [bg,Sub.ag,assoc,CV.I,CV.B,ah,ai,ae.I,ae.B,SC.I,SC.B,IE.den,BE.den,Env.join,this]
      ·simp [bg,Sub.ag,assoc,CV.I,CV.B,ah,ai,ae.I,ae.B,SC.I,SC.B,IE.den,BE.den,Env.join]
      ·show notes q 12 ++ _=((notes q 0).take (q.iv 16+1).toNat).filter (mW (kD q 4))
       rw [htk,List.filter_append,n2]
       simp [hk]
    ·show (q.iv 1-(q.iv 16+1)).toNat<(q.iv 1-q.iv 16).toNat
     omega
   ·replace hne:¬Az q (q.iv 16).toNat (q.iv 17).toNat:=fun h=>by
     exact Bool.false_ne_true (hne.symm.trans (by simp only [D.le,D.gp,D.lt,D.gq,D.eq,D.gz,D.not,D.dR,D.and,D.dS,D.or,D.gB,D.inr,D.var,D.lit,D.dh,D.beq,D.dU,D.dV,D.dW,D.add,D.sub,D.mul,D.min,D.max,D.di,D.bT,D.bU];exact h))
    refine Sat.ob ?_ (Sat.back rfl ⟨⟨⟨?_,?_⟩,fun j hj=>?_⟩,?_⟩)
    ·simp only [D.le,D.gp,D.lt,D.gq,D.eq,D.gz,D.not,D.dR,D.and,D.dS,D.or,D.gB,D.inr,D.var,D.lit,D.dh,D.beq,D.dU,D.dV,D.dW,D.add,D.sub,D.mul,D.min,D.max,D.di,D.bT,D.bU];have:=hpre.2.2.2;omega
    ·show 0≤q.iv 17+1;omega
    ·show q.iv 17+1≤q.iv 5;omega
    ·replace hj:(j:Int)<q.iv 17+1:=hj
     show ¬Az q (q.iv 16).toNat j
     by_cases h:j=(q.iv 17).toNat
     ·subst h;exact hne
     ·exact j3 j (by omega)
    ·show (q.iv 5-(q.iv 17+1)).toNat<(q.iv 5-q.iv 17).toNat
     omega
  ·replace hI2:Kg (r.join 17 e2):=hI2
   replace hat:sK (r.join 17 e2):=hat
   replace zH:¬(r.join 17 e2).iv 17<(r.join 17 e2).iv 5:=of_decide_eq_false zH
   rw [show (r.iv 1-r.iv 16).toNat=((r.join 17 e2).iv 1-(r.join 17 e2).iv 16).toNat from rfl]
   clear hpre hlt l1 l2 i1 i2
   generalize r.join 17 e2=q at *
   have hpre:=hat.1
   obtain ⟨⟨i1,i2⟩,-⟩:=hat.2.1
   have hlt:=hat.2.2
   obtain ⟨l1,l2⟩:=hat.lens
   obtain ⟨⟨j1,j2⟩,j3⟩:=hI2
   have hk:mW (kD q 4) (bg q 3 (q.iv 16).toNat)=false:=by
    refine List.any_eq_false.2 fun x hx=>?_
    obtain ⟨j,hj,rfl⟩:=List.mem_map.1 hx
    have hj:=List.mem_range.1 hj
    simp only [Nat.reduceAdd] at hj
    exact ne_true_of_eq_false (decide_eq_false (j3 j (by omega)))
   obtain ⟨⟨o1,o2,o3,o4⟩,n1⟩:=hat.2.1.2.1
   obtain ⟨⟨p1,p2,p3,p4⟩,n2⟩:=hat.2.1.2.2
   have htk:=hat.take
   obtain ⟨_,a5,_,b5⟩:=hpre
   simp only [Nat.reduceAdd] at *
   refine Sat.ob ?_ (Sat.ob (decide_eq_true o2) (Sat.ob (decide_eq_true o3) (Sat.ob (decide_eq_true o4) (Sat.ob (aK hat.2.1.2.1.1) (Sat.new fun e3 hf=>Sat.ob ?_ (Sat.back rfl ⟨?_,?_⟩))))))
   ·simp only [D.le,D.gp,D.lt,D.gq,D.eq,D.gz,D.not,D.dR,D.and,D.dS,D.or,D.gB,D.inr,D.var,D.lit,D.dh,D.beq,D.dU,D.dV,D.dW,D.add,D.sub,D.mul,D.min,D.max,D.di,D.bT,D.bU];omega
   ·simp only [D.le,D.gp,D.lt,D.gq,D.eq,D.gz,D.not,D.dR,D.and,D.dS,D.or,D.gB,D.inr,D.var,D.lit,D.dh,D.beq,D.dU,D.dV,D.dW,D.add,D.sub,D.mul,D.min,D.max,D.di,D.bT,D.bU];simp [Env.join];omega
   ·have hf:=hf _ (List.mem_singleton.2 rfl)
    simp only [D.be,D.le,D.gp,D.lt,D.gq,D.eq,D.gz,D.not,D.dR,D.and,D.dS,D.or,D.gB,D.inr,D.var,D.lit,D.dh,D.beq,D.dU,D.dV,D.dW,D.add,D.sub,D.mul,D.min,D.max,D.di,D.bT,D.bU] at hf
    simp [Env.join] at hf
    refine ⟨⟨by simp [Sub.ag,assoc,CV.I,CV.B,ah,ai,ae.I,ae.B,SC.I,SC.B,IE.den,BE.den,Env.join];omega,by simp [Sub.ag,assoc,CV.I,CV.B,ah,ai,ae.I,ae.B,SC.I,SC.B,IE.den,BE.den,Env.join];omega⟩,⟨?_,?_⟩,⟨⟨p1,p2,p3,p4⟩,?_⟩⟩
    ·simp [bG,Sub.ag,assoc,CV.I,CV.B,ah,ai,ae.I,ae.B,SC.I,SC.B,IE.den,BE.den,Env.join]
     omega
    ·refine (jQ (ρ:=q) (b:=8) (x:=bg q 3 (q.iv 16).toNat) o2 rfl (fun i hi=>?_) ?_).trans ?_
     ·have:¬(q.iv 9).toNat=i:=by simp only [Nat.reduceAdd] at hi;omega
      simp [bg,Sub.ag,assoc,CV.I,CV.B,ah,ai,ae.I,ae.B,SC.I,SC.B,IE.den,BE.den,Env.join,this]
     ·simp [bg,Sub.ag,assoc,CV.I,CV.B,ah,ai,ae.I,ae.B,SC.I,SC.B,IE.den,BE.den,Env.join]
     ·show notes q 8 ++ _=((notes q 0).take (q.iv 16+1).toNat).filter (fun n=>!mW (kD q 4) n)
      rw [htk,List.filter_append,n1]
      simp [hk]
    ·refine Eq.trans (b:=notes q 12) (by exact eO rfl fun i _=>by simp [bg,Sub.ag,assoc,CV.I,CV.B,ah,ai,ae.I,ae.B,SC.I,SC.B,IE.den,BE.den,Env.join]) ?_
     show notes q 12=((notes q 0).take (q.iv 16+1).toNat).filter (mW (kD q 4))
     rw [htk,List.filter_append,n2]
     simp [hk]
   ·show (q.iv 1-(q.iv 16+1)).toNat<(q.iv 1-q.iv 16).toNat
    omega
 ·replace hpre:og (ρ.join 8 e):=hpre
  replace hI:vI (ρ.join 8 e):=hI
  replace hge:¬(ρ.join 8 e).iv 16<(ρ.join 8 e).iv 1:=of_decide_eq_false hge
  generalize ρ.join 8 e=q at *
  obtain ⟨⟨i1,i2⟩,⟨o,n1⟩,⟨p,n2⟩⟩:=hI
  rw [q9 _ _ (by simp only [Nat.zero_add];omega)] at n1 n2
  refine Sat.fin ⟨o,?_,p,?_⟩
  ·exact Eq.trans (b:=notes q 8) (by exact eO rfl fun i _=>by simp [bg,Sub.ag,assoc,CV.I,CV.B,ah,ai,ae.I,ae.B,SC.I,SC.B,IE.den,BE.den,Env.join]) n1
  ·exact Eq.trans (b:=notes q 12) (by exact eO rfl fun i _=>by simp [bg,Sub.ag,assoc,CV.I,CV.B,ah,ai,ae.I,ae.B,SC.I,SC.B,IE.den,BE.den,Env.join]) n2
theorem TB:aV Tryz.prog mV og Ke :=
 cK dF (E:=VB) (cs:=[]) rfl (fun k pre post h=>by cases h) bO rfl Tz (by kernel_rfl) (fun ρ _ p hp=>by cases hp) TA
noncomputable def Qx:Ex:={sched:=sched,loops:=[Oe,WN],fin:=kZ}
def Cx:Out :=
 .ob (.or (.not (.var 0)) (.aB (.var 1) (.lit 0))) <|
 .ob (.aA (.lit 0) (.var 1)) <|
 .loop 8 {lo:=8,az:=3,iv:=[(16,.lit 0),(14,.lit 0),(13,.lit 0),(10,.lit 0),(9,.lit 0)],bv:=[(12,.lit true),(8,.lit true)],nb:=[4,3]} <|
 .br (.bS (.var 16) (.var 1))
 (.ob (.not (.var 0)) <|
  .ob (.aA (.lit 0) (.var 16)) <|
  .ob (.or (.not (.var 4)) (.aB (.var 5) (.lit 0))) <|
  .ob (.aA (.lit 0) (.var 5)) <|
  .loop 17 {lo:=17,az:=7,iv:=[(17,.lit 0)]} <|
  .br (.bS (.var 17) (.var 5))
  (.ob (.not (.var 4)) <|
   .ob (.aA (.lit 0) (.var 17)) <|
   .br (.and (.and (.cell 7 (.var 17) (.lit 0) 0) (.aA (.cell 7 (.var 17) (.lit 0) 1) (.cell 3 (.var 16) (.lit 0) 6))) (.aA (.cell 3 (.var 16) (.lit 0) 5) (.cell 7 (.var 17) (.lit 0) 2)))
   (.ob (.aA (.mul (.add (.var 13) (.lit 1)) (.lit 56)) (.lit 140737488355328)) <|
    .ob (.aA (.lit 0) (.var 13)) <|
    .ob (.aA (.var 13) (.var 14)) <|
    .ob (.aA (.var 14) (.lit 9223372036854775807)) <|
    .ob (.or (.not (.var 12)) (.aB (.var 13) (.lit 0))) <|
    .new 18 [.be (.and (.aA (.add (.var 13) (.lit 1)) (.var 18)) (.aA (.var 18) (.lit 9223372036854775807)))] <|
    .ob (.inr .i64 (.add (.var 16) (.lit 1))) <|
    .back 1 {lo:=8,az:=3,iv:=[(16,.add (.var 16) (.lit 1)),(14,yv 18),(13,.add (.var 13) (.lit 1)),(10,yv 10),(9,yv 9)],bv:=[(12,.lit false),(8,yw 8)],ct:=[(15,.up {r:=15,n1:=.add (.var 13) (.lit 1),s1:=7,ks:=yN} 0 [⟨0,(.var 13),(.lit 0),0,.int .i64 (.cell 3 (.var 16) (.lit 0) 0)⟩,⟨0,(.var 13),(.lit 0),1,.int .i64 (.cell 3 (.var 16) (.lit 0) 1)⟩,⟨0,(.var 13),(.lit 0),2,.int .i64 (.cell 3 (.var 16) (.lit 0) 2)⟩,⟨0,(.var 13),(.lit 0),3,.int .i64 (.cell 3 (.var 16) (.lit 0) 3)⟩,⟨0,(.var 13),(.lit 0),4,.bool (.cell 3 (.var 16) (.lit 0) 4)⟩,⟨0,(.var 13),(.lit 0),5,.int .i64 (.cell 3 (.var 16) (.lit 0) 5)⟩,⟨0,(.var 13),(.lit 0),6,.int .i64 (.cell 3 (.var 16) (.lit 0) 6)⟩] (.lit 0)),(11,yu 11 9 7 yN 0)],bk:=[(4,yc 9 7),(3,yc 3 7)]})
   (.ob (.inr .i64 (.add (.var 17) (.lit 1))) <|
    .back 0 {lo:=17,az:=7,iv:=[(17,.add (.var 17) (.lit 1))]}))
  (.ob (.aA (.mul (.add (.var 9) (.lit 1)) (.lit 56)) (.lit 140737488355328)) <|
   .ob (.aA (.lit 0) (.var 9)) <|
   .ob (.aA (.var 9) (.var 10)) <|
   .ob (.aA (.var 10) (.lit 9223372036854775807)) <|
   .ob (.or (.not (.var 8)) (.aB (.var 9) (.lit 0))) <|
   .new 18 [.be (.and (.aA (.add (.var 9) (.lit 1)) (.var 18)) (.aA (.var 18) (.lit 9223372036854775807)))] <|
   .ob (.inr .i64 (.add (.var 16) (.lit 1))) <|
   .back 1 {lo:=8,az:=3,iv:=[(16,.add (.var 16) (.lit 1)),(14,yv 14),(13,yv 13),(10,yv 18),(9,.add (.var 9) (.lit 1))],bv:=[(12,yw 12),(8,.lit false)],ct:=[(15,yu 15 13 7 yN 0),(11,.up {r:=11,n1:=.add (.var 9) (.lit 1),s1:=7,ks:=yN} 0 [⟨0,(.var 9),(.lit 0),0,.int .i64 (.cell 3 (.var 16) (.lit 0) 0)⟩,⟨0,(.var 9),(.lit 0),1,.int .i64 (.cell 3 (.var 16) (.lit 0) 1)⟩,⟨0,(.var 9),(.lit 0),2,.int .i64 (.cell 3 (.var 16) (.lit 0) 2)⟩,⟨0,(.var 9),(.lit 0),3,.int .i64 (.cell 3 (.var 16) (.lit 0) 3)⟩,⟨0,(.var 9),(.lit 0),4,.bool (.cell 3 (.var 16) (.lit 0) 4)⟩,⟨0,(.var 9),(.lit 0),5,.int .i64 (.cell 3 (.var 16) (.lit 0) 5)⟩,⟨0,(.var 9),(.lit 0),6,.int .i64 (.cell 3 (.var 16) (.lit 0) 6)⟩] (.lit 0))],bk:=[(4,yc 4 7),(3,yc 8 7)]}))
 (.fin {lo:=8,az:=2,iv:=[(14,yv 14),(13,yv 13),(10,yv 10),(9,yv 9)],bv:=[(12,yw 12),(8,yw 8)],ct:=[(15,yu 15 13 7 yN 0),(11,yu 11 9 7 yN 0)],bk:=[(3,yc 4 7),(2,yc 3 7)]})
theorem Qy:exec tab Qx 4000 [] (dZ kZ.f 8 [] [] kZ.hp kZ.args)=Cx:=by kernel_rfl
def xu (ρ:Env) (i j:Nat):Prop:=(ρ.bc 7 j 0 0=true∧ρ.ic 7 j 0 1≤ρ.ic 3 i 0 6)∧ρ.ic 3 i 0 5≤ρ.ic 7 j 0 2
def mh (ρ:Env):Prop:=bG ρ 0∧ρ.iv 1≤1000000∧bG ρ 4∧ρ.iv 5≤1000000
def Hl (ρ:Env):Prop:=bG ρ 8∧notes ρ 8=(notes ρ 0).filter (fun n=>!qd (uJ ρ 4) n)∧bG ρ 12∧notes ρ 12=(notes ρ 0).filter (qd (uJ ρ 4))
def sM (ρ:Env):Prop:=(0≤ρ.iv 16∧ρ.iv 16≤ρ.iv 1)∧(bG ρ 8∧notes ρ 8=((notes ρ 0).take (ρ.iv 16).toNat).filter (fun n=>!qd (uJ ρ 4) n))∧bG ρ 12∧notes ρ 12=((notes ρ 0).take (ρ.iv 16).toNat).filter (qd (uJ ρ 4))
def FP (ρ:Env):Prop:=(0≤ρ.iv 17∧ρ.iv 17≤ρ.iv 5)∧∀j:Nat,(j:Int)<ρ.iv 17→¬xu ρ (ρ.iv 16).toNat j
def pU (ρ:Env):Prop:=mh ρ∧sM ρ∧ρ.iv 16<ρ.iv 1
theorem pU.lens {ρ:Env} (h:pU ρ):ρ.iv 9≤ρ.iv 16∧ρ.iv 13≤ρ.iv 16:=by
 obtain ⟨⟨a1,a5,b1,b5⟩,⟨⟨i1,i2⟩,⟨⟨o1,o2,o3,o4⟩,n1⟩,⟨⟨p1,p2,p3,p4⟩,n2⟩⟩,hlt⟩:=h
 have l1:(notes ρ 8).length≤(ρ.iv 16).toNat:=by
  rw [n1];refine Nat.le_trans (List.length_filter_le _ _) ?_;rw [List.length_take];omega
 have l2:(notes ρ 12).length≤(ρ.iv 16).toNat:=by
  rw [n2];refine Nat.le_trans (List.length_filter_le _ _) ?_;rw [List.length_take];omega
 rw [kC] at l1 l2
 simp only [Nat.reduceAdd] at *
 omega
theorem pU.take {ρ:Env} (h:pU ρ):(notes ρ 0).take (ρ.iv 16+1).toNat=(notes ρ 0).take (ρ.iv 16).toNat ++ [bg ρ 3 (ρ.iv 16).toNat]:=by
 obtain ⟨_,⟨⟨i1,i2⟩,_⟩,hlt⟩:=h
 rw [show (ρ.iv 16+1).toNat=(ρ.iv 16).toNat+1 by omega]
 exact qZ (b:=0) (by simp only [Nat.zero_add];omega)
theorem Qz (ρ:Env) (hpre:mh ρ.num):Sat Hl [] [] ρ Cx:=by
 replace hpre:mh ρ:=hpre
 unfold Cx
 refine Sat.ob (aK hpre.1) (Sat.ob (decide_eq_true hpre.1.2.1) (Sat.loop sM (fun r=>(r.iv 1-r.iv 16).toNat) ?_ fun e hI=>Sat.br (fun hlt=>?_) (fun hge=>?_)))
 ·have h2:=hpre.1.2.1
  simp [sM,bG,notes,Sub.ag,assoc,CV.I,CV.B,ah,ai,ae.I,ae.B,SC.I,SC.B,IE.den,BE.den,h2]
 ·replace hpre:mh (ρ.join 8 e):=hpre
  replace hI:sM (ρ.join 8 e):=hI
  replace hlt:(ρ.join 8 e).iv 16<(ρ.join 8 e).iv 1:=of_decide_eq_true hlt
  have hat:pU (ρ.join 8 e):=⟨hpre,hI,hlt⟩
  clear hpre hI hlt
  have hm:((ρ.join 8 e).num.iv 1-(ρ.join 8 e).num.iv 16).toNat=((ρ.join 8 e).iv 1-(ρ.join 8 e).iv 16).toNat:=rfl
  rw [hm]
  clear hm
  generalize ρ.join 8 e=r at *
  have hpre:=hat.1
  obtain ⟨⟨i1,i2⟩,-⟩:=hat.2.1
  have hlt:=hat.2.2
  obtain ⟨l1,l2⟩:=hat.lens
  refine Sat.ob ?_ (Sat.ob (decide_eq_true i1) (Sat.ob (aK hpre.2.2.1) (Sat.ob (decide_eq_true hpre.2.2.1.2.1) (Sat.loop FP (fun r=>(r.iv 5-r.iv 17).toNat) ?_ fun e2 hI2=>Sat.br (fun hlt2=>?_) (fun zH=>?_)))))
  ·simp only [D.le,D.gp,D.lt,D.gq,D.eq,D.gz,D.not,D.dR,D.and,D.dS,D.or,D.gB,D.inr,D.var,D.lit,D.dh,D.beq,D.dU,D.dV,D.dW,D.add,D.sub,D.mul,D.min,D.max,D.di,D.bT,D.bU]
   cases h:r.bv 0
   ·rfl
   ·have:=hpre.1.1 h
    simp only [Nat.zero_add] at this
    omega
  ·refine ⟨⟨Int.le_refl 0,hpre.2.2.1.2.1⟩,fun j hj=>?_⟩
   have:(j:Int)<0:=hj
   omega
  ·replace hI2:FP (r.join 17 e2):=hI2
   replace hat:pU (r.join 17 e2):=hat
   replace hlt2:(r.join 17 e2).iv 17<(r.join 17 e2).iv 5:=of_decide_eq_true hlt2
   rw [show (r.iv 1-r.iv 16).toNat=((r.join 17 e2).iv 1-(r.join 17 e2).iv 16).toNat from rfl]
   rw [show ((r.join 17 e2).num.iv 5-(r.join 17 e2).num.iv 17).toNat=((r.join 17 e2).iv 5-(r.join 17 e2).iv 17).toNat from rfl]
   clear hpre hlt l1 l2 i1 i2
   generalize r.join 17 e2=q at *
   have hpre:=hat.1
   obtain ⟨⟨i1,i2⟩,-⟩:=hat.2.1
   have hlt:=hat.2.2
   obtain ⟨l1,l2⟩:=hat.lens
   obtain ⟨⟨j1,j2⟩,j3⟩:=hI2
   refine Sat.ob ?_ (Sat.ob (decide_eq_true j1) (Sat.br (fun heq=>?_) (fun hne=>?_)))
   ·simp only [D.le,D.gp,D.lt,D.gq,D.eq,D.gz,D.not,D.dR,D.and,D.dS,D.or,D.gB,D.inr,D.var,D.lit,D.dh,D.beq,D.dU,D.dV,D.dW,D.add,D.sub,D.mul,D.min,D.max,D.di,D.bT,D.bU]
    cases h:q.bv 4
    ·rfl
    ·have:=hpre.2.2.1.1 h
     simp only [Nat.reduceAdd] at this
     omega
   ·replace heq:xu q (q.iv 16).toNat (q.iv 17).toNat:=by simp only [D.le,D.gp,D.lt,D.gq,D.eq,D.gz,D.not,D.dR,D.and,D.dS,D.or,D.gB,D.inr,D.var,D.lit,D.dh,D.beq,D.dU,D.dV,D.dW,D.add,D.sub,D.mul,D.min,D.max,D.di,D.bT,D.bU] at heq;exact heq
    have hk:qd (uJ q 4) (bg q 3 (q.iv 16).toNat)=true:=by
     refine List.any_eq_true.2 ⟨_,List.mem_map.2 ⟨(q.iv 17).toNat,List.mem_range.2 (by simp only [Nat.reduceAdd];omega),rfl⟩,decide_eq_true heq⟩
    obtain ⟨⟨o1,o2,o3,o4⟩,n1⟩:=hat.2.1.2.1
    obtain ⟨⟨p1,p2,p3,p4⟩,n2⟩:=hat.2.1.2.2
    have htk:=hat.take
    obtain ⟨_,a5,_,b5⟩:=hpre
    simp only [Nat.reduceAdd] at *
    refine Sat.ob ?_ (Sat.ob (decide_eq_true p2) (Sat.ob (decide_eq_true p3) (Sat.ob (decide_eq_true p4) (Sat.ob (aK hat.2.1.2.2.1) (Sat.new fun e3 hf=>Sat.ob ?_ (Sat.back rfl ⟨?_,?_⟩))))))
    ·simp only [D.le,D.gp,D.lt,D.gq,D.eq,D.gz,D.not,D.dR,D.and,D.dS,D.or,D.gB,D.inr,D.var,D.lit,D.dh,D.beq,D.dU,D.dV,D.dW,D.add,D.sub,D.mul,D.min,D.max,D.di,D.bT,D.bU];omega
    ·simp only [D.le,D.gp,D.lt,D.gq,D.eq,D.gz,D.not,D.dR,D.and,D.dS,D.or,D.gB,D.inr,D.var,D.lit,D.dh,D.beq,D.dU,D.dV,D.dW,D.add,D.sub,D.mul,D.min,D.max,D.di,D.bT,D.bU];simp [Env.join];omega
    ·have hf:=hf _ (List.mem_singleton.2 rfl)
     simp only [D.be,D.le,D.gp,D.lt,D.gq,D.eq,D.gz,D.not,D.dR,D.and,D.dS,D.or,D.gB,D.inr,D.var,D.lit,D.dh,D.beq,D.dU,D.dV,D.dW,D.add,D.sub,D.mul,D.min,D.max,D.di,D.bT,D.bU] at hf
     simp [Env.join] at hf
     refine ⟨⟨by simp [Sub.ag,assoc,CV.I,CV.B,ah,ai,ae.I,ae.B,SC.I,SC.B,IE.den,BE.den,Env.join];omega,by simp [Sub.ag,assoc,CV.I,CV.B,ah,ai,ae.I,ae.B,SC.I,SC.B,IE.den,BE.den,Env.join];omega⟩,⟨⟨o1,o2,o3,o4⟩,?_⟩,⟨?_,?_⟩⟩
     ·refine Eq.trans (b:=notes q 8) (by exact eO rfl fun i _=>by simp [bg,Sub.ag,assoc,CV.I,CV.B,ah,ai,ae.I,ae.B,SC.I,SC.B,IE.den,BE.den,Env.join]) ?_
      show notes q 8=((notes q 0).take (q.iv 16+1).toNat).filter (fun n=>!qd (uJ q 4) n)
      rw [htk,List.filter_append,n1]
      simp [hk]
     ·simp [bG,Sub.ag,assoc,CV.I,CV.B,ah,ai,ae.I,ae.B,SC.I,SC.B,IE.den,BE.den,Env.join]
      omega
     ·refine (jQ (ρ:=q) (b:=12) (x:=bg q 3 (q.iv 16).toNat) p2 rfl (fun i hi=>?_) ?_).trans ?_
      ·have:¬(q.iv 13).toNat=i:=by simp only [Nat.reduceAdd] at hi;omega
       simp [bg,Sub.ag,assoc,CV.I,CV.B,ah,ai,ae.I,ae.B,SC.I,SC.B,IE.den,BE.den,Env.join,this]
      ·simp [bg,Sub.ag,assoc,CV.I,CV.B,ah,ai,ae.I,ae.B,SC.I,SC.B,IE.den,BE.den,Env.join]
      ·show notes q 12 ++ _=((notes q 0).take (q.iv 16+1).toNat).filter (qd (uJ q 4))
       rw [htk,List.filter_append,n2]
       simp [hk]
    ·show (q.iv 1-(q.iv 16+1)).toNat<(q.iv 1-q.iv 16).toNat
     omega
   ·replace hne:¬xu q (q.iv 16).toNat (q.iv 17).toNat:=fun h=>by
     exact Bool.false_ne_true (hne.symm.trans (by simp only [D.le,D.gp,D.lt,D.gq,D.eq,D.gz,D.not,D.dR,D.and,D.dS,D.or,D.gB,D.inr,D.var,D.lit,D.dh,D.beq,D.dU,D.dV,D.dW,D.add,D.sub,D.mul,D.min,D.max,D.di,D.bT,D.bU];exact h))
    refine Sat.ob ?_ (Sat.back rfl ⟨⟨⟨?_,?_⟩,fun j hj=>?_⟩,?_⟩)
    ·simp only [D.le,D.gp,D.lt,D.gq,D.eq,D.gz,D.not,D.dR,D.and,D.dS,D.or,D.gB,D.inr,D.var,D.lit,D.dh,D.beq,D.dU,D.dV,D.dW,D.add,D.sub,D.mul,D.min,D.max,D.di,D.bT,D.bU];have:=hpre.2.2.2;omega
    ·show 0≤q.iv 17+1;omega
    ·show q.iv 17+1≤q.iv 5;omega
    ·replace hj:(j:Int)<q.iv 17+1:=hj
     show ¬xu q (q.iv 16).toNat j
     by_cases h:j=(q.iv 17).toNat
     ·subst h;exact hne
     ·exact j3 j (by omega)
    ·show (q.iv 5-(q.iv 17+1)).toNat<(q.iv 5-q.iv 17).toNat
     omega
  ·replace hI2:FP (r.join 17 e2):=hI2
   replace hat:pU (r.join 17 e2):=hat
   replace zH:¬(r.join 17 e2).iv 17<(r.join 17 e2).iv 5:=of_decide_eq_false zH
   rw [show (r.iv 1-r.iv 16).toNat=((r.join 17 e2).iv 1-(r.join 17 e2).iv 16).toNat from rfl]
   clear hpre hlt l1 l2 i1 i2
   generalize r.join 17 e2=q at *
   have hpre:=hat.1
   obtain ⟨⟨i1,i2⟩,-⟩:=hat.2.1
   have hlt:=hat.2.2
   obtain ⟨l1,l2⟩:=hat.lens
   obtain ⟨⟨j1,j2⟩,j3⟩:=hI2
   have hk:qd (uJ q 4) (bg q 3 (q.iv 16).toNat)=false:=by
    refine List.any_eq_false.2 fun x hx=>?_
    obtain ⟨j,hj,rfl⟩:=List.mem_map.1 hx
    have hj:=List.mem_range.1 hj
    simp only [Nat.reduceAdd] at hj
    exact ne_true_of_eq_false (decide_eq_false (j3 j (by omega)))
   obtain ⟨⟨o1,o2,o3,o4⟩,n1⟩:=hat.2.1.2.1
   obtain ⟨⟨p1,p2,p3,p4⟩,n2⟩:=hat.2.1.2.2
   have htk:=hat.take
   obtain ⟨_,a5,_,b5⟩:=hpre
   simp only [Nat.reduceAdd] at *
   refine Sat.ob ?_ (Sat.ob (decide_eq_true o2) (Sat.ob (decide_eq_true o3) (Sat.ob (decide_eq_true o4) (Sat.ob (aK hat.2.1.2.1.1) (Sat.new fun e3 hf=>Sat.ob ?_ (Sat.back rfl ⟨?_,?_⟩))))))
   ·simp only [D.le,D.gp,D.lt,D.gq,D.eq,D.gz,D.not,D.dR,D.and,D.dS,D.or,D.gB,D.inr,D.var,D.lit,D.dh,D.beq,D.dU,D.dV,D.dW,D.add,D.sub,D.mul,D.min,D.max,D.di,D.bT,D.bU];omega
   ·simp only [D.le,D.gp,D.lt,D.gq,D.eq,D.gz,D.not,D.dR,D.and,D.dS,D.or,D.gB,D.inr,D.var,D.lit,D.dh,D.beq,D.dU,D.dV,D.dW,D.add,D.sub,D.mul,D.min,D.max,D.di,D.bT,D.bU];simp [Env.join];omega
   ·have hf:=hf _ (List.mem_singleton.2 rfl)
    simp only [D.be,D.le,D.gp,D.lt,D.gq,D.eq,D.gz,D.not,D.dR,D.and,D.dS,D.or,D.gB,D.inr,D.var,D.lit,D.dh,D.beq,D.dU,D.dV,D.dW,D.add,D.sub,D.mul,D.min,D.max,D.di,D.bT,D.bU] at hf
    simp [Env.join] at hf
    refine ⟨⟨by simp [Sub.ag,assoc,CV.I,CV.B,ah,ai,ae.I,ae.B,SC.I,SC.B,IE.den,BE.den,Env.join];omega,by simp [Sub.ag,assoc,CV.I,CV.B,ah,ai,ae.I,ae.B,SC.I,SC.B,IE.den,BE.den,Env.join];omega⟩,⟨?_,?_⟩,⟨⟨p1,p2,p3,p4⟩,?_⟩⟩
    ·simp [bG,Sub.ag,assoc,CV.I,CV.B,ah,ai,ae.I,ae.B,SC.I,SC.B,IE.den,BE.den,Env.join]
     omega
    ·refine (jQ (ρ:=q) (b:=8) (x:=bg q 3 (q.iv 16).toNat) o2 rfl (fun i hi=>?_) ?_).trans ?_
     ·have:¬(q.iv 9).toNat=i:=by simp only [Nat.reduceAdd] at hi;omega
      simp [bg,Sub.ag,assoc,CV.I,CV.B,ah,ai,ae.I,ae.B,SC.I,SC.B,IE.den,BE.den,Env.join,this]
     ·simp [bg,Sub.ag,assoc,CV.I,CV.B,ah,ai,ae.I,ae.B,SC.I,SC.B,IE.den,BE.den,Env.join]
     ·show notes q 8 ++ _=((notes q 0).take (q.iv 16+1).toNat).filter (fun n=>!qd (uJ q 4) n)
      rw [htk,List.filter_append,n1]
      simp [hk]
    ·refine Eq.trans (b:=notes q 12) (by exact eO rfl fun i _=>by simp [bg,Sub.ag,assoc,CV.I,CV.B,ah,ai,ae.I,ae.B,SC.I,SC.B,IE.den,BE.den,Env.join]) ?_
     show notes q 12=((notes q 0).take (q.iv 16+1).toNat).filter (qd (uJ q 4))
     rw [htk,List.filter_append,n2]
     simp [hk]
   ·show (q.iv 1-(q.iv 16+1)).toNat<(q.iv 1-q.iv 16).toNat
    omega
 ·replace hpre:mh (ρ.join 8 e):=hpre
  replace hI:sM (ρ.join 8 e):=hI
  replace hge:¬(ρ.join 8 e).iv 16<(ρ.join 8 e).iv 1:=of_decide_eq_false hge
  generalize ρ.join 8 e=q at *
  obtain ⟨⟨i1,i2⟩,⟨o,n1⟩,⟨p,n2⟩⟩:=hI
  rw [q9 _ _ (by simp only [Nat.zero_add];omega)] at n1 n2
  refine Sat.fin ⟨o,?_,p,?_⟩
  ·exact Eq.trans (b:=notes q 8) (by exact eO rfl fun i _=>by simp [bg,Sub.ag,assoc,CV.I,CV.B,ah,ai,ae.I,ae.B,SC.I,SC.B,IE.den,BE.den,Env.join]) n1
  ·exact Eq.trans (b:=notes q 12) (by exact eO rfl fun i _=>by simp [bg,Sub.ag,assoc,CV.I,CV.B,ah,ai,ae.I,ae.B,SC.I,SC.B,IE.den,BE.den,Env.join]) n2
theorem QA:aV Tryz.prog kZ mh Hl :=
 cK dF (E:=Qx) (cs:=[]) rfl (fun k pre post h=>by cases h) bO rfl Qy (by kernel_rfl) (fun ρ _ p hp=>by cases hp) Qz
noncomputable def MJ:Ex:={sched:=sched,loops:=[Oe],fin:=jN}
def zI:Out :=
 .ob (.or (.not (.var 0)) (.aB (.var 1) (.lit 0))) <|
 .ob (.aA (.lit 0) (.var 1)) <|
 .loop 8 {lo:=8,az:=2,iv:=[(16,.lit 0),(14,.lit 0),(13,.lit 0),(10,.lit 0),(9,.lit 0)],bv:=[(12,.lit true),(8,.lit true)],nb:=[3,2]} <|
 .br (.bS (.var 16) (.var 1))
 (.ob (.not (.var 0)) <|
  .ob (.aA (.lit 0) (.var 16)) <|
  .ob (.or (.bS (.var 4) (.lit (-9223372036854775806))) (.inr .i64 (.sub (.var 4) (.lit 2)))) <|
  .br (.or (.bS (.var 4) (.lit (-9223372036854775806))) (.bS (.sub (.var 4) (.lit 2)) (.cell 3 (.var 16) (.lit 0) 6)))
  (.ob (.aA (.mul (.add (.var 13) (.lit 1)) (.lit 56)) (.lit 140737488355328)) <|
   .ob (.aA (.lit 0) (.var 13)) <|
   .ob (.aA (.var 13) (.var 14)) <|
   .ob (.aA (.var 14) (.lit 9223372036854775807)) <|
   .ob (.or (.not (.var 12)) (.aB (.var 13) (.lit 0))) <|
   .new 17 [.be (.and (.aA (.add (.var 13) (.lit 1)) (.var 17)) (.aA (.var 17) (.lit 9223372036854775807)))] <|
   .ob (.inr .i64 (.add (.var 16) (.lit 1))) <|
   .back 0 {lo:=8,az:=2,iv:=[(16,.add (.var 16) (.lit 1)),(14,yv 17),(13,.add (.var 13) (.lit 1)),(10,yv 10),(9,yv 9)],bv:=[(12,.lit false),(8,yw 8)],ct:=[(15,.up {r:=15,n1:=.add (.var 13) (.lit 1),s1:=7,ks:=yN} 0 [⟨0,(.var 13),(.lit 0),0,.int .i64 (.cell 3 (.var 16) (.lit 0) 0)⟩,⟨0,(.var 13),(.lit 0),1,.int .i64 (.cell 3 (.var 16) (.lit 0) 1)⟩,⟨0,(.var 13),(.lit 0),2,.int .i64 (.cell 3 (.var 16) (.lit 0) 2)⟩,⟨0,(.var 13),(.lit 0),3,.int .i64 (.cell 3 (.var 16) (.lit 0) 3)⟩,⟨0,(.var 13),(.lit 0),4,.bool (.cell 3 (.var 16) (.lit 0) 4)⟩,⟨0,(.var 13),(.lit 0),5,.int .i64 (.cell 3 (.var 16) (.lit 0) 5)⟩,⟨0,(.var 13),(.lit 0),6,.int .i64 (.cell 3 (.var 16) (.lit 0) 6)⟩] (.lit 0)),(11,yu 11 9 7 yN 0)],bk:=[(3,yc 7 7),(2,yc 2 7)]})
  (.ob (.aA (.mul (.add (.var 9) (.lit 1)) (.lit 56)) (.lit 140737488355328)) <|
   .ob (.aA (.lit 0) (.var 9)) <|
   .ob (.aA (.var 9) (.var 10)) <|
   .ob (.aA (.var 10) (.lit 9223372036854775807)) <|
   .ob (.or (.not (.var 8)) (.aB (.var 9) (.lit 0))) <|
   .new 17 [.be (.and (.aA (.add (.var 9) (.lit 1)) (.var 17)) (.aA (.var 17) (.lit 9223372036854775807)))] <|
   .ob (.inr .i64 (.add (.var 16) (.lit 1))) <|
   .back 0 {lo:=8,az:=2,iv:=[(16,.add (.var 16) (.lit 1)),(14,yv 14),(13,yv 13),(10,yv 17),(9,.add (.var 9) (.lit 1))],bv:=[(12,yw 12),(8,.lit false)],ct:=[(15,yu 15 13 7 yN 0),(11,.up {r:=11,n1:=.add (.var 9) (.lit 1),s1:=7,ks:=yN} 0 [⟨0,(.var 9),(.lit 0),0,.int .i64 (.cell 3 (.var 16) (.lit 0) 0)⟩,⟨0,(.var 9),(.lit 0),1,.int .i64 (.cell 3 (.var 16) (.lit 0) 1)⟩,⟨0,(.var 9),(.lit 0),2,.int .i64 (.cell 3 (.var 16) (.lit 0) 2)⟩,⟨0,(.var 9),(.lit 0),3,.int .i64 (.cell 3 (.var 16) (.lit 0) 3)⟩,⟨0,(.var 9),(.lit 0),4,.bool (.cell 3 (.var 16) (.lit 0) 4)⟩,⟨0,(.var 9),(.lit 0),5,.int .i64 (.cell 3 (.var 16) (.lit 0) 5)⟩,⟨0,(.var 9),(.lit 0),6,.int .i64 (.cell 3 (.var 16) (.lit 0) 6)⟩] (.lit 0))],bk:=[(3,yc 3 7),(2,yc 7 7)]}))
 (.fin {lo:=8,az:=1,iv:=[(14,yv 14),(13,yv 13),(10,yv 10),(9,yv 9)],bv:=[(12,yw 12),(8,yw 8)],ct:=[(15,yu 15 13 7 yN 0),(11,yu 11 9 7 yN 0)],bk:=[(2,yc 3 7),(1,yc 2 7)]})
theorem Om:exec tab MJ 4000 [] (dZ jN.f 8 [] [] jN.hp jN.args)=zI:=by kernel_rfl
def kP (ρ:Env):Prop:=bG ρ 0∧ρ.iv 1≤1000000∧-9223372036854775808≤ρ.iv 4∧ρ.iv 4≤9223372036854775807
def EC (ρ:Env):Prop:=bG ρ 8∧notes ρ 8=(notes ρ 0).filter (fun n=>!qf (ρ.iv 4) n)∧bG ρ 12∧notes ρ 12=(notes ρ 0).filter (qf (ρ.iv 4))
def qB (ρ:Env):Prop:=(0≤ρ.iv 16∧ρ.iv 16≤ρ.iv 1)∧(bG ρ 8∧notes ρ 8=((notes ρ 0).take (ρ.iv 16).toNat).filter (fun n=>!qf (ρ.iv 4) n))∧bG ρ 12∧notes ρ 12=((notes ρ 0).take (ρ.iv 16).toNat).filter (qf (ρ.iv 4))
def sN (ρ:Env):Prop:=kP ρ∧qB ρ∧ρ.iv 16<ρ.iv 1
theorem sN.lens {ρ:Env} (h:sN ρ):ρ.iv 9≤ρ.iv 16∧ρ.iv 13≤ρ.iv 16:=by
 obtain ⟨⟨a1,a5,b1⟩,⟨⟨i1,i2⟩,⟨⟨o1,o2,o3,o4⟩,n1⟩,⟨⟨p1,p2,p3,p4⟩,n2⟩⟩,hlt⟩:=h
 have l1:(notes ρ 8).length≤(ρ.iv 16).toNat:=by
  rw [n1];refine Nat.le_trans (List.length_filter_le _ _) ?_;rw [List.length_take];omega
 have l2:(notes ρ 12).length≤(ρ.iv 16).toNat:=by
  rw [n2];refine Nat.le_trans (List.length_filter_le _ _) ?_;rw [List.length_take];omega
 rw [kC] at l1 l2
 simp only [Nat.reduceAdd] at *
 omega
theorem sN.take {ρ:Env} (h:sN ρ):(notes ρ 0).take (ρ.iv 16+1).toNat=(notes ρ 0).take (ρ.iv 16).toNat ++ [bg ρ 3 (ρ.iv 16).toNat]:=by
 obtain ⟨_,⟨⟨i1,i2⟩,_⟩,hlt⟩:=h
 rw [show (ρ.iv 16+1).toNat=(ρ.iv 16).toNat+1 by omega]
 exact qZ (b:=0) (by simp only [Nat.zero_add];omega)
theorem Oo (ρ:Env) (hpre:kP ρ.num):Sat EC [] [] ρ zI:=by
 replace hpre:kP ρ:=hpre
 unfold zI
 refine Sat.ob (aK hpre.1) (Sat.ob (decide_eq_true hpre.1.2.1) (Sat.loop qB (fun r=>(r.iv 1-r.iv 16).toNat) ?_ fun e hI=>Sat.br (fun hlt=>?_) (fun hge=>?_)))
 ·have h2:=hpre.1.2.1
  simp [qB,bG,notes,Sub.ag,assoc,CV.I,CV.B,ah,ai,ae.I,ae.B,SC.I,SC.B,IE.den,BE.den,h2]
 ·replace hpre:kP (ρ.join 8 e):=hpre
  replace hI:qB (ρ.join 8 e):=hI
  replace hlt:(ρ.join 8 e).iv 16<(ρ.join 8 e).iv 1:=of_decide_eq_true hlt
  have hat:sN (ρ.join 8 e):=⟨hpre,hI,hlt⟩
  clear hpre hI hlt
  have hm:((ρ.join 8 e).num.iv 1-(ρ.join 8 e).num.iv 16).toNat=((ρ.join 8 e).iv 1-(ρ.join 8 e).iv 16).toNat:=rfl
  rw [hm]
  clear hm
  generalize ρ.join 8 e=r at *
  have hpre:=hat.1
  obtain ⟨⟨i1,i2⟩,-⟩:=hat.2.1
  have hlt:=hat.2.2
  obtain ⟨l1,l2⟩:=hat.lens
  obtain ⟨⟨o1,o2,o3,o4⟩,n1⟩:=hat.2.1.2.1
  obtain ⟨⟨p1,p2,p3,p4⟩,n2⟩:=hat.2.1.2.2
  have htk:=hat.take
  have hpre:=hat.1
  obtain ⟨_,a5,b4,b5⟩:=hpre
  simp only [Nat.reduceAdd] at *
  refine Sat.ob ?_ (Sat.ob (decide_eq_true i1) (Sat.ob ?_ (Sat.br (fun heq=>?_) (fun hne=>?_))))
  ·simp only [D.le,D.gp,D.lt,D.gq,D.eq,D.gz,D.not,D.dR,D.and,D.dS,D.or,D.gB,D.inr,D.var,D.lit,D.dh,D.beq,D.dU,D.dV,D.dW,D.add,D.sub,D.mul,D.min,D.max,D.di,D.bT,D.bU]
   cases h:r.bv 0
   ·rfl
   ·have:=hat.1.1.1 h
    simp only [Nat.zero_add] at this
    omega
  ·simp only [D.le,D.gp,D.lt,D.gq,D.eq,D.gz,D.not,D.dR,D.and,D.dS,D.or,D.gB,D.inr,D.var,D.lit,D.dh,D.beq,D.dU,D.dV,D.dW,D.add,D.sub,D.mul,D.min,D.max,D.di,D.bT,D.bU]
   omega
  ·have hk:qf (r.iv 4) (bg r 3 (r.iv 16).toNat)=true:=by
    simp only [D.le,D.gp,D.lt,D.gq,D.eq,D.gz,D.not,D.dR,D.and,D.dS,D.or,D.gB,D.inr,D.var,D.lit,D.dh,D.beq,D.dU,D.dV,D.dW,D.add,D.sub,D.mul,D.min,D.max,D.di,D.bT,D.bU] at heq
    exact decide_eq_true heq
   refine Sat.ob ?_ (Sat.ob (decide_eq_true p2) (Sat.ob (decide_eq_true p3) (Sat.ob (decide_eq_true p4) (Sat.ob (aK hat.2.1.2.2.1) (Sat.new fun e3 hf=>Sat.ob ?_ (Sat.back rfl ⟨?_,?_⟩))))))
   ·simp only [D.le,D.gp,D.lt,D.gq,D.eq,D.gz,D.not,D.dR,D.and,D.dS,D.or,D.gB,D.inr,D.var,D.lit,D.dh,D.beq,D.dU,D.dV,D.dW,D.add,D.sub,D.mul,D.min,D.max,D.di,D.bT,D.bU];omega
   ·simp only [D.le,D.gp,D.lt,D.gq,D.eq,D.gz,D.not,D.dR,D.and,D.dS,D.or,D.gB,D.inr,D.var,D.lit,D.dh,D.beq,D.dU,D.dV,D.dW,D.add,D.sub,D.mul,D.min,D.max,D.di,D.bT,D.bU];simp [Env.join];omega
   ·have hf:=hf _ (List.mem_singleton.2 rfl)
    simp only [D.be,D.le,D.gp,D.lt,D.gq,D.eq,D.gz,D.not,D.dR,D.and,D.dS,D.or,D.gB,D.inr,D.var,D.lit,D.dh,D.beq,D.dU,D.dV,D.dW,D.add,D.sub,D.mul,D.min,D.max,D.di,D.bT,D.bU] at hf
    simp [Env.join] at hf
    refine ⟨⟨by simp [Sub.ag,assoc,CV.I,CV.B,ah,ai,ae.I,ae.B,SC.I,SC.B,IE.den,BE.den,Env.join];omega,by simp [Sub.ag,assoc,CV.I,CV.B,ah,ai,ae.I,ae.B,SC.I,SC.B,IE.den,BE.den,Env.join];omega⟩,⟨⟨o1,o2,o3,o4⟩,?_⟩,⟨?_,?_⟩⟩
    ·refine Eq.trans (b:=notes r 8) (by exact eO rfl fun i _=>by simp [bg,Sub.ag,assoc,CV.I,CV.B,ah,ai,ae.I,ae.B,SC.I,SC.B,IE.den,BE.den,Env.join]) ?_
     show notes r 8=((notes r 0).take (r.iv 16+1).toNat).filter (fun n=>!qf (r.iv 4) n)
     rw [htk,List.filter_append,n1]
     simp [hk]
    ·simp [bG,Sub.ag,assoc,CV.I,CV.B,ah,ai,ae.I,ae.B,SC.I,SC.B,IE.den,BE.den,Env.join]
     omega
    ·refine (jQ (ρ:=r) (b:=12) (x:=bg r 3 (r.iv 16).toNat) p2 rfl (fun i hi=>?_) ?_).trans ?_
     ·have:¬(r.iv 13).toNat=i:=by simp only [Nat.reduceAdd] at hi;omega
      simp [bg,Sub.ag,assoc,CV.I,CV.B,ah,ai,ae.I,ae.B,SC.I,SC.B,IE.den,BE.den,Env.join,this]
     ·simp [bg,Sub.ag,assoc,CV.I,CV.B,ah,ai,ae.I,ae.B,SC.I,SC.B,IE.den,BE.den,Env.join]
     ·show notes r 12 ++ _=((notes r 0).take (r.iv 16+1).toNat).filter (qf (r.iv 4))
      rw [htk,List.filter_append,n2]
      simp [hk]
   ·show (r.iv 1-(r.iv 16+1)).toNat<(r.iv 1-r.iv 16).toNat
    omega
  ·have hk:qf (r.iv 4) (bg r 3 (r.iv 16).toNat)=false:=by
    refine decide_eq_false fun h=>Bool.false_ne_true (hne.symm.trans ?_)
    simp only [D.le,D.gp,D.lt,D.gq,D.eq,D.gz,D.not,D.dR,D.and,D.dS,D.or,D.gB,D.inr,D.var,D.lit,D.dh,D.beq,D.dU,D.dV,D.dW,D.add,D.sub,D.mul,D.min,D.max,D.di,D.bT,D.bU];exact h
   refine Sat.ob ?_ (Sat.ob (decide_eq_true o2) (Sat.ob (decide_eq_true o3) (Sat.ob (decide_eq_true o4) (Sat.ob (aK hat.2.1.2.1.1) (Sat.new fun e3 hf=>Sat.ob ?_ (Sat.back rfl ⟨?_,?_⟩))))))
   ·simp only [D.le,D.gp,D.lt,D.gq,D.eq,D.gz,D.not,D.dR,D.and,D.dS,D.or,D.gB,D.inr,D.var,D.lit,D.dh,D.beq,D.dU,D.dV,D.dW,D.add,D.sub,D.mul,D.min,D.max,D.di,D.bT,D.bU];omega
   ·simp only [D.le,D.gp,D.lt,D.gq,D.eq,D.gz,D.not,D.dR,D.and,D.dS,D.or,D.gB,D.inr,D.var,D.lit,D.dh,D.beq,D.dU,D.dV,D.dW,D.add,D.sub,D.mul,D.min,D.max,D.di,D.bT,D.bU];simp [Env.join];omega
   ·have hf:=hf _ (List.mem_singleton.2 rfl)
    simp only [D.be,D.le,D.gp,D.lt,D.gq,D.eq,D.gz,D.not,D.dR,D.and,D.dS,D.or,D.gB,D.inr,D.var,D.lit,D.dh,D.beq,D.dU,D.dV,D.dW,D.add,D.sub,D.mul,D.min,D.max,D.di,D.bT,D.bU] at hf
    simp [Env.join] at hf
    refine ⟨⟨by simp [Sub.ag,assoc,CV.I,CV.B,ah,ai,ae.I,ae.B,SC.I,SC.B,IE.den,BE.den,Env.join];omega,by simp [Sub.ag,assoc,CV.I,CV.B,ah,ai,ae.I,ae.B,SC.I,SC.B,IE.den,BE.den,Env.join];omega⟩,⟨?_,?_⟩,⟨⟨p1,p2,p3,p4⟩,?_⟩⟩
    ·simp [bG,Sub.ag,assoc,CV.I,CV.B,ah,ai,ae.I,ae.B,SC.I,SC.B,IE.den,BE.den,Env.join]
     omega
    ·refine (jQ (ρ:=r) (b:=8) (x:=bg r 3 (r.iv 16).toNat) o2 rfl (fun i hi=>?_) ?_).trans ?_
     ·have:¬(r.iv 9).toNat=i:=by simp only [Nat.reduceAdd] at hi;omega
      simp [bg,Sub.ag,assoc,CV.I,CV.B,ah,ai,ae.I,ae.B,SC.I,SC.B,IE.den,BE.den,Env.join,this]
     ·simp [bg,Sub.ag,assoc,CV.I,CV.B,ah,ai,ae.I,ae.B,SC.I,SC.B,IE.den,BE.den,Env.join]
     ·show notes r 8 ++ _=((notes r 0).take (r.iv 16+1).toNat).filter (fun n=>!qf (r.iv 4) n)
      rw [htk,List.filter_append,n1]
      simp [hk]
    ·refine Eq.trans (b:=notes r 12) (by exact eO rfl fun i _=>by simp [bg,Sub.ag,assoc,CV.I,CV.B,ah,ai,ae.I,ae.B,SC.I,SC.B,IE.den,BE.den,Env.join]) ?_
     show notes r 12=((notes r 0).take (r.iv 16+1).toNat).filter (qf (r.iv 4))
     rw [htk,List.filter_append,n2]
     simp [hk]
   ·show (r.iv 1-(r.iv 16+1)).toNat<(r.iv 1-r.iv 16).toNat
    omega
 ·replace hpre:kP (ρ.join 8 e):=hpre
  replace hI:qB (ρ.join 8 e):=hI
  replace hge:¬(ρ.join 8 e).iv 16<(ρ.join 8 e).iv 1:=of_decide_eq_false hge
  generalize ρ.join 8 e=q at *
  obtain ⟨⟨i1,i2⟩,⟨o,n1⟩,⟨p,n2⟩⟩:=hI
  rw [q9 _ _ (by simp only [Nat.zero_add];omega)] at n1 n2
  refine Sat.fin ⟨o,?_,p,?_⟩
  ·exact Eq.trans (b:=notes q 8) (by exact eO rfl fun i _=>by simp [bg,Sub.ag,assoc,CV.I,CV.B,ah,ai,ae.I,ae.B,SC.I,SC.B,IE.den,BE.den,Env.join]) n1
  ·exact Eq.trans (b:=notes q 12) (by exact eO rfl fun i _=>by simp [bg,Sub.ag,assoc,CV.I,CV.B,ah,ai,ae.I,ae.B,SC.I,SC.B,IE.den,BE.den,Env.join]) n2
theorem Oq:aV Tryz.prog jN kP EC :=
 cK dF (E:=MJ) (cs:=[]) rfl (fun k pre post h=>by cases h) bO rfl Om (by kernel_rfl) (fun ρ _ p hp=>by cases hp) Oo
end Go.Proofs.YthomdlajobnmnaaGreatDoor.Sv
namespace Go.Proofs.YthomdlajobnmnaaGreatDoor
open Go.Rex
def knK:Kn:=[(.aA (.lit 0) (.var 0),true),(.bS (.var 0) (.lit 6),true),(.bS (.var 1) (.lit 0),false),(.aA (.lit 9) (.var 1),false)]
noncomputable def mW:Ex:={sched:=sched,loops:=[],fin:=fV}
def FQ:Out :=
 .ob (.inr .i64 (.mul (.var 0) (.lit 9))) <|
 .ob (.inr .i64 (.add (.lit 25) (.mul (.var 0) (.lit 9)))) <|
 .ob (.inr .i64 (.add (.add (.lit 25) (.mul (.var 0) (.lit 9))) (.var 1))) <|
 .fin {lo:=2,az:=0}
theorem TC:exec tab mW 8000 [] (dZ fV.f fV.nv knK fV.gl fV.hp fV.args)=FQ:=by kernel_rfl
def vJ (ρ:Env):Prop:=(0≤ρ.iv 0∧ρ.iv 0<6)∧0≤ρ.iv 1∧ρ.iv 1<9
def kE (_:Env):Prop:=True
theorem TF (ρ:Env) (hpre:vJ ρ.num):Sat kE [] [] ρ FQ:=by
 replace hpre:vJ ρ:=hpre
 obtain ⟨⟨a,b⟩,c,d⟩:=hpre
 unfold FQ
 refine Sat.ob ?_ (Sat.ob ?_ (Sat.ob ?_ (Sat.fin trivial)))
 all_goals simp only [Da];omega
theorem Kh:aV Tryz.prog fV vJ kE :=
 cK dF (E:=mW) (cs:=[]) rfl (fun k pre post h=>by cases h) bO rfl TC (by kernel_rfl) (fun ρ h p hp=>by
   obtain ⟨⟨a,b⟩,c,d⟩:=h
   simp only [knK,List.mem_cons,List.not_mem_nil,or_false] at hp
   rcases hp with rfl | rfl | rfl | rfl
   · exact decide_eq_true a
   · exact decide_eq_true b
   · exact decide_eq_false (by simp only [IE.den];omega)
   · exact decide_eq_false (by simp only [IE.den];omega)) TF
def knS:Kn:=[(.aA (.lit 0) (.var 0),true),(.bS (.var 0) (.lit 6),true)]
noncomputable def VC:Ex:={sched:=sched,loops:=[],fin:=gI}
def FR:Out :=
 .ob (.inr .i64 (.add (.lit 79) (.var 0))) <|
 .fin {lo:=1,az:=0}
theorem TG:exec tab VC 8000 [] (dZ gI.f gI.nv knS gI.gl gI.hp gI.args)=FR:=by kernel_rfl
def vK (ρ:Env):Prop:=0≤ρ.iv 0∧ρ.iv 0<6
theorem TH (ρ:Env) (hpre:vK ρ.num):Sat kE [] [] ρ FR:=by
 replace hpre:vK ρ:=hpre
 obtain ⟨a,b⟩:=hpre
 unfold FR
 refine Sat.ob ?_ (Sat.fin trivial)
 simp only [Da];omega
theorem Ki:aV Tryz.prog gI vK kE :=
 cK dF (E:=VC) (cs:=[]) rfl (fun k pre post h=>by cases h) bO rfl TG (by kernel_rfl) (fun ρ h p hp=>by
   obtain ⟨a,b⟩:=h
   simp only [knS,List.mem_cons,List.not_mem_nil,or_false] at hp
   rcases hp with rfl | rfl
   · exact decide_eq_true a
   · exact decide_eq_true b) TH
def YS:Kn:=[(.bS (.var 0) (.lit 0),false),(.aA (.lit 24) (.var 0),false)]
def zJ:mY:=[(fV,vJ,kE),(gI,vK,kE)]
theorem FU:∀k pre post,(k,pre,post)∈zJ→jM k=true∧aV Tryz.prog k pre post:=by
 intro k pre post h
 simp only [zJ,List.mem_cons,List.not_mem_nil,or_false,Prod.mk.injEq] at h
 rcases h with ⟨rfl,rfl,rfl⟩ | ⟨rfl,rfl,rfl⟩
 ·exact ⟨by kernel_rfl,Kh⟩
 ·exact ⟨by kernel_rfl,Ki⟩
noncomputable def VD:Ex:={sched:=sched,loops:=[],fin:=fZ}
def FV:Out :=
 .ob (.or (.not (.var 51)) (.aB (.var 52) (.lit 0))) <|
 .ob (.aA (.lit 0) (.var 52)) <|
 .br (.aB (.var 52) (.lit 0))
 (.fin {lo:=71,az:=4,iv:=yo [(132,.lit 0),(131,.lit 0),(130,.lit 0),(129,.lit 0)]<|yr 128 61 3<|[(124,yv 57),(123,yv 56),(120,.lit 0),(119,.lit 0),(117,.lit 0),(116,.lit 0),(114,.lit 0),(112,.lit 0),(111,.lit 0),(110,.lit 0),(109,.lit 0),(107,.lit 0),(106,.lit 0),(105,.lit 0),(104,.lit 0),(102,.lit 0),(101,.lit 0),(100,.lit 0),(99,.lit 0),(97,.lit 0),(96,.lit 0),(95,.lit 0),(94,.lit 0),(93,.lit 0),(92,.lit 0),(91,.lit 0),(90,.lit 0),(89,.lit 0),(88,.lit 0),(87,.lit 0),(86,.lit 0),(85,.lit 0),(83,.lit 0),(82,.lit 0),(81,.lit 0),(80,.lit 0),(78,.lit 0),(77,.lit 0),(76,.lit 0),(75,.lit 0),(74,.lit 0),(73,.lit 0),(72,.lit 0),(71,.lit 0)],bv:=[(134,.lit true),(133,.lit false),(125,yw 58),(122,yw 55),(118,.lit true),(115,.lit true),(113,.lit false),(108,.lit false),(103,.lit false),(98,.lit false),(84,.lit false),(79,.lit false)],ct:=[(137,yu 70 59 7 yN 0),(121,yl 54 9 5 50 yW 0)],bk:=[(6,yc 3 7)],nb:=[5,4,5,4]})
 (.ob (.not (.var 51)) <|
  .ob (.bS (.lit 0) (.var 52)) <|
  .ob (.aA (.lit 0) (.var 69)) <|
  .ob (.bS (.var 69) (.var 70)) <|
  .fin {lo:=71,az:=4,iv:=yo [(137,yv 70)]<|yr 132 65 7<|yo [(124,yv 57),(123,yv 56),(120,yv 53),(119,yv 52),(136,yv 69),(117,yv 50),(116,yv 49),(114,yv 47)]<|yr 112 45 4<|yr 107 40 4<|yo [(102,.lit 0),(101,.lit 0),(100,.lit 0),(99,.lit 0),(97,.cell 69 (.var 69) (.lit 0) 3),(96,.cell 69 (.var 69) (.lit 0) 2),(95,.cell 69 (.var 69) (.lit 0) 1),(94,.cell 69 (.var 69) (.lit 0) 0),(93,.lit 0),(92,.lit 0),(91,.lit 0),(90,.lit 5),(89,.lit 16)]<|yr 88 21 4<|yr 83 16 4<|yr 78 11 8 [],bv:=[(134,yw 67),(133,yw 66),(125,yw 58),(122,yw 55),(118,yw 51),(115,yw 48),(113,yw 46),(108,yw 41),(103,.lit false),(98,.cell 69 (.var 69) (.lit 0) 4),(84,yw 17),(79,yw 12)],ct:=[(137,yu 70 59 7 yN 0),(136,yu 69 70 7 yN 0),(135,yu 68 49 5 yW 0),(121,yl 54 9 5 50 yW 0)],bk:=[(6,yc 3 7),(5,yc 2 7),(4,yc 1 5)]})
theorem TK:exec tab VD 8000 [] (dZ fZ.f fZ.nv [] fZ.gl fZ.hp fZ.args)=FV:=by kernel_rfl
def Kj (ρ:Env):Prop:=bK ρ 4
def xw (ρ:Env):Prop:=bK ρ 71∧aa ρ 0 71=(aa ρ 0 4).eD
theorem TL (ρ:Env) (hpre:Kj ρ.num):Sat xw [] [] ρ FV:=by
 replace hpre:Kj ρ:=hpre
 obtain ⟨o1,o2,o3⟩:=hpre
 unfold FV
 have p2:=o2.1.2.1
 have p3:=o2.2
 simp only [Nat.reduceAdd] at p2 p3
 refine Sat.ob (aK o2.1) (Sat.ob (decide_eq_true p2) (Sat.br (fun c=>?_) (fun c=>?_)))
 ·simp only [Da] at c
  have hd:(aa ρ 0 4).bL=[]:=nZ c
  have hm:(aa ρ 0 4).eD=(aa ρ 0 4).done:=by unfold RS.eD;rw [hd]
  exact Sat.fin ⟨⟨(by first | exact o1 | exact o2 | exact o3 | exact aj rfl rfl | assumption),(by first | exact o2 | exact ⟨aj rfl rfl,Int.le_refl 0,.inl rfl⟩ | assumption),(by first | exact o1 | exact o2 | exact o3 | exact aj rfl rfl | assumption)⟩,Eq.trans (b:=(aa ρ 0 4).done) (RS.ext' rfl rfl rfl rfl rfl rfl bA bF rfl rfl rfl rfl bE rfl bB rfl rfl) (Eq.symm (hm))⟩
 ·simp only [Da] at c
  have h1:(aa ρ 0 4).bL=_:=EA (ρ:=ρ) (r:=69) (o:=ρ.iv 69) (n:=ρ.iv 52) (by omega) p3.1
  have hm:(aa ρ 0 4).eD=(aa ρ 0 4).ask 16 ⟨5,0,0,0,(bR ρ 69 (ρ.iv 69).toNat).ref,Wd.zero⟩:=by unfold RS.eD;rw [h1]
  refine Sat.ob (bW o2.1 (by simp only [Nat.reduceAdd];omega)) (Sat.ob (by simp only [Da];omega) (Sat.ob (by simp only [Da];omega) (Sat.ob (by simp only [Da];omega) (Sat.fin ⟨⟨(by first | exact o1 | exact o2 | exact o3 | exact aj rfl rfl | assumption),(by first | exact o2 | exact ⟨aj rfl rfl,Int.le_refl 0,.inl rfl⟩ | assumption),(by first | exact o1 | exact o2 | exact o3 | exact aj rfl rfl | assumption)⟩,Eq.trans (b:=(aa ρ 0 4).ask 16 ⟨5,0,0,0,(bR ρ 69 (ρ.iv 69).toNat).ref,Wd.zero⟩) (RS.ext' rfl rfl rfl rfl rfl rfl bA bF rfl rfl rfl rfl bE rfl bB rfl rfl) (Eq.symm (hm))⟩))))
theorem Kk:aV Tryz.prog fZ Kj xw :=
 cK dF (E:=VD) (cs:=[]) rfl (fun k pre post h=>by cases h) bO rfl TK (by kernel_rfl) (fun ρ _ p hp=>by cases hp) TL
def vL (ρ:Env):Prop:=0≤ρ.iv 1∧ρ.iv 1<6∧1≤ρ.iv 2∧ρ.iv 2≤6
theorem jq {σ:Sub} {ρ:Env} (h0:(σ.ag ρ).iv 0=ρ.iv 0) (h1:(σ.ag ρ).iv 1=ρ.iv 1) (h2:(σ.ag ρ).iv 2=ρ.iv 2) (h3:(σ.ag ρ).iv 3=ρ.iv 3):∀i,i<4→(σ.ag ρ).iv i=ρ.iv i:=by
 intro i hi
 match i with
 | 0=>exact h0
 | 1=>exact h1
 | 2=>exact h2
 | 3=>exact h3
noncomputable def VE:Ex:={sched:=sched,loops:=[],cons:=[fV,gI],fin:=iR}
def FW:Out :=
 .br (.or (.aB (.var 0) (.lit 2)) (.aB (.var 0) (.lit 3)))
 (.ob (.inr .i64 (.mul (.var 2) (.lit 9))) <|
  .br (.aA (.mul (.var 2) (.lit 9)) (.var 71))
  (.fin {lo:=72,az:=4,iv:=yo [(138,yv 70)]<|yr 133 65 7<|yo [(125,yv 57),(124,yv 56),(121,yv 53),(120,yv 52),(137,yv 69),(118,yv 50),(117,yv 49),(115,yv 47)]<|yr 113 45 4<|yr 108 40 4<|yr 103 35 4<|yr 98 30 13<|yr 84 16 4<|yr 79 11 8 [],bv:=[(135,yw 67),(134,yw 66),(126,yw 58),(123,yw 55),(119,yw 51),(116,yw 48),(114,yw 46),(109,yw 41),(104,yw 36),(99,yw 31),(85,yw 17),(80,yw 12),(139,.lit false)],ct:=[(138,yu 70 59 7 yN 0),(137,yu 69 70 7 yN 0),(136,yu 68 49 5 yW 0),(122,yl 54 9 5 50 yW 0)],bk:=[(6,yc 3 7),(5,yc 2 7),(4,yc 1 5)]})
  (.ob (.inr .i64 (.div (.var 71) (.lit 9))) <|
   .call 0 {lo:=0,az:=0,iv:=[(1,.mod (.var 71) (.lit 9)),(0,.div (.var 71) (.lit 9))]} 72 <|
   .fin {lo:=72,az:=4,iv:=yo [(138,yv 70)]<|yr 133 65 7<|yo [(125,yv 57),(124,yv 56),(121,yv 53),(120,yv 52),(137,yv 69),(118,yv 50),(117,yv 49),(115,yv 71)]<|yr 113 45 4<|yr 108 40 4<|yo [(103,.lit 0),(102,.lit 0),(101,.lit 0),(100,.lit 0),(98,.lit 0),(97,.lit 0),(96,.lit 0),(95,.lit 0),(94,.add (.add (.lit 25) (.mul (.div (.var 71) (.lit 9)) (.lit 9))) (.mod (.var 71) (.lit 9))),(93,.lit 0),(92,.lit 0),(91,.lit 1),(90,.lit 13)]<|yr 89 21 4<|yr 84 16 4<|yr 79 11 8 [],bv:=[(135,yw 67),(134,yw 66),(126,yw 58),(123,yw 55),(119,yw 51),(116,yw 48),(114,yw 46),(109,yw 41),(104,.lit false),(99,.lit false),(85,yw 17),(80,yw 12),(139,.lit true)],ct:=[(138,yu 70 59 7 yN 0),(137,yu 69 70 7 yN 0),(136,yu 68 49 5 yW 0),(122,yl 54 9 5 50 yW 0)],bk:=[(6,yc 3 7),(5,yc 2 7),(4,yc 1 5)]}))
 (.br (.aA (.var 2) (.var 71))
  (.fin {lo:=72,az:=4,iv:=yo [(138,yv 70)]<|yr 133 65 7<|yo [(125,yv 57),(124,yv 56),(121,yv 53),(120,yv 52),(137,yv 69),(118,yv 50),(117,yv 49),(115,yv 47)]<|yr 113 45 4<|yr 108 40 4<|yr 103 35 4<|yr 98 30 13<|yr 84 16 4<|yr 79 11 8 [],bv:=[(135,yw 67),(134,yw 66),(126,yw 58),(123,yw 55),(119,yw 51),(116,yw 48),(114,yw 46),(109,yw 41),(104,yw 36),(99,yw 31),(85,yw 17),(80,yw 12),(139,.lit false)],ct:=[(138,yu 70 59 7 yN 0),(137,yu 69 70 7 yN 0),(136,yu 68 49 5 yW 0),(122,yl 54 9 5 50 yW 0)],bk:=[(6,yc 3 7),(5,yc 2 7),(4,yc 1 5)]})
  (.call 1 {lo:=0,az:=0,iv:=[(0,yv 71)]} 72 <|
   .fin {lo:=72,az:=4,iv:=yo [(138,yv 70)]<|yr 133 65 7<|yo [(125,yv 57),(124,yv 56),(121,yv 53),(120,yv 52),(137,yv 69),(118,yv 50),(117,yv 49),(115,yv 71)]<|yr 113 45 4<|yr 108 40 4<|yo [(103,.lit 0),(102,.lit 0),(101,.lit 0),(100,.lit 0),(98,.lit 0),(97,.lit 0),(96,.lit 0),(95,.lit 0),(94,.add (.lit 79) (.var 71)),(93,.lit 0),(92,.lit 0),(91,.lit 1),(90,.lit 13)]<|yr 89 21 4<|yr 84 16 4<|yr 79 11 8 [],bv:=[(135,yw 67),(134,yw 66),(126,yw 58),(123,yw 55),(119,yw 51),(116,yw 48),(114,yw 46),(109,yw 41),(104,.lit false),(99,.lit false),(85,yw 17),(80,yw 12),(139,.lit true)],ct:=[(138,yu 70 59 7 yN 0),(137,yu 69 70 7 yN 0),(136,yu 68 49 5 yW 0),(122,yl 54 9 5 50 yW 0)],bk:=[(6,yc 3 7),(5,yc 2 7),(4,yc 1 5)]}))
theorem TM:exec tab VE 8000 [] (dZ iR.f iR.nv [] iR.gl iR.hp iR.args)=FW:=by kernel_rfl
def rO (ρ:Env):Prop:=bK ρ 4∧vL ρ∧0≤ρ.iv 71∧ρ.iv 71≤1000000
def sO (ρ:Env):Prop:=bK ρ 72∧ρ.bv 139=((aa ρ 0 4).look (ρ.iv 71)).isSome∧aa ρ 0 72=((aa ρ 0 4).look (ρ.iv 71)).getD (aa ρ 0 4)
theorem Hm {r q:RS} {n:Int} (h:r.look n=some q):(r.look n).getD r=q:=by rw [h];rfl
theorem Ho {r:RS} {n:Int} (h:r.look n=none):(r.look n).getD r=r:=by rw [h];rfl
theorem dm9 {n:Int} (h:0≤n):n.tdiv 9=n / 9∧n.tmod 9=n % 9:=⟨Int.tdiv_eq_ediv_of_nonneg h,Int.tmod_eq_emod_of_nonneg h⟩
theorem TN (ρ:Env) (hpre:rO ρ.num):Sat sO zJ [] ρ FW:=by
 replace hpre:rO ρ:=hpre
 obtain ⟨⟨o1,o2,o3⟩,⟨s1,s2,s3,s4⟩,n1,n2⟩:=hpre
 unfold FW
 refine Sat.br (fun c=>?_) (fun c=>?_)
 ·simp only [Da] at c
  have hk:(aa ρ 0 4).bP:=c
  refine Sat.ob (by simp only [Da];omega) (Sat.br (fun c2=>?_) (fun c2=>?_))
  ·simp only [Da] at c2
   have hm:(aa ρ 0 4).look (ρ.iv 71)=none:=by unfold RS.look;rw [if_pos hk];exact if_pos c2
   exact Sat.fin ⟨⟨(by first | exact o1 | exact o2 | exact o3 | exact aj rfl rfl | assumption),(by first | exact o2 | exact ⟨aj rfl rfl,Int.le_refl 0,.inl rfl⟩ | assumption),(by first | exact o1 | exact o2 | exact o3 | exact aj rfl rfl | assumption)⟩,(by show false=_;exact (congrArg Option.isSome hm).symm),Eq.trans (b:=(aa ρ 0 4)) (RS.ext' rfl rfl rfl rfl rfl rfl bA bF rfl rfl rfl rfl bE rfl bB rfl rfl) (Eq.symm (Ho hm))⟩
  ·simp only [Da] at c2
   have hm:(aa ρ 0 4).look (ρ.iv 71)=some (({aa ρ 0 4 with index:=ρ.iv 71}:RS).load 13 0 0 (25+ρ.iv 71)):=by unfold RS.look;rw [if_pos hk];exact if_neg (by show ¬ρ.iv 71≥ρ.iv 2 * 9;omega)
   obtain ⟨d1,d2⟩:=dm9 n1
   refine Sat.ob (by simp only [Da];show _∧_;simp only [IE.den,d1];omega) (Sat.iT (c:=fV) rfl ⟨⟨?_,?_⟩,?_,?_⟩ (fun q=>((bK q 4)∧0≤q.iv 71)∧(aa q 0 4).look (q.iv 71)=some (({aa q 0 4 with index:=q.iv 71}:RS).load 13 0 0 (25+q.iv 71))) (fun e _=>⟨⟨⟨o1,o2,o3⟩,n1⟩,hm⟩) fun q hq=>?_)
   ·show 0≤(ρ.iv 71).tdiv 9;omega
   ·show (ρ.iv 71).tdiv 9<6;omega
   ·show 0≤(ρ.iv 71).tmod 9;omega
   ·show (ρ.iv 71).tmod 9<9;omega
   obtain ⟨⟨⟨o1,o2,o3⟩,n1⟩,hm⟩:=hq
   obtain ⟨d1,d2⟩:=dm9 n1
   have e:25+(q.iv 71).tdiv 9 * 9+(q.iv 71).tmod 9=25+q.iv 71:=by omega
   exact Sat.fin ⟨⟨(by first | exact o1 | exact o2 | exact o3 | exact aj rfl rfl | assumption),(by first | exact o2 | exact ⟨aj rfl rfl,Int.le_refl 0,.inl rfl⟩ | assumption),(by first | exact o1 | exact o2 | exact o3 | exact aj rfl rfl | assumption)⟩,(by show true=_;exact (congrArg Option.isSome hm).symm),Eq.trans (b:=(({aa q 0 4 with index:=q.iv 71}:RS).load 13 0 0 (25+q.iv 71))) (RS.ext' rfl rfl (congrArg (fun x=>(⟨1,0,0,x,Wd.zero,Wd.zero⟩:Ac)) e) rfl rfl rfl bA bF rfl rfl rfl rfl bE rfl bB rfl rfl) (Eq.symm (Hm hm))⟩
 ·simp only [Da] at c
  have hk:¬(aa ρ 0 4).bP:=fun h:ρ.iv 0=2∨ρ.iv 0=3=>by omega
  refine Sat.br (fun c2=>?_) (fun c2=>?_)
  ·simp only [Da] at c2
   have hm:(aa ρ 0 4).look (ρ.iv 71)=none:=by unfold RS.look;rw [if_neg hk];exact if_pos c2
   exact Sat.fin ⟨⟨(by first | exact o1 | exact o2 | exact o3 | exact aj rfl rfl | assumption),(by first | exact o2 | exact ⟨aj rfl rfl,Int.le_refl 0,.inl rfl⟩ | assumption),(by first | exact o1 | exact o2 | exact o3 | exact aj rfl rfl | assumption)⟩,(by show false=_;exact (congrArg Option.isSome hm).symm),Eq.trans (b:=(aa ρ 0 4)) (RS.ext' rfl rfl rfl rfl rfl rfl bA bF rfl rfl rfl rfl bE rfl bB rfl rfl) (Eq.symm (Ho hm))⟩
  ·simp only [Da] at c2
   have hm:(aa ρ 0 4).look (ρ.iv 71)=some (({aa ρ 0 4 with index:=ρ.iv 71}:RS).load 13 0 0 (79+ρ.iv 71)):=by unfold RS.look;rw [if_neg hk];exact if_neg (by show ¬ρ.iv 71≥ρ.iv 2;omega)
   refine Sat.iT (c:=gI) rfl ⟨n1,?_⟩ (fun q=>((bK q 4)∧0≤q.iv 71)∧(aa q 0 4).look (q.iv 71)=some (({aa q 0 4 with index:=q.iv 71}:RS).load 13 0 0 (79+q.iv 71))) (fun e _=>⟨⟨⟨o1,o2,o3⟩,n1⟩,hm⟩) fun q hq=>?_
   ·show ρ.iv 71<6;omega
   obtain ⟨⟨⟨o1,o2,o3⟩,n1⟩,hm⟩:=hq
   exact Sat.fin ⟨⟨(by first | exact o1 | exact o2 | exact o3 | exact aj rfl rfl | assumption),(by first | exact o2 | exact ⟨aj rfl rfl,Int.le_refl 0,.inl rfl⟩ | assumption),(by first | exact o1 | exact o2 | exact o3 | exact aj rfl rfl | assumption)⟩,(by show true=_;exact (congrArg Option.isSome hm).symm),Eq.trans (b:=(({aa q 0 4 with index:=q.iv 71}:RS).load 13 0 0 (79+q.iv 71))) (RS.ext' rfl rfl rfl rfl rfl rfl bA bF rfl rfl rfl rfl bE rfl bB rfl rfl) (Eq.symm (Hm hm))⟩
theorem Kl:aV Tryz.prog iR rO sO :=
 cK dF (E:=VE) (cs:=zJ) rfl FU bO rfl TM (by kernel_rfl) (fun ρ _ p hp=>by cases hp) TN
end Go.Proofs.YthomdlajobnmnaaGreatDoor
