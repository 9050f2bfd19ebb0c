/- part 12 of the proof -/
import Derived.Test.YthomdlajobnmnaaDoorQ10
import Derived.Test.YthomdlajobnmnaaDoorQ11
import Derived.Test.YthomdlajobnmnaaDoorQ9
set_option linter.unusedSimpArgs false
set_option linter.unusedVariables false
namespace Go.Rex
theorem lM.alloc {w0 w:World} {W:Nat→Prop} (h:lM w0 W w) (o:Obj):lM w0 W (w.alloc o) :=
 h.step rfl rfl rfl (by simp) fun k hk _=>heap_alloc_old w _ (Nat.lt_of_lt_of_le hk h.size)
theorem lM.set {w0 w:World} {W:Nat→Prop} (h:lM w0 W w) {a:Addr} {v:Value} (ha:w0.heap.size≤a.block):lM w0 W (w.setCell a v):=by
 refine h.step rfl rfl rfl (by simp [World.setCell]) fun k hk _=>?_
 simp only [World.setCell]
 rw [Array.getElem?_modify]
 rw [if_neg (by omega)]
section
variable {H:Type} {enc:TypeId × Value→H} {P:Program} {W:World}
open Go.WideShapes Go.ChangeShapes Go.RowKit
end
section
variable {σ:Sub} {ρ ρ':Env} {N:Nat}
theorem gQ (m k:Nat):(aG σ m N ρ ρ').iv (m+k)=ρ'.iv (N+k):=by
 show (if m+k<m then (σ.af ρ).iv (m+k) else ρ'.iv (m+k-m+N))=_
 rw [if_neg (by omega),show m+k-m+N=N+k by omega]
theorem jV (m k:Nat):(aG σ m N ρ ρ').bv (m+k)=ρ'.bv (N+k):=by
 show (if m+k<m then (σ.af ρ).bv (m+k) else ρ'.bv (m+k-m+N))=_
 rw [if_neg (by omega),show m+k-m+N=N+k by omega]
theorem sJ (m k:Nat):(aG σ m N ρ ρ').ic (m+k)=ρ'.ic (N+k):=by
 show (if m+k<m then (σ.af ρ).ic (m+k) else ρ'.ic (m+k-m+N))=_
 rw [if_neg (by omega),show m+k-m+N=N+k by omega]
theorem vB (m k:Nat):(aG σ m N ρ ρ').bc (m+k)=ρ'.bc (N+k):=by
 show (if m+k<m then (σ.af ρ).bc (m+k) else ρ'.bc (m+k-m+N))=_
 rw [if_neg (by omega),show m+k-m+N=N+k by omega]
end
end Go.Rex
set_option linter.unusedSimpArgs false
set_option linter.unusedVariables false
namespace Go.Proofs.YthomdlajobnmnaaDoor
open Go.Rex
def dV (ρ:Env) (r:Nat) (n:Int):List Wd:=(List.range n.toNat).map fun i=>aD (ρ.ic r i 0) (ρ.bc r i 0)
def bP (ρ:Env) (r:Nat) (i:Nat):Nt:=⟨aD (ρ.ic r i 0) (ρ.bc r i 0),ρ.ic r i 0 5,ρ.ic r i 0 6⟩
def aW (ρ:Env) (r:Nat) (n:Int):List Nt:=(List.range n.toNat).map (bP ρ r)
def gY (ρ:Env) (r:Nat) (o n:Int):List Nt:=(List.range n.toNat).map fun i=>bP ρ r (o.toNat+i)
def ku (ρ:Env) (v:Nat):Ca:=⟨ρ.iv v,ρ.iv (v+1),ρ.iv (v+2),ρ.iv (v+3),av ρ (v+4),av ρ (v+9),ρ.iv (v+14),ρ.iv (v+15),ρ.iv (v+16),ρ.iv (v+17)⟩
def ae (ρ:Env) (s v:Nat):RS where
 call:=ku ρ v
 step:=ρ.iv (v+18)
 acc:=ay ρ (v+19)
 word:=av ρ (v+33)
 clock:=av ρ (v+38)
 index:=ρ.iv (v+43)
 seen:=dV ρ (v+64) (ρ.iv (v+45))
 bI:=gY ρ (v+65) (ρ.iv (v+65)) (ρ.iv (v+48))
 ak:=ρ.iv s
 me:=ρ.iv (s+1)
 threads:=ρ.iv (s+2)
 most:=ρ.iv (s+3)
 holds:=fun i=>aD (ρ.ic (v+50) i 0) (ρ.bc (v+50) i 0)
 span:=⟨ρ.bv (v+51),ρ.iv (v+52),ρ.iv (v+53)⟩
 notes:=aW ρ (v+66) (ρ.iv (v+55))
 freed:=ρ.iv (v+57)
 gq:=aI ρ (v+58)
def bJ (ρ:Env) (v:Nat):Prop:=aZ ρ (v+44)∧(aZ ρ (v+47)∧0≤ρ.iv (v+65)∧(ρ.iv (v+48)=0∨ρ.iv (v+65)+ρ.iv (v+48)≤ρ.iv (v+66)))∧aZ ρ (v+54)
theorem RS.ext' {p q:RS} (h1:p.call=q.call) (h2:p.step=q.step) (h3:p.acc=q.acc) (h4:p.word=q.word) (h5:p.clock=q.clock) (h6:p.index=q.index) (h7:p.seen=q.seen) (h8:p.bI=q.bI) (h9:p.ak=q.ak) (h10:p.me=q.me) (h11:p.threads=q.threads) (h12:p.most=q.most)
  (IA:∀i,p.holds i=q.holds i) (Yw:p.span=q.span) (RV:p.notes=q.notes) (h16:p.freed=q.freed) (Yx:p.gq=q.gq):p=q:=by
 cases p
 cases q
 simp only at *
 subst h1 h2 h3 h4 h5 h6 h7 h8 h9 h10 h11 h12 Yw RV h16 Yx
 obtain rfl:=funext IA
 rfl
theorem Di {ρ ρ':Env} {r r':Nat} {n n':Int} (hn:n=n') (h:∀i,aD (ρ.ic r i 0) (ρ.bc r i 0)=aD (ρ'.ic r' i 0) (ρ'.bc r' i 0)):dV ρ r n=dV ρ' r' n':=by
 subst hn
 unfold dV
 congr 1
 funext i
 exact h i
theorem fJ {ρ ρ':Env} {r r':Nat} {n n':Int} (hn:n=n') (h:∀i,bP ρ r i=bP ρ' r' i):aW ρ r n=aW ρ' r' n':=by
 subst hn
 unfold aW
 congr 1
 funext i
 exact h i
theorem Fj {ρ:Env} {r:Nat} {n:Int} (hn:n=0):dV ρ r n=[]:=by subst hn;rfl
theorem Fp {ρ:Env} {r:Nat} {n:Int} (hn:n=0):aW ρ r n=[]:=by subst hn;rfl
theorem wQ {ρ ρ':Env} {r r':Nat} {o o' n n':Int} (hn:n=n') (ho:o=o') (h:∀i,bP ρ r i=bP ρ' r' i):gY ρ r o n=gY ρ' r' o' n':=by
 subst hn ho
 unfold gY
 congr 1
 funext i
 exact h _
theorem nR {ρ:Env} {r:Nat} {o n:Int} (hn:n=0):gY ρ r o n=[]:=by subst hn;rfl
theorem bg {a b:List Wd} (h:a=b:=by first | exact Fj rfl | exact Di rfl fun i=>by simp [aD,-Int.pred_toNat,Sub.af,assoc,CV.I,CV.B,ah,ai,aa.I,aa.B,SC.I,SC.B,IE.den,BE.den] | assumption):a=b:=h
theorem bz {a b:List Nt} (h:a=b:=by first | exact Fp rfl | exact fJ rfl fun i=>by simp [bP,aD,-Int.pred_toNat,Sub.af,assoc,CV.I,CV.B,ah,ai,aa.I,aa.B,SC.I,SC.B,IE.den,BE.den] | assumption):a=b:=h
theorem bB {a b:List Nt} (h:a=b:=by first | exact nR rfl | exact wQ rfl rfl fun i=>by simp [bP,aD,-Int.pred_toNat,Sub.af,assoc,CV.I,CV.B,ah,ai,aa.I,aa.B,SC.I,SC.B,IE.den,BE.den] | assumption):a=b:=h
theorem bE {a b:Nat→Wd} (h:∀i,a i=b i:=by intro i;first | rfl | (simp [ae,aD,-Int.pred_toNat,Sub.af,assoc,CV.I,CV.B,ah,ai,aa.I,aa.B,SC.I,SC.B,IE.den,BE.den];done) | (simp [ae,aD,-Int.pred_toNat,Sub.af,assoc,CV.I,CV.B,ah,ai,aa.I,aa.B,SC.I,SC.B,IE.den,BE.den];rfl)):∀i,a i=b i:=h
theorem LH {ρ:Env} {r:Nat} {n:Int}:gY ρ r 0 n=aW ρ r n:=by
 unfold gY aW
 congr 1
 funext i
 simp
theorem Dj {ρ:Env} {r:Nat} {o n:Int} (h0:0<n) (ho:0≤o):gY ρ r o n=bP ρ r o.toNat :: gY ρ r (o+1) (n-1):=by
 unfold gY
 rw [show n.toNat=(n-1).toNat+1 by omega,List.range_succ_eq_map,List.map_cons,List.map_map,Nat.add_zero]
 congr 1
 congr 1
 funext i
 simp only [Function.comp]
 congr 1
 omega
theorem qB {ρ:Env} {r:Nat} {n:Int}:(dV ρ r n).length=n.toNat:=by simp [dV]
theorem jW {ρ:Env} {r:Nat} {n:Int}:(aW ρ r n).length=n.toNat:=by simp [aW]
theorem LJ {ρ ρ':Env} {r r':Nat} {n n':Int} {w:Wd} (h0:0≤n) (hn:n'=n+1) (h:∀i:Nat,(i:Int)<n→aD (ρ'.ic r' i 0) (ρ'.bc r' i 0)=aD (ρ.ic r i 0) (ρ.bc r i 0)) (hw:aD (ρ'.ic r' n.toNat 0) (ρ'.bc r' n.toNat 0)=w) :
  dV ρ' r' n'=dV ρ r n ++ [w]:=by
 subst hn hw
 unfold dV
 rw [show (n+1).toNat=n.toNat+1 by omega,List.range_succ,List.map_append]
 congr 1
 exact List.map_congr_left fun i hi=>h i (by have:=List.mem_range.1 hi;omega)
theorem LK {ρ ρ':Env} {r r':Nat} {n n':Int} {w:Nt} (h0:0≤n) (hn:n'=n+1) (h:∀i:Nat,(i:Int)<n→bP ρ' r' i=bP ρ r i) (hw:bP ρ' r' n.toNat=w) :
  aW ρ' r' n'=aW ρ r n ++ [w]:=by
 subst hn hw
 unfold aW
 rw [show (n+1).toNat=n.toNat+1 by omega,List.range_succ,List.map_append]
 congr 1
 exact List.map_congr_left fun i hi=>h i (by have:=List.mem_range.1 hi;omega)
theorem oH {a b:Wd}:a=b↔a.slot=b.slot∧a.gen=b.gen∧a.tag=b.tag∧a.num=b.num∧a.mark=b.mark:=by
 cases a;cases b;simp
end Go.Proofs.YthomdlajobnmnaaDoor
set_option linter.unusedSimpArgs false
set_option linter.unusedVariables false
namespace Go.Proofs.YthomdlajobnmnaaDoor
open Go.Rex
section
variable {σ:Sub} {ρ q:Env} {m d i:Nat}
theorem qY (h:i<m):(aG σ m d ρ q).iv i=(σ.af ρ).iv i:=if_pos h
theorem Wx (h:i<m):(aG σ m d ρ q).bv i=(σ.af ρ).bv i:=if_pos h
theorem RX (h:i<m):(aG σ m d ρ q).ic i=(σ.af ρ).ic i:=if_pos h
theorem RY (h:i<m):(aG σ m d ρ q).bc i=(σ.af ρ).bc i:=if_pos h
theorem NP (h:i<m):bP (aG σ m d ρ q) i=bP (σ.af ρ) i:=by
 funext k
 unfold bP
 rw [RX h,RY h]
theorem yO (k:Nat):bP (aG σ m d ρ q) (m+k)=bP q (d+k):=by
 funext j
 unfold bP
 rw [sJ,vB]
theorem zF (h:71≤m):ae (aG σ m d ρ q) 0 4=ae (σ.af ρ) 0 4:=by
 unfold ae ku ay aI av dV aW gY
 simp (disch:=omega) only [NP,qY,Wx,RX,RY]
theorem Ki (h:71≤m) (hst:∀i,i<4→(σ.af ρ).iv i=q.iv i):ae (aG σ m d ρ q) 0 m=ae q 0 d:=by
 have h0:=(qY (σ:=σ) (ρ:=ρ) (q:=q) (d:=d) (show 0<m by omega)).trans (hst 0 (by omega))
 have h1:=(qY (σ:=σ) (ρ:=ρ) (q:=q) (d:=d) (show 0+1<m by omega)).trans (hst 1 (by omega))
 have h2:=(qY (σ:=σ) (ρ:=ρ) (q:=q) (d:=d) (show 0+2<m by omega)).trans (hst 2 (by omega))
 have h3:=(qY (σ:=σ) (ρ:=ρ) (q:=q) (d:=d) (show 0+3<m by omega)).trans (hst 3 (by omega))
 have z0:=gQ (σ:=σ) (ρ:=ρ) (ρ':=q) (N:=d) m 0
 have z1:=jV (σ:=σ) (ρ:=ρ) (ρ':=q) (N:=d) m 0
 rw [Nat.add_zero,Nat.add_zero] at z0 z1
 unfold ae ku ay aI av dV aW gY
 rw [h0,h1,h2,h3]
 simp only [yO,Nat.add_assoc,Nat.reduceAdd,gQ,jV,sJ,vB,z0,z1]
theorem l5 (k:Nat):aZ (aG σ m d ρ q) (m+k)=aZ q (d+k):=by
 unfold aZ
 simp only [Nat.add_assoc,gQ,jV]
theorem wR:bJ (aG σ m d ρ q) m=bJ q d:=by
 unfold bJ
 rw [l5,l5,l5,gQ,gQ,gQ]
end
section
variable {post:Env→Prop} {cs:ko} {Γ:List (Env→Prop)} {ρ:Env}
theorem eB {g nv:Nat} {σ:Sub} {k:Out} {c:eu} {pre WZ:Env→Prop} (hg:cs[g]?=some (c,pre,WZ)) (r:RS) (M:RS)
  (hm:71≤c.nv) (h4:4≤nv) (hst:∀i,i<4→(σ.af ρ).iv i=ρ.iv i) (hpre:pre (σ.af ρ)) (hr:ae (σ.af ρ) 0 4=r)
  (XO:∀e:Env,WZ (aG σ c.nv nv ρ (ρ.join nv e))→ae (aG σ c.nv nv ρ (ρ.join nv e)) 0 4=r→bJ (aG σ c.nv nv ρ (ρ.join nv e)) c.nv∧ae (aG σ c.nv nv ρ (ρ.join nv e)) 0 c.nv=M) (K:Env→Prop)
  (hK:∀e,bJ (ρ.join nv e) nv→ae (ρ.join nv e) 0 nv=M→K (ρ.join nv e)) (h:∀q,K q→Sat post cs Γ q k):Sat post cs Γ ρ (.call g σ nv k):=by
 refine Sat.gX hg hpre K (fun e hq=>?_) h
 have hs:∀i,i<4→(σ.af ρ).iv i=(ρ.join nv e).iv i:=fun i hi=>by
  rw [hst i hi]
  exact (if_pos (show i<nv by omega)).symm
 obtain ⟨a,b⟩:=XO e hq ((zF hm).trans hr)
 rw [wR] at a
 rw [Ki hm hs] at b
 exact hK e a b
end
theorem aj {ρ:Env} {b:Nat} (h1:ρ.iv (b+1)=0) (h2:ρ.iv (b+2)=0):aZ ρ b:=by
 refine ⟨fun _=>h1,?_,?_,?_⟩ <;> omega
end Go.Proofs.YthomdlajobnmnaaDoor
set_option linter.unusedSimpArgs false
set_option linter.unusedVariables false
namespace Go.Proofs.YthomdlajobnmnaaDoor.Sv
open Go.Rex
structure uG where
 slot:Int
 gen:Int
 tag:Int
 num:Int
 mark:Bool
 aU:Int
 dh:Int
 deriving DecidableEq
def bu (ρ:Env) (r i:Nat):uG:=⟨ρ.ic r i 0 0,ρ.ic r i 0 1,ρ.ic r i 0 2,ρ.ic r i 0 3,ρ.bc r i 0 4,ρ.ic r i 0 5,ρ.ic r i 0 6⟩
def notes (ρ:Env) (b:Nat):List uG:=(List.range (ρ.iv (b+1)).toNat).map (bu ρ (b+3))
theorem uh {α:Type} {f g:Nat→α} {n:Nat} (h:∀i,i<n→f i=g i):(List.range n).map f=(List.range n).map g :=
 List.map_congr_left fun i hi=>h i (List.mem_range.1 hi)
theorem kP (ρ:Env) (b:Nat):(notes ρ b).length=(ρ.iv (b+1)).toNat:=by simp [notes]
theorem jX {ρ ρ':Env} {b b':Nat} {x:uG} (h0:0≤ρ.iv (b+1)) (h1:ρ'.iv (b'+1)=ρ.iv (b+1)+1) (h2:∀i,i<(ρ.iv (b+1)).toNat→bu ρ' (b'+3) i=bu ρ (b+3) i)
  (h3:bu ρ' (b'+3) (ρ.iv (b+1)).toNat=x):notes ρ' b'=notes ρ b ++ [x]:=by
 unfold notes
 rw [h1,show (ρ.iv (b+1)+1).toNat=(ρ.iv (b+1)).toNat+1 by omega,List.range_succ,List.map_append,uh h2,List.map_cons,List.map_nil,h3]
theorem eU {ρ ρ':Env} {b b':Nat} (h1:ρ'.iv (b'+1)=ρ.iv (b+1)) (h2:∀i,i<(ρ.iv (b+1)).toNat→bu ρ' (b'+3) i=bu ρ (b+3) i):notes ρ' b'=notes ρ b:=by
 unfold notes
 rw [h1,uh h2]
theorem qZ {ρ:Env} {b:Nat} {i:Nat} (h:i<(ρ.iv (b+1)).toNat):(notes ρ b).take (i+1)=(notes ρ b).take i ++ [bu ρ (b+3) i]:=by
 have hl:i<(notes ρ b).length:=by rw [kP];exact h
 rw [List.take_succ_eq_append_getElem hl]
 simp [notes]
theorem q9 (ρ:Env) (b:Nat) {n:Nat} (h:(ρ.iv (b+1)).toNat≤n):(notes ρ b).take n=notes ρ b:=List.take_of_length_le (by rw [kP];exact h)
def kQ (ρ:Env) (b:Nat):List Int:=(List.range (ρ.iv (b+1)).toNat).map fun j=>ρ.ic (b+3) j 0 0
def uH (ρ:Env) (b:Nat):List (Bool × Int × Int):=(List.range (ρ.iv (b+1)).toNat).map fun j=>(ρ.bc (b+3) j 0 0,ρ.ic (b+3) j 0 1,ρ.ic (b+3) j 0 2)
def p9 (l:List Int) (n:uG):Bool:=l.any fun s=>decide (s=n.slot)
def mJ (l:List Int) (n:uG):Bool:=l.any fun e=>decide ((0<e∧n.aU≤e)∧e≤n.dh)
def qd (l:List (Bool × Int × Int)) (n:uG):Bool:=l.any fun s=>decide ((s.1=true∧s.2.1≤n.dh)∧n.aU≤s.2.2)
def qf (now:Int) (n:uG):Bool:=decide (now < -9223372036854775806∨now-2<n.dh)
noncomputable def NQ:Ex:={sched:=sched,loops:=[LF,Vl],fin:=lg}
def Bi:Out :=
 .ob (.or (.not (.var 0)) (.aC (.var 1) (.lit 0))) <|
 .ob (.aA (.lit 0) (.var 1)) <|
 .loop 8 {lo:=8,az:=3,iv:=[(16,.lit 0),(14,.lit 0),(13,.lit 0),(10,.lit 0),(9,.lit 0)],bv:=[(12,.lit true),(8,.lit true)],nb:=[4,3]} <|
 .br (.bQ (.var 16) (.var 1))
 (.ob (.not (.var 0)) <|
  .ob (.aA (.lit 0) (.var 16)) <|
  .ob (.or (.not (.var 4)) (.aC (.var 5) (.lit 0))) <|
  .ob (.aA (.lit 0) (.var 5)) <|
  .loop 17 {lo:=17,az:=7,iv:=[(17,.lit 0)]} <|
  .br (.bQ (.var 17) (.var 5))
  (.ob (.not (.var 4)) <|
   .ob (.aA (.lit 0) (.var 17)) <|
   .br (.aC (.cell 7 (.var 17) (.lit 0) 0) (.cell 3 (.var 16) (.lit 0) 0))
   (.ob (.aA (.mul (.add (.var 13) (.lit 1)) (.lit 56)) (.lit 140737488355328)) <|
    .ob (.aA (.lit 0) (.var 13)) <|
    .ob (.aA (.var 13) (.var 14)) <|
    .ob (.aA (.var 14) (.lit 9223372036854775807)) <|
    .ob (.or (.not (.var 12)) (.aC (.var 13) (.lit 0))) <|
    .new 18 [.be (.and (.aA (.add (.var 13) (.lit 1)) (.var 18)) (.aA (.var 18) (.lit 9223372036854775807)))] <|
    .ob (.inr .i64 (.add (.var 16) (.lit 1))) <|
    .back 1 {lo:=8,az:=3,iv:=[(16,.add (.var 16) (.lit 1)),(14,yv 18),(13,.add (.var 13) (.lit 1)),(10,yv 10),(9,yv 9)],bv:=[(12,.lit false),(8,yw 8)],ct:=[(15,.up {r:=15,n1:=.add (.var 13) (.lit 1),s1:=7,ks:=yN} 0 [⟨0,(.var 13),(.lit 0),0,.int .i64 (.cell 3 (.var 16) (.lit 0) 0)⟩,⟨0,(.var 13),(.lit 0),1,.int .i64 (.cell 3 (.var 16) (.lit 0) 1)⟩,⟨0,(.var 13),(.lit 0),2,.int .i64 (.cell 3 (.var 16) (.lit 0) 2)⟩,⟨0,(.var 13),(.lit 0),3,.int .i64 (.cell 3 (.var 16) (.lit 0) 3)⟩,⟨0,(.var 13),(.lit 0),4,.bool (.cell 3 (.var 16) (.lit 0) 4)⟩,⟨0,(.var 13),(.lit 0),5,.int .i64 (.cell 3 (.var 16) (.lit 0) 5)⟩,⟨0,(.var 13),(.lit 0),6,.int .i64 (.cell 3 (.var 16) (.lit 0) 6)⟩] (.lit 0)),(11,yu 11 9 7 yN 0)],bk:=[(4,yc 9 7),(3,yc 3 7)]})
   (.ob (.inr .i64 (.add (.var 17) (.lit 1))) <|
    .back 0 {lo:=17,az:=7,iv:=[(17,.add (.var 17) (.lit 1))]}))
  (.ob (.aA (.mul (.add (.var 9) (.lit 1)) (.lit 56)) (.lit 140737488355328)) <|
   .ob (.aA (.lit 0) (.var 9)) <|
   .ob (.aA (.var 9) (.var 10)) <|
   .ob (.aA (.var 10) (.lit 9223372036854775807)) <|
   .ob (.or (.not (.var 8)) (.aC (.var 9) (.lit 0))) <|
   .new 18 [.be (.and (.aA (.add (.var 9) (.lit 1)) (.var 18)) (.aA (.var 18) (.lit 9223372036854775807)))] <|
   .ob (.inr .i64 (.add (.var 16) (.lit 1))) <|
   .back 1 {lo:=8,az:=3,iv:=[(16,.add (.var 16) (.lit 1)),(14,yv 14),(13,yv 13),(10,yv 18),(9,.add (.var 9) (.lit 1))],bv:=[(12,yw 12),(8,.lit false)],ct:=[(15,yu 15 13 7 yN 0),(11,.up {r:=11,n1:=.add (.var 9) (.lit 1),s1:=7,ks:=yN} 0 [⟨0,(.var 9),(.lit 0),0,.int .i64 (.cell 3 (.var 16) (.lit 0) 0)⟩,⟨0,(.var 9),(.lit 0),1,.int .i64 (.cell 3 (.var 16) (.lit 0) 1)⟩,⟨0,(.var 9),(.lit 0),2,.int .i64 (.cell 3 (.var 16) (.lit 0) 2)⟩,⟨0,(.var 9),(.lit 0),3,.int .i64 (.cell 3 (.var 16) (.lit 0) 3)⟩,⟨0,(.var 9),(.lit 0),4,.bool (.cell 3 (.var 16) (.lit 0) 4)⟩,⟨0,(.var 9),(.lit 0),5,.int .i64 (.cell 3 (.var 16) (.lit 0) 5)⟩,⟨0,(.var 9),(.lit 0),6,.int .i64 (.cell 3 (.var 16) (.lit 0) 6)⟩] (.lit 0))],bk:=[(4,yc 4 7),(3,yc 8 7)]}))
 (.fin {lo:=8,az:=2,iv:=[(14,yv 14),(13,yv 13),(10,yv 10),(9,yv 9)],bv:=[(12,yw 12),(8,yw 8)],ct:=[(15,yu 15 13 7 yN 0),(11,yu 11 9 7 yN 0)],bk:=[(3,yc 4 7),(2,yc 3 7)]})
theorem NR:exec tab NQ 4000 [] (fV lg.f 8 [] [] lg.hp lg.args)=Bi:=by kernel_rfl
def wS (ρ:Env) (i j:Nat):Prop:=ρ.ic 7 j 0 0=ρ.ic 3 i 0 0
def l6 (ρ:Env):Prop:=aZ ρ 0∧ρ.iv 1≤1000000∧aZ ρ 4∧ρ.iv 5≤1000000
def Fq (ρ:Env):Prop:=aZ ρ 8∧notes ρ 8=(notes ρ 0).filter (fun n=>!p9 (kQ ρ 4) n)∧aZ ρ 12∧notes ρ 12=(notes ρ 0).filter (p9 (kQ ρ 4))
def sK (ρ:Env):Prop:=(0≤ρ.iv 16∧ρ.iv 16≤ρ.iv 1)∧(aZ ρ 8∧notes ρ 8=((notes ρ 0).take (ρ.iv 16).toNat).filter (fun n=>!p9 (kQ ρ 4) n))∧aZ ρ 12∧notes ρ 12=((notes ρ 0).take (ρ.iv 16).toNat).filter (p9 (kQ ρ 4))
def D8 (ρ:Env):Prop:=(0≤ρ.iv 17∧ρ.iv 17≤ρ.iv 5)∧∀j:Nat,(j:Int)<ρ.iv 17→¬wS ρ (ρ.iv 16).toNat j
def pG (ρ:Env):Prop:=l6 ρ∧sK ρ∧ρ.iv 16<ρ.iv 1
theorem pG.lens {ρ:Env} (h:pG ρ):ρ.iv 9≤ρ.iv 16∧ρ.iv 13≤ρ.iv 16:=by
 obtain ⟨⟨a1,a5,b1,b5⟩,⟨⟨i1,i2⟩,⟨⟨o1,o2,o3,o4⟩,n1⟩,⟨⟨p1,p2,p3,p4⟩,n2⟩⟩,hlt⟩:=h
 have l1:(notes ρ 8).length≤(ρ.iv 16).toNat:=by
  rw [n1];refine Nat.le_trans (List.length_filter_le _ _) ?_;rw [List.length_take];omega
 have l2:(notes ρ 12).length≤(ρ.iv 16).toNat:=by
  rw [n2];refine Nat.le_trans (List.length_filter_le _ _) ?_;rw [List.length_take];omega
 rw [kP] at l1 l2
 simp only [Nat.reduceAdd] at *
 omega
theorem pG.take {ρ:Env} (h:pG ρ):(notes ρ 0).take (ρ.iv 16+1).toNat=(notes ρ 0).take (ρ.iv 16).toNat ++ [bu ρ 3 (ρ.iv 16).toNat]:=by
 obtain ⟨_,⟨⟨i1,i2⟩,_⟩,hlt⟩:=h
 rw [show (ρ.iv 16+1).toNat=(ρ.iv 16).toNat+1 by omega]
 exact qZ (b:=0) (by simp only [Nat.zero_add];omega)
theorem NS (ρ:Env) (hpre:l6 ρ.num):Sat Fq [] [] ρ Bi:=by
 replace hpre:l6 ρ:=hpre
 unfold Bi
 refine Sat.ob (aO hpre.1) (Sat.ob (decide_eq_true hpre.1.2.1) (Sat.loop sK (fun r=>(r.iv 1-r.iv 16).toNat) ?_ fun e hI=>Sat.br (fun hlt=>?_) (fun hge=>?_)))
 ·have h2:=hpre.1.2.1
  simp [sK,aZ,notes,Sub.af,assoc,CV.I,CV.B,ah,ai,aa.I,aa.B,SC.I,SC.B,IE.den,BE.den,h2]
 ·replace hpre:l6 (ρ.join 8 e):=hpre
  replace hI:sK (ρ.join 8 e):=hI
  replace hlt:(ρ.join 8 e).iv 16<(ρ.join 8 e).iv 1:=of_decide_eq_true hlt
  have hat:pG (ρ.join 8 e):=⟨hpre,hI,hlt⟩
  clear hpre hI hlt
  have hm:((ρ.join 8 e).num.iv 1-(ρ.join 8 e).num.iv 16).toNat=((ρ.join 8 e).iv 1-(ρ.join 8 e).iv 16).toNat:=rfl
  rw [hm]
  clear hm
  generalize ρ.join 8 e=r at *
  have hpre:=hat.1
  obtain ⟨⟨i1,i2⟩,-⟩:=hat.2.1
  have hlt:=hat.2.2
  obtain ⟨l1,l2⟩:=hat.lens
  refine Sat.ob ?_ (Sat.ob (decide_eq_true i1) (Sat.ob (aO hpre.2.2.1) (Sat.ob (decide_eq_true hpre.2.2.1.2.1) (Sat.loop D8 (fun r=>(r.iv 5-r.iv 17).toNat) ?_ fun e2 hI2=>Sat.br (fun hlt2=>?_) (fun yP=>?_)))))
  ·simp only [D.le,D.gz,D.lt,D.gB,D.eq,D.gF,D.not,D.dL,D.and,D.dM,D.or,D.gG,D.inr,D.var,D.lit,D.bZ,D.beq,D.dN,D.dO,D.dP,D.add,D.sub,D.mul,D.min,D.max,D.cu,D.bL,D.bM]
   cases h:r.bv 0
   ·rfl
   ·have:=hpre.1.1 h
    simp only [Nat.zero_add] at this
    omega
  ·refine ⟨⟨Int.le_refl 0,hpre.2.2.1.2.1⟩,fun j hj=>?_⟩
   have:(j:Int)<0:=hj
   omega
  ·replace hI2:D8 (r.join 17 e2):=hI2
   replace hat:pG (r.join 17 e2):=hat
   replace hlt2:(r.join 17 e2).iv 17<(r.join 17 e2).iv 5:=of_decide_eq_true hlt2
   rw [show (r.iv 1-r.iv 16).toNat=((r.join 17 e2).iv 1-(r.join 17 e2).iv 16).toNat from rfl]
   rw [show ((r.join 17 e2).num.iv 5-(r.join 17 e2).num.iv 17).toNat=((r.join 17 e2).iv 5-(r.join 17 e2).iv 17).toNat from rfl]
   clear hpre hlt l1 l2 i1 i2
   generalize r.join 17 e2=q at *
   have hpre:=hat.1
   obtain ⟨⟨i1,i2⟩,-⟩:=hat.2.1
   have hlt:=hat.2.2
   obtain ⟨l1,l2⟩:=hat.lens
   obtain ⟨⟨j1,j2⟩,j3⟩:=hI2
   refine Sat.ob ?_ (Sat.ob (decide_eq_true j1) (Sat.br (fun heq=>?_) (fun hne=>?_)))
   ·simp only [D.le,D.gz,D.lt,D.gB,D.eq,D.gF,D.not,D.dL,D.and,D.dM,D.or,D.gG,D.inr,D.var,D.lit,D.bZ,D.beq,D.dN,D.dO,D.dP,D.add,D.sub,D.mul,D.min,D.max,D.cu,D.bL,D.bM]
    cases h:q.bv 4
    ·rfl
    ·have:=hpre.2.2.1.1 h
     simp only [Nat.reduceAdd] at this
     omega
   ·replace heq:wS q (q.iv 16).toNat (q.iv 17).toNat:=by simp only [D.le,D.gz,D.lt,D.gB,D.eq,D.gF,D.not,D.dL,D.and,D.dM,D.or,D.gG,D.inr,D.var,D.lit,D.bZ,D.beq,D.dN,D.dO,D.dP,D.add,D.sub,D.mul,D.min,D.max,D.cu,D.bL,D.bM] at heq;exact heq
    have hk:p9 (kQ q 4) (bu q 3 (q.iv 16).toNat)=true:=by
     refine List.any_eq_true.2 ⟨_,List.mem_map.2 ⟨(q.iv 17).toNat,List.mem_range.2 (by simp only [Nat.reduceAdd];omega),rfl⟩,decide_eq_true heq⟩
    obtain ⟨⟨o1,o2,o3,o4⟩,n1⟩:=hat.2.1.2.1
    obtain ⟨⟨p1,p2,p3,p4⟩,n2⟩:=hat.2.1.2.2
    have htk:=hat.take
    obtain ⟨_,a5,_,b5⟩:=hpre
    simp only [Nat.reduceAdd] at *
    refine Sat.ob ?_ (Sat.ob (decide_eq_true p2) (Sat.ob (decide_eq_true p3) (Sat.ob (decide_eq_true p4) (Sat.ob (aO hat.2.1.2.2.1) (Sat.new fun e3 hf=>Sat.ob ?_ (Sat.back rfl ⟨?_,?_⟩))))))
    ·simp only [D.le,D.gz,D.lt,D.gB,D.eq,D.gF,D.not,D.dL,D.and,D.dM,D.or,D.gG,D.inr,D.var,D.lit,D.bZ,D.beq,D.dN,D.dO,D.dP,D.add,D.sub,D.mul,D.min,D.max,D.cu,D.bL,D.bM];omega
    ·simp only [D.le,D.gz,D.lt,D.gB,D.eq,D.gF,D.not,D.dL,D.and,D.dM,D.or,D.gG,D.inr,D.var,D.lit,D.bZ,D.beq,D.dN,D.dO,D.dP,D.add,D.sub,D.mul,D.min,D.max,D.cu,D.bL,D.bM];simp [Env.join];omega
    ·have hf:=hf _ (List.mem_singleton.2 rfl)
     simp only [D.be,D.le,D.gz,D.lt,D.gB,D.eq,D.gF,D.not,D.dL,D.and,D.dM,D.or,D.gG,D.inr,D.var,D.lit,D.bZ,D.beq,D.dN,D.dO,D.dP,D.add,D.sub,D.mul,D.min,D.max,D.cu,D.bL,D.bM] at hf
     simp [Env.join] at hf
     refine ⟨⟨by simp [Sub.af,assoc,CV.I,CV.B,ah,ai,aa.I,aa.B,SC.I,SC.B,IE.den,BE.den,Env.join];omega,by simp [Sub.af,assoc,CV.I,CV.B,ah,ai,aa.I,aa.B,SC.I,SC.B,IE.den,BE.den,Env.join];omega⟩,⟨⟨o1,o2,o3,o4⟩,?_⟩,⟨?_,?_⟩⟩
     ·refine Eq.trans (b:=notes q 8) (by exact eU rfl fun i _=>by simp [bu,Sub.af,assoc,CV.I,CV.B,ah,ai,aa.I,aa.B,SC.I,SC.B,IE.den,BE.den,Env.join]) ?_
      show notes q 8=((notes q 0).take (q.iv 16+1).toNat).filter (fun n=>!p9 (kQ q 4) n)
      rw [htk,List.filter_append,n1]
      simp [hk]
     ·simp [aZ,Sub.af,assoc,CV.I,CV.B,ah,ai,aa.I,aa.B,SC.I,SC.B,IE.den,BE.den,Env.join]
      omega
     ·refine (jX (ρ:=q) (b:=12) (x:=bu q 3 (q.iv 16).toNat) p2 rfl (fun i hi=>?_) ?_).trans ?_
      ·have:¬(q.iv 13).toNat=i:=by simp only [Nat.reduceAdd] at hi;omega
       simp [bu,Sub.af,assoc,CV.I,CV.B,ah,ai,aa.I,aa.B,SC.I,SC.B,IE.den,BE.den,Env.join,this]
      ·simp [bu,Sub.af,assoc,CV.I,CV.B,ah,ai,aa.I,aa.B,SC.I,SC.B,IE.den,BE.den,Env.join]
      ·show notes q 12 ++ _=((notes q 0).take (q.iv 16+1).toNat).filter (p9 (kQ q 4))
       rw [htk,List.filter_append,n2]
       simp [hk]
    ·show (q.iv 1-(q.iv 16+1)).toNat<(q.iv 1-q.iv 16).toNat
     omega
   ·replace hne:¬wS q (q.iv 16).toNat (q.iv 17).toNat:=fun h=>by
     exact Bool.false_ne_true (hne.symm.trans (by simp only [D.le,D.gz,D.lt,D.gB,D.eq,D.gF,D.not,D.dL,D.and,D.dM,D.or,D.gG,D.inr,D.var,D.lit,D.bZ,D.beq,D.dN,D.dO,D.dP,D.add,D.sub,D.mul,D.min,D.max,D.cu,D.bL,D.bM];exact h))
    refine Sat.ob ?_ (Sat.back rfl ⟨⟨⟨?_,?_⟩,fun j hj=>?_⟩,?_⟩)
    ·simp only [D.le,D.gz,D.lt,D.gB,D.eq,D.gF,D.not,D.dL,D.and,D.dM,D.or,D.gG,D.inr,D.var,D.lit,D.bZ,D.beq,D.dN,D.dO,D.dP,D.add,D.sub,D.mul,D.min,D.max,D.cu,D.bL,D.bM];have:=hpre.2.2.2;omega
    ·show 0≤q.iv 17+1;omega
    ·show q.iv 17+1≤q.iv 5;omega
    ·replace hj:(j:Int)<q.iv 17+1:=hj
     show ¬wS q (q.iv 16).toNat j
     by_cases h:j=(q.iv 17).toNat
     ·subst h;exact hne
     ·exact j3 j (by omega)
    ·show (q.iv 5-(q.iv 17+1)).toNat<(q.iv 5-q.iv 17).toNat
     omega
  ·replace hI2:D8 (r.join 17 e2):=hI2
   replace hat:pG (r.join 17 e2):=hat
   replace yP:¬(r.join 17 e2).iv 17<(r.join 17 e2).iv 5:=of_decide_eq_false yP
   rw [show (r.iv 1-r.iv 16).toNat=((r.join 17 e2).iv 1-(r.join 17 e2).iv 16).toNat from rfl]
   clear hpre hlt l1 l2 i1 i2
   generalize r.join 17 e2=q at *
   have hpre:=hat.1
   obtain ⟨⟨i1,i2⟩,-⟩:=hat.2.1
   have hlt:=hat.2.2
   obtain ⟨l1,l2⟩:=hat.lens
   obtain ⟨⟨j1,j2⟩,j3⟩:=hI2
   have hk:p9 (kQ q 4) (bu q 3 (q.iv 16).toNat)=false:=by
    refine List.any_eq_false.2 fun x hx=>?_
    obtain ⟨j,hj,rfl⟩:=List.mem_map.1 hx
    have hj:=List.mem_range.1 hj
    simp only [Nat.reduceAdd] at hj
    exact ne_true_of_eq_false (decide_eq_false (j3 j (by omega)))
   obtain ⟨⟨o1,o2,o3,o4⟩,n1⟩:=hat.2.1.2.1
   obtain ⟨⟨p1,p2,p3,p4⟩,n2⟩:=hat.2.1.2.2
   have htk:=hat.take
   obtain ⟨_,a5,_,b5⟩:=hpre
   simp only [Nat.reduceAdd] at *
   refine Sat.ob ?_ (Sat.ob (decide_eq_true o2) (Sat.ob (decide_eq_true o3) (Sat.ob (decide_eq_true o4) (Sat.ob (aO hat.2.1.2.1.1) (Sat.new fun e3 hf=>Sat.ob ?_ (Sat.back rfl ⟨?_,?_⟩))))))
   ·simp only [D.le,D.gz,D.lt,D.gB,D.eq,D.gF,D.not,D.dL,D.and,D.dM,D.or,D.gG,D.inr,D.var,D.lit,D.bZ,D.beq,D.dN,D.dO,D.dP,D.add,D.sub,D.mul,D.min,D.max,D.cu,D.bL,D.bM];omega
   ·simp only [D.le,D.gz,D.lt,D.gB,D.eq,D.gF,D.not,D.dL,D.and,D.dM,D.or,D.gG,D.inr,D.var,D.lit,D.bZ,D.beq,D.dN,D.dO,D.dP,D.add,D.sub,D.mul,D.min,D.max,D.cu,D.bL,D.bM];simp [Env.join];omega
   ·have hf:=hf _ (List.mem_singleton.2 rfl)
    simp only [D.be,D.le,D.gz,D.lt,D.gB,D.eq,D.gF,D.not,D.dL,D.and,D.dM,D.or,D.gG,D.inr,D.var,D.lit,D.bZ,D.beq,D.dN,D.dO,D.dP,D.add,D.sub,D.mul,D.min,D.max,D.cu,D.bL,D.bM] at hf
    simp [Env.join] at hf
    refine ⟨⟨by simp [Sub.af,assoc,CV.I,CV.B,ah,ai,aa.I,aa.B,SC.I,SC.B,IE.den,BE.den,Env.join];omega,by simp [Sub.af,assoc,CV.I,CV.B,ah,ai,aa.I,aa.B,SC.I,SC.B,IE.den,BE.den,Env.join];omega⟩,⟨?_,?_⟩,⟨⟨p1,p2,p3,p4⟩,?_⟩⟩
    ·simp [aZ,Sub.af,assoc,CV.I,CV.B,ah,ai,aa.I,aa.B,SC.I,SC.B,IE.den,BE.den,Env.join]
     omega
    ·refine (jX (ρ:=q) (b:=8) (x:=bu q 3 (q.iv 16).toNat) o2 rfl (fun i hi=>?_) ?_).trans ?_
     ·have:¬(q.iv 9).toNat=i:=by simp only [Nat.reduceAdd] at hi;omega
      simp [bu,Sub.af,assoc,CV.I,CV.B,ah,ai,aa.I,aa.B,SC.I,SC.B,IE.den,BE.den,Env.join,this]
     ·simp [bu,Sub.af,assoc,CV.I,CV.B,ah,ai,aa.I,aa.B,SC.I,SC.B,IE.den,BE.den,Env.join]
     ·show notes q 8 ++ _=((notes q 0).take (q.iv 16+1).toNat).filter (fun n=>!p9 (kQ q 4) n)
      rw [htk,List.filter_append,n1]
      simp [hk]
    ·refine Eq.trans (b:=notes q 12) (by exact eU rfl fun i _=>by simp [bu,Sub.af,assoc,CV.I,CV.B,ah,ai,aa.I,aa.B,SC.I,SC.B,IE.den,BE.den,Env.join]) ?_
     show notes q 12=((notes q 0).take (q.iv 16+1).toNat).filter (p9 (kQ q 4))
     rw [htk,List.filter_append,n2]
     simp [hk]
   ·show (q.iv 1-(q.iv 16+1)).toNat<(q.iv 1-q.iv 16).toNat
    omega
 ·replace hpre:l6 (ρ.join 8 e):=hpre
  replace hI:sK (ρ.join 8 e):=hI
  replace hge:¬(ρ.join 8 e).iv 16<(ρ.join 8 e).iv 1:=of_decide_eq_false hge
  generalize ρ.join 8 e=q at *
  obtain ⟨⟨i1,i2⟩,⟨o,n1⟩,⟨p,n2⟩⟩:=hI
  rw [q9 _ _ (by simp only [Nat.zero_add];omega)] at n1 n2
  refine Sat.fin ⟨o,?_,p,?_⟩
  ·exact Eq.trans (b:=notes q 8) (by exact eU rfl fun i _=>by simp [bu,Sub.af,assoc,CV.I,CV.B,ah,ai,aa.I,aa.B,SC.I,SC.B,IE.den,BE.den,Env.join]) n1
  ·exact Eq.trans (b:=notes q 12) (by exact eU rfl fun i _=>by simp [bu,Sub.af,assoc,CV.I,CV.B,ah,ai,aa.I,aa.B,SC.I,SC.B,IE.den,BE.den,Env.join]) n2
theorem NT:bC Tryd.prog lg l6 Fq :=
 dJ fu (E:=NQ) (cs:=[]) rfl (fun k pre post h=>by cases h) di rfl NR (by kernel_rfl) (fun ρ _ p hp=>by cases hp) NS
noncomputable def RZ:Ex:={sched:=sched,loops:=[LF,Wu],fin:=mI}
def D9:Out :=
 .ob (.or (.not (.var 0)) (.aC (.var 1) (.lit 0))) <|
 .ob (.aA (.lit 0) (.var 1)) <|
 .loop 8 {lo:=8,az:=3,iv:=[(16,.lit 0),(14,.lit 0),(13,.lit 0),(10,.lit 0),(9,.lit 0)],bv:=[(12,.lit true),(8,.lit true)],nb:=[4,3]} <|
 .br (.bQ (.var 16) (.var 1))
 (.ob (.not (.var 0)) <|
  .ob (.aA (.lit 0) (.var 16)) <|
  .ob (.or (.not (.var 4)) (.aC (.var 5) (.lit 0))) <|
  .ob (.aA (.lit 0) (.var 5)) <|
  .loop 17 {lo:=17,az:=7,iv:=[(17,.lit 0)]} <|
  .br (.bQ (.var 17) (.var 5))
  (.ob (.not (.var 4)) <|
   .ob (.aA (.lit 0) (.var 17)) <|
   .br (.and (.and (.bQ (.lit 0) (.cell 7 (.var 17) (.lit 0) 0)) (.aA (.cell 3 (.var 16) (.lit 0) 5) (.cell 7 (.var 17) (.lit 0) 0))) (.aA (.cell 7 (.var 17) (.lit 0) 0) (.cell 3 (.var 16) (.lit 0) 6)))
   (.ob (.aA (.mul (.add (.var 13) (.lit 1)) (.lit 56)) (.lit 140737488355328)) <|
    .ob (.aA (.lit 0) (.var 13)) <|
    .ob (.aA (.var 13) (.var 14)) <|
    .ob (.aA (.var 14) (.lit 9223372036854775807)) <|
    .ob (.or (.not (.var 12)) (.aC (.var 13) (.lit 0))) <|
    .new 18 [.be (.and (.aA (.add (.var 13) (.lit 1)) (.var 18)) (.aA (.var 18) (.lit 9223372036854775807)))] <|
    .ob (.inr .i64 (.add (.var 16) (.lit 1))) <|
    .back 1 {lo:=8,az:=3,iv:=[(16,.add (.var 16) (.lit 1)),(14,yv 18),(13,.add (.var 13) (.lit 1)),(10,yv 10),(9,yv 9)],bv:=[(12,.lit false),(8,yw 8)],ct:=[(15,.up {r:=15,n1:=.add (.var 13) (.lit 1),s1:=7,ks:=yN} 0 [⟨0,(.var 13),(.lit 0),0,.int .i64 (.cell 3 (.var 16) (.lit 0) 0)⟩,⟨0,(.var 13),(.lit 0),1,.int .i64 (.cell 3 (.var 16) (.lit 0) 1)⟩,⟨0,(.var 13),(.lit 0),2,.int .i64 (.cell 3 (.var 16) (.lit 0) 2)⟩,⟨0,(.var 13),(.lit 0),3,.int .i64 (.cell 3 (.var 16) (.lit 0) 3)⟩,⟨0,(.var 13),(.lit 0),4,.bool (.cell 3 (.var 16) (.lit 0) 4)⟩,⟨0,(.var 13),(.lit 0),5,.int .i64 (.cell 3 (.var 16) (.lit 0) 5)⟩,⟨0,(.var 13),(.lit 0),6,.int .i64 (.cell 3 (.var 16) (.lit 0) 6)⟩] (.lit 0)),(11,yu 11 9 7 yN 0)],bk:=[(4,yc 8 7),(3,yc 3 7)]})
   (.ob (.inr .i64 (.add (.var 17) (.lit 1))) <|
    .back 0 {lo:=17,az:=7,iv:=[(17,.add (.var 17) (.lit 1))]}))
  (.ob (.aA (.mul (.add (.var 9) (.lit 1)) (.lit 56)) (.lit 140737488355328)) <|
   .ob (.aA (.lit 0) (.var 9)) <|
   .ob (.aA (.var 9) (.var 10)) <|
   .ob (.aA (.var 10) (.lit 9223372036854775807)) <|
   .ob (.or (.not (.var 8)) (.aC (.var 9) (.lit 0))) <|
   .new 18 [.be (.and (.aA (.add (.var 9) (.lit 1)) (.var 18)) (.aA (.var 18) (.lit 9223372036854775807)))] <|
   .ob (.inr .i64 (.add (.var 16) (.lit 1))) <|
   .back 1 {lo:=8,az:=3,iv:=[(16,.add (.var 16) (.lit 1)),(14,yv 14),(13,yv 13),(10,yv 18),(9,.add (.var 9) (.lit 1))],bv:=[(12,yw 12),(8,.lit false)],ct:=[(15,yu 15 13 7 yN 0),(11,.up {r:=11,n1:=.add (.var 9) (.lit 1),s1:=7,ks:=yN} 0 [⟨0,(.var 9),(.lit 0),0,.int .i64 (.cell 3 (.var 16) (.lit 0) 0)⟩,⟨0,(.var 9),(.lit 0),1,.int .i64 (.cell 3 (.var 16) (.lit 0) 1)⟩,⟨0,(.var 9),(.lit 0),2,.int .i64 (.cell 3 (.var 16) (.lit 0) 2)⟩,⟨0,(.var 9),(.lit 0),3,.int .i64 (.cell 3 (.var 16) (.lit 0) 3)⟩,⟨0,(.var 9),(.lit 0),4,.bool (.cell 3 (.var 16) (.lit 0) 4)⟩,⟨0,(.var 9),(.lit 0),5,.int .i64 (.cell 3 (.var 16) (.lit 0) 5)⟩,⟨0,(.var 9),(.lit 0),6,.int .i64 (.cell 3 (.var 16) (.lit 0) 6)⟩] (.lit 0))],bk:=[(4,yc 4 7),(3,yc 8 7)]}))
 (.fin {lo:=8,az:=2,iv:=[(14,yv 14),(13,yv 13),(10,yv 10),(9,yv 9)],bv:=[(12,yw 12),(8,yw 8)],ct:=[(15,yu 15 13 7 yN 0),(11,yu 11 9 7 yN 0)],bk:=[(3,yc 4 7),(2,yc 3 7)]})
theorem Qj:exec tab RZ 4000 [] (fV mI.f 8 [] [] mI.hp mI.args)=D9:=by kernel_rfl
def zG (ρ:Env) (i j:Nat):Prop:=(0<ρ.ic 7 j 0 0∧ρ.ic 3 i 0 5≤ρ.ic 7 j 0 0)∧ρ.ic 7 j 0 0≤ρ.ic 3 i 0 6
def nS (ρ:Env):Prop:=aZ ρ 0∧ρ.iv 1≤1000000∧aZ ρ 4∧ρ.iv 5≤1000000
def IB (ρ:Env):Prop:=aZ ρ 8∧notes ρ 8=(notes ρ 0).filter (fun n=>!mJ (kQ ρ 4) n)∧aZ ρ 12∧notes ρ 12=(notes ρ 0).filter (mJ (kQ ρ 4))
def vC (ρ:Env):Prop:=(0≤ρ.iv 16∧ρ.iv 16≤ρ.iv 1)∧(aZ ρ 8∧notes ρ 8=((notes ρ 0).take (ρ.iv 16).toNat).filter (fun n=>!mJ (kQ ρ 4) n))∧aZ ρ 12∧notes ρ 12=((notes ρ 0).take (ρ.iv 16).toNat).filter (mJ (kQ ρ 4))
def IC (ρ:Env):Prop:=(0≤ρ.iv 17∧ρ.iv 17≤ρ.iv 5)∧∀j:Nat,(j:Int)<ρ.iv 17→¬zG ρ (ρ.iv 16).toNat j
def sM (ρ:Env):Prop:=nS ρ∧vC ρ∧ρ.iv 16<ρ.iv 1
theorem sM.lens {ρ:Env} (h:sM ρ):ρ.iv 9≤ρ.iv 16∧ρ.iv 13≤ρ.iv 16:=by
 obtain ⟨⟨a1,a5,b1,b5⟩,⟨⟨i1,i2⟩,⟨⟨o1,o2,o3,o4⟩,n1⟩,⟨⟨p1,p2,p3,p4⟩,n2⟩⟩,hlt⟩:=h
 have l1:(notes ρ 8).length≤(ρ.iv 16).toNat:=by
  rw [n1];refine Nat.le_trans (List.length_filter_le _ _) ?_;rw [List.length_take];omega
 have l2:(notes ρ 12).length≤(ρ.iv 16).toNat:=by
  rw [n2];refine Nat.le_trans (List.length_filter_le _ _) ?_;rw [List.length_take];omega
 rw [kP] at l1 l2
 simp only [Nat.reduceAdd] at *
 omega
theorem sM.take {ρ:Env} (h:sM ρ):(notes ρ 0).take (ρ.iv 16+1).toNat=(notes ρ 0).take (ρ.iv 16).toNat ++ [bu ρ 3 (ρ.iv 16).toNat]:=by
 obtain ⟨_,⟨⟨i1,i2⟩,_⟩,hlt⟩:=h
 rw [show (ρ.iv 16+1).toNat=(ρ.iv 16).toNat+1 by omega]
 exact qZ (b:=0) (by simp only [Nat.zero_add];omega)
theorem Qk (ρ:Env) (hpre:nS ρ.num):Sat IB [] [] ρ D9:=by
 replace hpre:nS ρ:=hpre
 unfold D9
 refine Sat.ob (aO hpre.1) (Sat.ob (decide_eq_true hpre.1.2.1) (Sat.loop vC (fun r=>(r.iv 1-r.iv 16).toNat) ?_ fun e hI=>Sat.br (fun hlt=>?_) (fun hge=>?_)))
 ·have h2:=hpre.1.2.1
  simp [vC,aZ,notes,Sub.af,assoc,CV.I,CV.B,ah,ai,aa.I,aa.B,SC.I,SC.B,IE.den,BE.den,h2]
 ·replace hpre:nS (ρ.join 8 e):=hpre
  replace hI:vC (ρ.join 8 e):=hI
  replace hlt:(ρ.join 8 e).iv 16<(ρ.join 8 e).iv 1:=of_decide_eq_true hlt
  have hat:sM (ρ.join 8 e):=⟨hpre,hI,hlt⟩
  clear hpre hI hlt
  have hm:((ρ.join 8 e).num.iv 1-(ρ.join 8 e).num.iv 16).toNat=((ρ.join 8 e).iv 1-(ρ.join 8 e).iv 16).toNat:=rfl
  rw [hm]
  clear hm
  generalize ρ.join 8 e=r at *
  have hpre:=hat.1
  obtain ⟨⟨i1,i2⟩,-⟩:=hat.2.1
  have hlt:=hat.2.2
  obtain ⟨l1,l2⟩:=hat.lens
  refine Sat.ob ?_ (Sat.ob (decide_eq_true i1) (Sat.ob (aO hpre.2.2.1) (Sat.ob (decide_eq_true hpre.2.2.1.2.1) (Sat.loop IC (fun r=>(r.iv 5-r.iv 17).toNat) ?_ fun e2 hI2=>Sat.br (fun hlt2=>?_) (fun yP=>?_)))))
  ·simp only [D.le,D.gz,D.lt,D.gB,D.eq,D.gF,D.not,D.dL,D.and,D.dM,D.or,D.gG,D.inr,D.var,D.lit,D.bZ,D.beq,D.dN,D.dO,D.dP,D.add,D.sub,D.mul,D.min,D.max,D.cu,D.bL,D.bM]
   cases h:r.bv 0
   ·rfl
   ·have:=hpre.1.1 h
    simp only [Nat.zero_add] at this
    omega
  ·refine ⟨⟨Int.le_refl 0,hpre.2.2.1.2.1⟩,fun j hj=>?_⟩
   have:(j:Int)<0:=hj
   omega
  ·replace hI2:IC (r.join 17 e2):=hI2
   replace hat:sM (r.join 17 e2):=hat
   replace hlt2:(r.join 17 e2).iv 17<(r.join 17 e2).iv 5:=of_decide_eq_true hlt2
   rw [show (r.iv 1-r.iv 16).toNat=((r.join 17 e2).iv 1-(r.join 17 e2).iv 16).toNat from rfl]
   rw [show ((r.join 17 e2).num.iv 5-(r.join 17 e2).num.iv 17).toNat=((r.join 17 e2).iv 5-(r.join 17 e2).iv 17).toNat from rfl]
   clear hpre hlt l1 l2 i1 i2
   generalize r.join 17 e2=q at *
   have hpre:=hat.1
   obtain ⟨⟨i1,i2⟩,-⟩:=hat.2.1
   have hlt:=hat.2.2
   obtain ⟨l1,l2⟩:=hat.lens
   obtain ⟨⟨j1,j2⟩,j3⟩:=hI2
   refine Sat.ob ?_ (Sat.ob (decide_eq_true j1) (Sat.br (fun heq=>?_) (fun hne=>?_)))
   ·simp only [D.le,D.gz,D.lt,D.gB,D.eq,D.gF,D.not,D.dL,D.and,D.dM,D.or,D.gG,D.inr,D.var,D.lit,D.bZ,D.beq,D.dN,D.dO,D.dP,D.add,D.sub,D.mul,D.min,D.max,D.cu,D.bL,D.bM]
    cases h:q.bv 4
    ·rfl
    ·have:=hpre.2.2.1.1 h
     simp only [Nat.reduceAdd] at this
     omega
   ·replace heq:zG q (q.iv 16).toNat (q.iv 17).toNat:=by simp only [D.le,D.gz,D.lt,D.gB,D.eq,D.gF,D.not,D.dL,D.and,D.dM,D.or,D.gG,D.inr,D.var,D.lit,D.bZ,D.beq,D.dN,D.dO,D.dP,D.add,D.sub,D.mul,D.min,D.max,D.cu,D.bL,D.bM] at heq;exact heq
    have hk:mJ (kQ q 4) (bu q 3 (q.iv 16).toNat)=true:=by
     refine List.any_eq_true.2 ⟨_,List.mem_map.2 ⟨(q.iv 17).toNat,List.mem_range.2 (by simp only [Nat.reduceAdd];omega),rfl⟩,decide_eq_true heq⟩
    obtain ⟨⟨o1,o2,o3,o4⟩,n1⟩:=hat.2.1.2.1
    obtain ⟨⟨p1,p2,p3,p4⟩,n2⟩:=hat.2.1.2.2
    have htk:=hat.take
    obtain ⟨_,a5,_,b5⟩:=hpre
    simp only [Nat.reduceAdd] at *
    refine Sat.ob ?_ (Sat.ob (decide_eq_true p2) (Sat.ob (decide_eq_true p3) (Sat.ob (decide_eq_true p4) (Sat.ob (aO hat.2.1.2.2.1) (Sat.new fun e3 hf=>Sat.ob ?_ (Sat.back rfl ⟨?_,?_⟩))))))
    ·simp only [D.le,D.gz,D.lt,D.gB,D.eq,D.gF,D.not,D.dL,D.and,D.dM,D.or,D.gG,D.inr,D.var,D.lit,D.bZ,D.beq,D.dN,D.dO,D.dP,D.add,D.sub,D.mul,D.min,D.max,D.cu,D.bL,D.bM];omega
    ·simp only [D.le,D.gz,D.lt,D.gB,D.eq,D.gF,D.not,D.dL,D.and,D.dM,D.or,D.gG,D.inr,D.var,D.lit,D.bZ,D.beq,D.dN,D.dO,D.dP,D.add,D.sub,D.mul,D.min,D.max,D.cu,D.bL,D.bM];simp [Env.join];omega
    ·have hf:=hf _ (List.mem_singleton.2 rfl)
     simp only [D.be,D.le,D.gz,D.lt,D.gB,D.eq,D.gF,D.not,D.dL,D.and,D.dM,D.or,D.gG,D.inr,D.var,D.lit,D.bZ,D.beq,D.dN,D.dO,D.dP,D.add,D.sub,D.mul,D.min,D.max,D.cu,D.bL,D.bM] at hf
     simp [Env.join] at hf
     refine ⟨⟨by simp [Sub.af,assoc,CV.I,CV.B,ah,ai,aa.I,aa.B,SC.I,SC.B,IE.den,BE.den,Env.join];omega,by simp [Sub.af,assoc,CV.I,CV.B,ah,ai,aa.I,aa.B,SC.I,SC.B,IE.den,BE.den,Env.join];omega⟩,⟨⟨o1,o2,o3,o4⟩,?_⟩,⟨?_,?_⟩⟩
     ·refine Eq.trans (b:=notes q 8) (by exact eU rfl fun i _=>by simp [bu,Sub.af,assoc,CV.I,CV.B,ah,ai,aa.I,aa.B,SC.I,SC.B,IE.den,BE.den,Env.join]) ?_
      show notes q 8=((notes q 0).take (q.iv 16+1).toNat).filter (fun n=>!mJ (kQ q 4) n)
      rw [htk,List.filter_append,n1]
      simp [hk]
     ·simp [aZ,Sub.af,assoc,CV.I,CV.B,ah,ai,aa.I,aa.B,SC.I,SC.B,IE.den,BE.den,Env.join]
      omega
     ·refine (jX (ρ:=q) (b:=12) (x:=bu q 3 (q.iv 16).toNat) p2 rfl (fun i hi=>?_) ?_).trans ?_
      ·have:¬(q.iv 13).toNat=i:=by simp only [Nat.reduceAdd] at hi;omega
       simp [bu,Sub.af,assoc,CV.I,CV.B,ah,ai,aa.I,aa.B,SC.I,SC.B,IE.den,BE.den,Env.join,this]
      ·simp [bu,Sub.af,assoc,CV.I,CV.B,ah,ai,aa.I,aa.B,SC.I,SC.B,IE.den,BE.den,Env.join]
      ·show notes q 12 ++ _=((notes q 0).take (q.iv 16+1).toNat).filter (mJ (kQ q 4))
       rw [htk,List.filter_append,n2]
       simp [hk]
    ·show (q.iv 1-(q.iv 16+1)).toNat<(q.iv 1-q.iv 16).toNat
     omega
   ·replace hne:¬zG q (q.iv 16).toNat (q.iv 17).toNat:=fun h=>by
     exact Bool.false_ne_true (hne.symm.trans (by simp only [D.le,D.gz,D.lt,D.gB,D.eq,D.gF,D.not,D.dL,D.and,D.dM,D.or,D.gG,D.inr,D.var,D.lit,D.bZ,D.beq,D.dN,D.dO,D.dP,D.add,D.sub,D.mul,D.min,D.max,D.cu,D.bL,D.bM];exact h))
    refine Sat.ob ?_ (Sat.back rfl ⟨⟨⟨?_,?_⟩,fun j hj=>?_⟩,?_⟩)
    ·simp only [D.le,D.gz,D.lt,D.gB,D.eq,D.gF,D.not,D.dL,D.and,D.dM,D.or,D.gG,D.inr,D.var,D.lit,D.bZ,D.beq,D.dN,D.dO,D.dP,D.add,D.sub,D.mul,D.min,D.max,D.cu,D.bL,D.bM];have:=hpre.2.2.2;omega
    ·show 0≤q.iv 17+1;omega
    ·show q.iv 17+1≤q.iv 5;omega
    ·replace hj:(j:Int)<q.iv 17+1:=hj
     show ¬zG q (q.iv 16).toNat j
     by_cases h:j=(q.iv 17).toNat
     ·subst h;exact hne
     ·exact j3 j (by omega)
    ·show (q.iv 5-(q.iv 17+1)).toNat<(q.iv 5-q.iv 17).toNat
     omega
  ·replace hI2:IC (r.join 17 e2):=hI2
   replace hat:sM (r.join 17 e2):=hat
   replace yP:¬(r.join 17 e2).iv 17<(r.join 17 e2).iv 5:=of_decide_eq_false yP
   rw [show (r.iv 1-r.iv 16).toNat=((r.join 17 e2).iv 1-(r.join 17 e2).iv 16).toNat from rfl]
   clear hpre hlt l1 l2 i1 i2
   generalize r.join 17 e2=q at *
   have hpre:=hat.1
   obtain ⟨⟨i1,i2⟩,-⟩:=hat.2.1
   have hlt:=hat.2.2
   obtain ⟨l1,l2⟩:=hat.lens
   obtain ⟨⟨j1,j2⟩,j3⟩:=hI2
   have hk:mJ (kQ q 4) (bu q 3 (q.iv 16).toNat)=false:=by
    refine List.any_eq_false.2 fun x hx=>?_
    obtain ⟨j,hj,rfl⟩:=List.mem_map.1 hx
    have hj:=List.mem_range.1 hj
    simp only [Nat.reduceAdd] at hj
    exact ne_true_of_eq_false (decide_eq_false (j3 j (by omega)))
   obtain ⟨⟨o1,o2,o3,o4⟩,n1⟩:=hat.2.1.2.1
   obtain ⟨⟨p1,p2,p3,p4⟩,n2⟩:=hat.2.1.2.2
   have htk:=hat.take
   obtain ⟨_,a5,_,b5⟩:=hpre
   simp only [Nat.reduceAdd] at *
   refine Sat.ob ?_ (Sat.ob (decide_eq_true o2) (Sat.ob (decide_eq_true o3) (Sat.ob (decide_eq_true o4) (Sat.ob (aO hat.2.1.2.1.1) (Sat.new fun e3 hf=>Sat.ob ?_ (Sat.back rfl ⟨?_,?_⟩))))))
   ·simp only [D.le,D.gz,D.lt,D.gB,D.eq,D.gF,D.not,D.dL,D.and,D.dM,D.or,D.gG,D.inr,D.var,D.lit,D.bZ,D.beq,D.dN,D.dO,D.dP,D.add,D.sub,D.mul,D.min,D.max,D.cu,D.bL,D.bM];omega
   ·simp only [D.le,D.gz,D.lt,D.gB,D.eq,D.gF,D.not,D.dL,D.and,D.dM,D.or,D.gG,D.inr,D.var,D.lit,D.bZ,D.beq,D.dN,D.dO,D.dP,D.add,D.sub,D.mul,D.min,D.max,D.cu,D.bL,D.bM];simp [Env.join];omega
   ·have hf:=hf _ (List.mem_singleton.2 rfl)
    simp only [D.be,D.le,D.gz,D.lt,D.gB,D.eq,D.gF,D.not,D.dL,D.and,D.dM,D.or,D.gG,D.inr,D.var,D.lit,D.bZ,D.beq,D.dN,D.dO,D.dP,D.add,D.sub,D.mul,D.min,D.max,D.cu,D.bL,D.bM] at hf
    simp [Env.join] at hf
    refine ⟨⟨by simp [Sub.af,assoc,CV.I,CV.B,ah,ai,aa.I,aa.B,SC.I,SC.B,IE.den,BE.den,Env.join];omega,by simp [Sub.af,assoc,CV.I,CV.B,ah,ai,aa.I,aa.B,SC.I,SC.B,IE.den,BE.den,Env.join];omega⟩,⟨?_,?_⟩,⟨⟨p1,p2,p3,p4⟩,?_⟩⟩
    ·simp [aZ,Sub.af,assoc,CV.I,CV.B,ah,ai,aa.I,aa.B,SC.I,SC.B,IE.den,BE.den,Env.join]
     omega
    ·refine (jX (ρ:=q) (b:=8) (x:=bu q 3 (q.iv 16).toNat) o2 rfl (fun i hi=>?_) ?_).trans ?_
     ·have:¬(q.iv 9).toNat=i:=by simp only [Nat.reduceAdd] at hi;omega
      simp [bu,Sub.af,assoc,CV.I,CV.B,ah,ai,aa.I,aa.B,SC.I,SC.B,IE.den,BE.den,Env.join,this]
     ·simp [bu,Sub.af,assoc,CV.I,CV.B,ah,ai,aa.I,aa.B,SC.I,SC.B,IE.den,BE.den,Env.join]
     ·show notes q 8 ++ _=((notes q 0).take (q.iv 16+1).toNat).filter (fun n=>!mJ (kQ q 4) n)
      rw [htk,List.filter_append,n1]
      simp [hk]
    ·refine Eq.trans (b:=notes q 12) (by exact eU rfl fun i _=>by simp [bu,Sub.af,assoc,CV.I,CV.B,ah,ai,aa.I,aa.B,SC.I,SC.B,IE.den,BE.den,Env.join]) ?_
     show notes q 12=((notes q 0).take (q.iv 16+1).toNat).filter (mJ (kQ q 4))
     rw [htk,List.filter_append,n2]
     simp [hk]
   ·show (q.iv 1-(q.iv 16+1)).toNat<(q.iv 1-q.iv 16).toNat
    omega
 ·replace hpre:nS (ρ.join 8 e):=hpre
  replace hI:vC (ρ.join 8 e):=hI
  replace hge:¬(ρ.join 8 e).iv 16<(ρ.join 8 e).iv 1:=of_decide_eq_false hge
  generalize ρ.join 8 e=q at *
  obtain ⟨⟨i1,i2⟩,⟨o,n1⟩,⟨p,n2⟩⟩:=hI
  rw [q9 _ _ (by simp only [Nat.zero_add];omega)] at n1 n2
  refine Sat.fin ⟨o,?_,p,?_⟩
  ·exact Eq.trans (b:=notes q 8) (by exact eU rfl fun i _=>by simp [bu,Sub.af,assoc,CV.I,CV.B,ah,ai,aa.I,aa.B,SC.I,SC.B,IE.den,BE.den,Env.join]) n1
  ·exact Eq.trans (b:=notes q 12) (by exact eU rfl fun i _=>by simp [bu,Sub.af,assoc,CV.I,CV.B,ah,ai,aa.I,aa.B,SC.I,SC.B,IE.den,BE.den,Env.join]) n2
theorem Ql:bC Tryd.prog mI nS IB :=
 dJ fu (E:=RZ) (cs:=[]) rfl (fun k pre post h=>by cases h) di rfl Qj (by kernel_rfl) (fun ρ _ p hp=>by cases hp) Qk
noncomputable def NU:Ex:={sched:=sched,loops:=[LF,Tm],fin:=lh}
def Bj:Out :=
 .ob (.or (.not (.var 0)) (.aC (.var 1) (.lit 0))) <|
 .ob (.aA (.lit 0) (.var 1)) <|
 .loop 8 {lo:=8,az:=3,iv:=[(16,.lit 0),(14,.lit 0),(13,.lit 0),(10,.lit 0),(9,.lit 0)],bv:=[(12,.lit true),(8,.lit true)],nb:=[4,3]} <|
 .br (.bQ (.var 16) (.var 1))
 (.ob (.not (.var 0)) <|
  .ob (.aA (.lit 0) (.var 16)) <|
  .ob (.or (.not (.var 4)) (.aC (.var 5) (.lit 0))) <|
  .ob (.aA (.lit 0) (.var 5)) <|
  .loop 17 {lo:=17,az:=7,iv:=[(17,.lit 0)]} <|
  .br (.bQ (.var 17) (.var 5))
  (.ob (.not (.var 4)) <|
   .ob (.aA (.lit 0) (.var 17)) <|
   .br (.and (.and (.cell 7 (.var 17) (.lit 0) 0) (.aA (.cell 7 (.var 17) (.lit 0) 1) (.cell 3 (.var 16) (.lit 0) 6))) (.aA (.cell 3 (.var 16) (.lit 0) 5) (.cell 7 (.var 17) (.lit 0) 2)))
   (.ob (.aA (.mul (.add (.var 13) (.lit 1)) (.lit 56)) (.lit 140737488355328)) <|
    .ob (.aA (.lit 0) (.var 13)) <|
    .ob (.aA (.var 13) (.var 14)) <|
    .ob (.aA (.var 14) (.lit 9223372036854775807)) <|
    .ob (.or (.not (.var 12)) (.aC (.var 13) (.lit 0))) <|
    .new 18 [.be (.and (.aA (.add (.var 13) (.lit 1)) (.var 18)) (.aA (.var 18) (.lit 9223372036854775807)))] <|
    .ob (.inr .i64 (.add (.var 16) (.lit 1))) <|
    .back 1 {lo:=8,az:=3,iv:=[(16,.add (.var 16) (.lit 1)),(14,yv 18),(13,.add (.var 13) (.lit 1)),(10,yv 10),(9,yv 9)],bv:=[(12,.lit false),(8,yw 8)],ct:=[(15,.up {r:=15,n1:=.add (.var 13) (.lit 1),s1:=7,ks:=yN} 0 [⟨0,(.var 13),(.lit 0),0,.int .i64 (.cell 3 (.var 16) (.lit 0) 0)⟩,⟨0,(.var 13),(.lit 0),1,.int .i64 (.cell 3 (.var 16) (.lit 0) 1)⟩,⟨0,(.var 13),(.lit 0),2,.int .i64 (.cell 3 (.var 16) (.lit 0) 2)⟩,⟨0,(.var 13),(.lit 0),3,.int .i64 (.cell 3 (.var 16) (.lit 0) 3)⟩,⟨0,(.var 13),(.lit 0),4,.bool (.cell 3 (.var 16) (.lit 0) 4)⟩,⟨0,(.var 13),(.lit 0),5,.int .i64 (.cell 3 (.var 16) (.lit 0) 5)⟩,⟨0,(.var 13),(.lit 0),6,.int .i64 (.cell 3 (.var 16) (.lit 0) 6)⟩] (.lit 0)),(11,yu 11 9 7 yN 0)],bk:=[(4,yc 9 7),(3,yc 3 7)]})
   (.ob (.inr .i64 (.add (.var 17) (.lit 1))) <|
    .back 0 {lo:=17,az:=7,iv:=[(17,.add (.var 17) (.lit 1))]}))
  (.ob (.aA (.mul (.add (.var 9) (.lit 1)) (.lit 56)) (.lit 140737488355328)) <|
   .ob (.aA (.lit 0) (.var 9)) <|
   .ob (.aA (.var 9) (.var 10)) <|
   .ob (.aA (.var 10) (.lit 9223372036854775807)) <|
   .ob (.or (.not (.var 8)) (.aC (.var 9) (.lit 0))) <|
   .new 18 [.be (.and (.aA (.add (.var 9) (.lit 1)) (.var 18)) (.aA (.var 18) (.lit 9223372036854775807)))] <|
   .ob (.inr .i64 (.add (.var 16) (.lit 1))) <|
   .back 1 {lo:=8,az:=3,iv:=[(16,.add (.var 16) (.lit 1)),(14,yv 14),(13,yv 13),(10,yv 18),(9,.add (.var 9) (.lit 1))],bv:=[(12,yw 12),(8,.lit false)],ct:=[(15,yu 15 13 7 yN 0),(11,.up {r:=11,n1:=.add (.var 9) (.lit 1),s1:=7,ks:=yN} 0 [⟨0,(.var 9),(.lit 0),0,.int .i64 (.cell 3 (.var 16) (.lit 0) 0)⟩,⟨0,(.var 9),(.lit 0),1,.int .i64 (.cell 3 (.var 16) (.lit 0) 1)⟩,⟨0,(.var 9),(.lit 0),2,.int .i64 (.cell 3 (.var 16) (.lit 0) 2)⟩,⟨0,(.var 9),(.lit 0),3,.int .i64 (.cell 3 (.var 16) (.lit 0) 3)⟩,⟨0,(.var 9),(.lit 0),4,.bool (.cell 3 (.var 16) (.lit 0) 4)⟩,⟨0,(.var 9),(.lit 0),5,.int .i64 (.cell 3 (.var 16) (.lit 0) 5)⟩,⟨0,(.var 9),(.lit 0),6,.int .i64 (.cell 3 (.var 16) (.lit 0) 6)⟩] (.lit 0))],bk:=[(4,yc 4 7),(3,yc 8 7)]}))
 (.fin {lo:=8,az:=2,iv:=[(14,yv 14),(13,yv 13),(10,yv 10),(9,yv 9)],bv:=[(12,yw 12),(8,yw 8)],ct:=[(15,yu 15 13 7 yN 0),(11,yu 11 9 7 yN 0)],bk:=[(3,yc 4 7),(2,yc 3 7)]})
theorem NV:exec tab NU 4000 [] (fV lh.f 8 [] [] lh.hp lh.args)=Bj:=by kernel_rfl
def wT (ρ:Env) (i j:Nat):Prop:=(ρ.bc 7 j 0 0=true∧ρ.ic 7 j 0 1≤ρ.ic 3 i 0 6)∧ρ.ic 3 i 0 5≤ρ.ic 7 j 0 2
def l7 (ρ:Env):Prop:=aZ ρ 0∧ρ.iv 1≤1000000∧aZ ρ 4∧ρ.iv 5≤1000000
def Fs (ρ:Env):Prop:=aZ ρ 8∧notes ρ 8=(notes ρ 0).filter (fun n=>!qd (uH ρ 4) n)∧aZ ρ 12∧notes ρ 12=(notes ρ 0).filter (qd (uH ρ 4))
def sN (ρ:Env):Prop:=(0≤ρ.iv 16∧ρ.iv 16≤ρ.iv 1)∧(aZ ρ 8∧notes ρ 8=((notes ρ 0).take (ρ.iv 16).toNat).filter (fun n=>!qd (uH ρ 4) n))∧aZ ρ 12∧notes ρ 12=((notes ρ 0).take (ρ.iv 16).toNat).filter (qd (uH ρ 4))
def Ea (ρ:Env):Prop:=(0≤ρ.iv 17∧ρ.iv 17≤ρ.iv 5)∧∀j:Nat,(j:Int)<ρ.iv 17→¬wT ρ (ρ.iv 16).toNat j
def pI (ρ:Env):Prop:=l7 ρ∧sN ρ∧ρ.iv 16<ρ.iv 1
theorem pI.lens {ρ:Env} (h:pI ρ):ρ.iv 9≤ρ.iv 16∧ρ.iv 13≤ρ.iv 16:=by
 obtain ⟨⟨a1,a5,b1,b5⟩,⟨⟨i1,i2⟩,⟨⟨o1,o2,o3,o4⟩,n1⟩,⟨⟨p1,p2,p3,p4⟩,n2⟩⟩,hlt⟩:=h
 have l1:(notes ρ 8).length≤(ρ.iv 16).toNat:=by
  rw [n1];refine Nat.le_trans (List.length_filter_le _ _) ?_;rw [List.length_take];omega
 have l2:(notes ρ 12).length≤(ρ.iv 16).toNat:=by
  rw [n2];refine Nat.le_trans (List.length_filter_le _ _) ?_;rw [List.length_take];omega
 rw [kP] at l1 l2
 simp only [Nat.reduceAdd] at *
 omega
theorem pI.take {ρ:Env} (h:pI ρ):(notes ρ 0).take (ρ.iv 16+1).toNat=(notes ρ 0).take (ρ.iv 16).toNat ++ [bu ρ 3 (ρ.iv 16).toNat]:=by
 obtain ⟨_,⟨⟨i1,i2⟩,_⟩,hlt⟩:=h
 rw [show (ρ.iv 16+1).toNat=(ρ.iv 16).toNat+1 by omega]
 exact qZ (b:=0) (by simp only [Nat.zero_add];omega)
theorem NW (ρ:Env) (hpre:l7 ρ.num):Sat Fs [] [] ρ Bj:=by
 replace hpre:l7 ρ:=hpre
 unfold Bj
 refine Sat.ob (aO hpre.1) (Sat.ob (decide_eq_true hpre.1.2.1) (Sat.loop sN (fun r=>(r.iv 1-r.iv 16).toNat) ?_ fun e hI=>Sat.br (fun hlt=>?_) (fun hge=>?_)))
 ·have h2:=hpre.1.2.1
  simp [sN,aZ,notes,Sub.af,assoc,CV.I,CV.B,ah,ai,aa.I,aa.B,SC.I,SC.B,IE.den,BE.den,h2]
 ·replace hpre:l7 (ρ.join 8 e):=hpre
  replace hI:sN (ρ.join 8 e):=hI
  replace hlt:(ρ.join 8 e).iv 16<(ρ.join 8 e).iv 1:=of_decide_eq_true hlt
  have hat:pI (ρ.join 8 e):=⟨hpre,hI,hlt⟩
  clear hpre hI hlt
  have hm:((ρ.join 8 e).num.iv 1-(ρ.join 8 e).num.iv 16).toNat=((ρ.join 8 e).iv 1-(ρ.join 8 e).iv 16).toNat:=rfl
  rw [hm]
  clear hm
  generalize ρ.join 8 e=r at *
  have hpre:=hat.1
  obtain ⟨⟨i1,i2⟩,-⟩:=hat.2.1
  have hlt:=hat.2.2
  obtain ⟨l1,l2⟩:=hat.lens
  refine Sat.ob ?_ (Sat.ob (decide_eq_true i1) (Sat.ob (aO hpre.2.2.1) (Sat.ob (decide_eq_true hpre.2.2.1.2.1) (Sat.loop Ea (fun r=>(r.iv 5-r.iv 17).toNat) ?_ fun e2 hI2=>Sat.br (fun hlt2=>?_) (fun yP=>?_)))))
  ·simp only [D.le,D.gz,D.lt,D.gB,D.eq,D.gF,D.not,D.dL,D.and,D.dM,D.or,D.gG,D.inr,D.var,D.lit,D.bZ,D.beq,D.dN,D.dO,D.dP,D.add,D.sub,D.mul,D.min,D.max,D.cu,D.bL,D.bM]
   cases h:r.bv 0
   ·rfl
   ·have:=hpre.1.1 h
    simp only [Nat.zero_add] at this
    omega
  ·refine ⟨⟨Int.le_refl 0,hpre.2.2.1.2.1⟩,fun j hj=>?_⟩
   have:(j:Int)<0:=hj
   omega
  ·replace hI2:Ea (r.join 17 e2):=hI2
   replace hat:pI (r.join 17 e2):=hat
   replace hlt2:(r.join 17 e2).iv 17<(r.join 17 e2).iv 5:=of_decide_eq_true hlt2
   rw [show (r.iv 1-r.iv 16).toNat=((r.join 17 e2).iv 1-(r.join 17 e2).iv 16).toNat from rfl]
   rw [show ((r.join 17 e2).num.iv 5-(r.join 17 e2).num.iv 17).toNat=((r.join 17 e2).iv 5-(r.join 17 e2).iv 17).toNat from rfl]
   clear hpre hlt l1 l2 i1 i2
   generalize r.join 17 e2=q at *
   have hpre:=hat.1
   obtain ⟨⟨i1,i2⟩,-⟩:=hat.2.1
   have hlt:=hat.2.2
   obtain ⟨l1,l2⟩:=hat.lens
   obtain ⟨⟨j1,j2⟩,j3⟩:=hI2
   refine Sat.ob ?_ (Sat.ob (decide_eq_true j1) (Sat.br (fun heq=>?_) (fun hne=>?_)))
   ·simp only [D.le,D.gz,D.lt,D.gB,D.eq,D.gF,D.not,D.dL,D.and,D.dM,D.or,D.gG,D.inr,D.var,D.lit,D.bZ,D.beq,D.dN,D.dO,D.dP,D.add,D.sub,D.mul,D.min,D.max,D.cu,D.bL,D.bM]
    cases h:q.bv 4
    ·rfl
    ·have:=hpre.2.2.1.1 h
     simp only [Nat.reduceAdd] at this
     omega
   ·replace heq:wT q (q.iv 16).toNat (q.iv 17).toNat:=by simp only [D.le,D.gz,D.lt,D.gB,D.eq,D.gF,D.not,D.dL,D.and,D.dM,D.or,D.gG,D.inr,D.var,D.lit,D.bZ,D.beq,D.dN,D.dO,D.dP,D.add,D.sub,D.mul,D.min,D.max,D.cu,D.bL,D.bM] at heq;exact heq
    have hk:qd (uH q 4) (bu q 3 (q.iv 16).toNat)=true:=by
     refine List.any_eq_true.2 ⟨_,List.mem_map.2 ⟨(q.iv 17).toNat,List.mem_range.2 (by simp only [Nat.reduceAdd];omega),rfl⟩,decide_eq_true heq⟩
    obtain ⟨⟨o1,o2,o3,o4⟩,n1⟩:=hat.2.1.2.1
    obtain ⟨⟨p1,p2,p3,p4⟩,n2⟩:=hat.2.1.2.2
    have htk:=hat.take
    obtain ⟨_,a5,_,b5⟩:=hpre
    simp only [Nat.reduceAdd] at *
    refine Sat.ob ?_ (Sat.ob (decide_eq_true p2) (Sat.ob (decide_eq_true p3) (Sat.ob (decide_eq_true p4) (Sat.ob (aO hat.2.1.2.2.1) (Sat.new fun e3 hf=>Sat.ob ?_ (Sat.back rfl ⟨?_,?_⟩))))))
    ·simp only [D.le,D.gz,D.lt,D.gB,D.eq,D.gF,D.not,D.dL,D.and,D.dM,D.or,D.gG,D.inr,D.var,D.lit,D.bZ,D.beq,D.dN,D.dO,D.dP,D.add,D.sub,D.mul,D.min,D.max,D.cu,D.bL,D.bM];omega
    ·simp only [D.le,D.gz,D.lt,D.gB,D.eq,D.gF,D.not,D.dL,D.and,D.dM,D.or,D.gG,D.inr,D.var,D.lit,D.bZ,D.beq,D.dN,D.dO,D.dP,D.add,D.sub,D.mul,D.min,D.max,D.cu,D.bL,D.bM];simp [Env.join];omega
    ·have hf:=hf _ (List.mem_singleton.2 rfl)
     simp only [D.be,D.le,D.gz,D.lt,D.gB,D.eq,D.gF,D.not,D.dL,D.and,D.dM,D.or,D.gG,D.inr,D.var,D.lit,D.bZ,D.beq,D.dN,D.dO,D.dP,D.add,D.sub,D.mul,D.min,D.max,D.cu,D.bL,D.bM] at hf
     simp [Env.join] at hf
     refine ⟨⟨by simp [Sub.af,assoc,CV.I,CV.B,ah,ai,aa.I,aa.B,SC.I,SC.B,IE.den,BE.den,Env.join];omega,by simp [Sub.af,assoc,CV.I,CV.B,ah,ai,aa.I,aa.B,SC.I,SC.B,IE.den,BE.den,Env.join];omega⟩,⟨⟨o1,o2,o3,o4⟩,?_⟩,⟨?_,?_⟩⟩
     ·refine Eq.trans (b:=notes q 8) (by exact eU rfl fun i _=>by simp [bu,Sub.af,assoc,CV.I,CV.B,ah,ai,aa.I,aa.B,SC.I,SC.B,IE.den,BE.den,Env.join]) ?_
      show notes q 8=((notes q 0).take (q.iv 16+1).toNat).filter (fun n=>!qd (uH q 4) n)
      rw [htk,List.filter_append,n1]
      simp [hk]
     ·simp [aZ,Sub.af,assoc,CV.I,CV.B,ah,ai,aa.I,aa.B,SC.I,SC.B,IE.den,BE.den,Env.join]
      omega
     ·refine (jX (ρ:=q) (b:=12) (x:=bu q 3 (q.iv 16).toNat) p2 rfl (fun i hi=>?_) ?_).trans ?_
      ·have:¬(q.iv 13).toNat=i:=by simp only [Nat.reduceAdd] at hi;omega
       simp [bu,Sub.af,assoc,CV.I,CV.B,ah,ai,aa.I,aa.B,SC.I,SC.B,IE.den,BE.den,Env.join,this]
      ·simp [bu,Sub.af,assoc,CV.I,CV.B,ah,ai,aa.I,aa.B,SC.I,SC.B,IE.den,BE.den,Env.join]
      ·show notes q 12 ++ _=((notes q 0).take (q.iv 16+1).toNat).filter (qd (uH q 4))
       rw [htk,List.filter_append,n2]
       simp [hk]
    ·show (q.iv 1-(q.iv 16+1)).toNat<(q.iv 1-q.iv 16).toNat
     omega
   ·replace hne:¬wT q (q.iv 16).toNat (q.iv 17).toNat:=fun h=>by
     exact Bool.false_ne_true (hne.symm.trans (by simp only [D.le,D.gz,D.lt,D.gB,D.eq,D.gF,D.not,D.dL,D.and,D.dM,D.or,D.gG,D.inr,D.var,D.lit,D.bZ,D.beq,D.dN,D.dO,D.dP,D.add,D.sub,D.mul,D.min,D.max,D.cu,D.bL,D.bM];exact h))
    refine Sat.ob ?_ (Sat.back rfl ⟨⟨⟨?_,?_⟩,fun j hj=>?_⟩,?_⟩)
    ·simp only [D.le,D.gz,D.lt,D.gB,D.eq,D.gF,D.not,D.dL,D.and,D.dM,D.or,D.gG,D.inr,D.var,D.lit,D.bZ,D.beq,D.dN,D.dO,D.dP,D.add,D.sub,D.mul,D.min,D.max,D.cu,D.bL,D.bM];have:=hpre.2.2.2;omega
    ·show 0≤q.iv 17+1;omega
    ·show q.iv 17+1≤q.iv 5;omega
    ·replace hj:(j:Int)<q.iv 17+1:=hj
     show ¬wT q (q.iv 16).toNat j
     by_cases h:j=(q.iv 17).toNat
     ·subst h;exact hne
     ·exact j3 j (by omega)
    ·show (q.iv 5-(q.iv 17+1)).toNat<(q.iv 5-q.iv 17).toNat
     omega
  ·replace hI2:Ea (r.join 17 e2):=hI2
   replace hat:pI (r.join 17 e2):=hat
   replace yP:¬(r.join 17 e2).iv 17<(r.join 17 e2).iv 5:=of_decide_eq_false yP
   rw [show (r.iv 1-r.iv 16).toNat=((r.join 17 e2).iv 1-(r.join 17 e2).iv 16).toNat from rfl]
   clear hpre hlt l1 l2 i1 i2
   generalize r.join 17 e2=q at *
   have hpre:=hat.1
   obtain ⟨⟨i1,i2⟩,-⟩:=hat.2.1
   have hlt:=hat.2.2
   obtain ⟨l1,l2⟩:=hat.lens
   obtain ⟨⟨j1,j2⟩,j3⟩:=hI2
   have hk:qd (uH q 4) (bu q 3 (q.iv 16).toNat)=false:=by
    refine List.any_eq_false.2 fun x hx=>?_
    obtain ⟨j,hj,rfl⟩:=List.mem_map.1 hx
    have hj:=List.mem_range.1 hj
    simp only [Nat.reduceAdd] at hj
    exact ne_true_of_eq_false (decide_eq_false (j3 j (by omega)))
   obtain ⟨⟨o1,o2,o3,o4⟩,n1⟩:=hat.2.1.2.1
   obtain ⟨⟨p1,p2,p3,p4⟩,n2⟩:=hat.2.1.2.2
   have htk:=hat.take
   obtain ⟨_,a5,_,b5⟩:=hpre
   simp only [Nat.reduceAdd] at *
   refine Sat.ob ?_ (Sat.ob (decide_eq_true o2) (Sat.ob (decide_eq_true o3) (Sat.ob (decide_eq_true o4) (Sat.ob (aO hat.2.1.2.1.1) (Sat.new fun e3 hf=>Sat.ob ?_ (Sat.back rfl ⟨?_,?_⟩))))))
   ·simp only [D.le,D.gz,D.lt,D.gB,D.eq,D.gF,D.not,D.dL,D.and,D.dM,D.or,D.gG,D.inr,D.var,D.lit,D.bZ,D.beq,D.dN,D.dO,D.dP,D.add,D.sub,D.mul,D.min,D.max,D.cu,D.bL,D.bM];omega
   ·simp only [D.le,D.gz,D.lt,D.gB,D.eq,D.gF,D.not,D.dL,D.and,D.dM,D.or,D.gG,D.inr,D.var,D.lit,D.bZ,D.beq,D.dN,D.dO,D.dP,D.add,D.sub,D.mul,D.min,D.max,D.cu,D.bL,D.bM];simp [Env.join];omega
   ·have hf:=hf _ (List.mem_singleton.2 rfl)
    simp only [D.be,D.le,D.gz,D.lt,D.gB,D.eq,D.gF,D.not,D.dL,D.and,D.dM,D.or,D.gG,D.inr,D.var,D.lit,D.bZ,D.beq,D.dN,D.dO,D.dP,D.add,D.sub,D.mul,D.min,D.max,D.cu,D.bL,D.bM] at hf
    simp [Env.join] at hf
    refine ⟨⟨by simp [Sub.af,assoc,CV.I,CV.B,ah,ai,aa.I,aa.B,SC.I,SC.B,IE.den,BE.den,Env.join];omega,by simp [Sub.af,assoc,CV.I,CV.B,ah,ai,aa.I,aa.B,SC.I,SC.B,IE.den,BE.den,Env.join];omega⟩,⟨?_,?_⟩,⟨⟨p1,p2,p3,p4⟩,?_⟩⟩
    ·simp [aZ,Sub.af,assoc,CV.I,CV.B,ah,ai,aa.I,aa.B,SC.I,SC.B,IE.den,BE.den,Env.join]
     omega
    ·refine (jX (ρ:=q) (b:=8) (x:=bu q 3 (q.iv 16).toNat) o2 rfl (fun i hi=>?_) ?_).trans ?_
     ·have:¬(q.iv 9).toNat=i:=by simp only [Nat.reduceAdd] at hi;omega
      simp [bu,Sub.af,assoc,CV.I,CV.B,ah,ai,aa.I,aa.B,SC.I,SC.B,IE.den,BE.den,Env.join,this]
     ·simp [bu,Sub.af,assoc,CV.I,CV.B,ah,ai,aa.I,aa.B,SC.I,SC.B,IE.den,BE.den,Env.join]
     ·show notes q 8 ++ _=((notes q 0).take (q.iv 16+1).toNat).filter (fun n=>!qd (uH q 4) n)
      rw [htk,List.filter_append,n1]
      simp [hk]
    ·refine Eq.trans (b:=notes q 12) (by exact eU rfl fun i _=>by simp [bu,Sub.af,assoc,CV.I,CV.B,ah,ai,aa.I,aa.B,SC.I,SC.B,IE.den,BE.den,Env.join]) ?_
     show notes q 12=((notes q 0).take (q.iv 16+1).toNat).filter (qd (uH q 4))
     rw [htk,List.filter_append,n2]
     simp [hk]
   ·show (q.iv 1-(q.iv 16+1)).toNat<(q.iv 1-q.iv 16).toNat
    omega
 ·replace hpre:l7 (ρ.join 8 e):=hpre
  replace hI:sN (ρ.join 8 e):=hI
  replace hge:¬(ρ.join 8 e).iv 16<(ρ.join 8 e).iv 1:=of_decide_eq_false hge
  generalize ρ.join 8 e=q at *
  obtain ⟨⟨i1,i2⟩,⟨o,n1⟩,⟨p,n2⟩⟩:=hI
  rw [q9 _ _ (by simp only [Nat.zero_add];omega)] at n1 n2
  refine Sat.fin ⟨o,?_,p,?_⟩
  ·exact Eq.trans (b:=notes q 8) (by exact eU rfl fun i _=>by simp [bu,Sub.af,assoc,CV.I,CV.B,ah,ai,aa.I,aa.B,SC.I,SC.B,IE.den,BE.den,Env.join]) n1
  ·exact Eq.trans (b:=notes q 12) (by exact eU rfl fun i _=>by simp [bu,Sub.af,assoc,CV.I,CV.B,ah,ai,aa.I,aa.B,SC.I,SC.B,IE.den,BE.den,Env.join]) n2
theorem NY:bC Tryd.prog lh l7 Fs :=
 dJ fu (E:=NU) (cs:=[]) rfl (fun k pre post h=>by cases h) di rfl NV (by kernel_rfl) (fun ρ _ p hp=>by cases hp) NW
noncomputable def Kj:Ex:={sched:=sched,loops:=[LF],fin:=jS}
def yQ:Out :=
 .ob (.or (.not (.var 0)) (.aC (.var 1) (.lit 0))) <|
 .ob (.aA (.lit 0) (.var 1)) <|
 .loop 8 {lo:=8,az:=2,iv:=[(16,.lit 0),(14,.lit 0),(13,.lit 0),(10,.lit 0),(9,.lit 0)],bv:=[(12,.lit true),(8,.lit true)],nb:=[3,2]} <|
 .br (.bQ (.var 16) (.var 1))
 (.ob (.not (.var 0)) <|
  .ob (.aA (.lit 0) (.var 16)) <|
  .ob (.or (.bQ (.var 4) (.lit (-9223372036854775806))) (.inr .i64 (.sub (.var 4) (.lit 2)))) <|
  .br (.or (.bQ (.var 4) (.lit (-9223372036854775806))) (.bQ (.sub (.var 4) (.lit 2)) (.cell 3 (.var 16) (.lit 0) 6)))
  (.ob (.aA (.mul (.add (.var 13) (.lit 1)) (.lit 56)) (.lit 140737488355328)) <|
   .ob (.aA (.lit 0) (.var 13)) <|
   .ob (.aA (.var 13) (.var 14)) <|
   .ob (.aA (.var 14) (.lit 9223372036854775807)) <|
   .ob (.or (.not (.var 12)) (.aC (.var 13) (.lit 0))) <|
   .new 17 [.be (.and (.aA (.add (.var 13) (.lit 1)) (.var 17)) (.aA (.var 17) (.lit 9223372036854775807)))] <|
   .ob (.inr .i64 (.add (.var 16) (.lit 1))) <|
   .back 0 {lo:=8,az:=2,iv:=[(16,.add (.var 16) (.lit 1)),(14,yv 17),(13,.add (.var 13) (.lit 1)),(10,yv 10),(9,yv 9)],bv:=[(12,.lit false),(8,yw 8)],ct:=[(15,.up {r:=15,n1:=.add (.var 13) (.lit 1),s1:=7,ks:=yN} 0 [⟨0,(.var 13),(.lit 0),0,.int .i64 (.cell 3 (.var 16) (.lit 0) 0)⟩,⟨0,(.var 13),(.lit 0),1,.int .i64 (.cell 3 (.var 16) (.lit 0) 1)⟩,⟨0,(.var 13),(.lit 0),2,.int .i64 (.cell 3 (.var 16) (.lit 0) 2)⟩,⟨0,(.var 13),(.lit 0),3,.int .i64 (.cell 3 (.var 16) (.lit 0) 3)⟩,⟨0,(.var 13),(.lit 0),4,.bool (.cell 3 (.var 16) (.lit 0) 4)⟩,⟨0,(.var 13),(.lit 0),5,.int .i64 (.cell 3 (.var 16) (.lit 0) 5)⟩,⟨0,(.var 13),(.lit 0),6,.int .i64 (.cell 3 (.var 16) (.lit 0) 6)⟩] (.lit 0)),(11,yu 11 9 7 yN 0)],bk:=[(3,yc 7 7),(2,yc 2 7)]})
  (.ob (.aA (.mul (.add (.var 9) (.lit 1)) (.lit 56)) (.lit 140737488355328)) <|
   .ob (.aA (.lit 0) (.var 9)) <|
   .ob (.aA (.var 9) (.var 10)) <|
   .ob (.aA (.var 10) (.lit 9223372036854775807)) <|
   .ob (.or (.not (.var 8)) (.aC (.var 9) (.lit 0))) <|
   .new 17 [.be (.and (.aA (.add (.var 9) (.lit 1)) (.var 17)) (.aA (.var 17) (.lit 9223372036854775807)))] <|
   .ob (.inr .i64 (.add (.var 16) (.lit 1))) <|
   .back 0 {lo:=8,az:=2,iv:=[(16,.add (.var 16) (.lit 1)),(14,yv 14),(13,yv 13),(10,yv 17),(9,.add (.var 9) (.lit 1))],bv:=[(12,yw 12),(8,.lit false)],ct:=[(15,yu 15 13 7 yN 0),(11,.up {r:=11,n1:=.add (.var 9) (.lit 1),s1:=7,ks:=yN} 0 [⟨0,(.var 9),(.lit 0),0,.int .i64 (.cell 3 (.var 16) (.lit 0) 0)⟩,⟨0,(.var 9),(.lit 0),1,.int .i64 (.cell 3 (.var 16) (.lit 0) 1)⟩,⟨0,(.var 9),(.lit 0),2,.int .i64 (.cell 3 (.var 16) (.lit 0) 2)⟩,⟨0,(.var 9),(.lit 0),3,.int .i64 (.cell 3 (.var 16) (.lit 0) 3)⟩,⟨0,(.var 9),(.lit 0),4,.bool (.cell 3 (.var 16) (.lit 0) 4)⟩,⟨0,(.var 9),(.lit 0),5,.int .i64 (.cell 3 (.var 16) (.lit 0) 5)⟩,⟨0,(.var 9),(.lit 0),6,.int .i64 (.cell 3 (.var 16) (.lit 0) 6)⟩] (.lit 0))],bk:=[(3,yc 3 7),(2,yc 7 7)]}))
 (.fin {lo:=8,az:=1,iv:=[(14,yv 14),(13,yv 13),(10,yv 10),(9,yv 9)],bv:=[(12,yw 12),(8,yw 8)],ct:=[(15,yu 15 13 7 yN 0),(11,yu 11 9 7 yN 0)],bk:=[(2,yc 3 7),(1,yc 2 7)]})
theorem LM:exec tab Kj 4000 [] (fV jS.f 8 [] [] jS.hp jS.args)=yQ:=by kernel_rfl
def kU (ρ:Env):Prop:=aZ ρ 0∧ρ.iv 1≤1000000∧-9223372036854775808≤ρ.iv 4∧ρ.iv 4≤9223372036854775807
def Dk (ρ:Env):Prop:=aZ ρ 8∧notes ρ 8=(notes ρ 0).filter (fun n=>!qf (ρ.iv 4) n)∧aZ ρ 12∧notes ρ 12=(notes ρ 0).filter (qf (ρ.iv 4))
def qC (ρ:Env):Prop:=(0≤ρ.iv 16∧ρ.iv 16≤ρ.iv 1)∧(aZ ρ 8∧notes ρ 8=((notes ρ 0).take (ρ.iv 16).toNat).filter (fun n=>!qf (ρ.iv 4) n))∧aZ ρ 12∧notes ρ 12=((notes ρ 0).take (ρ.iv 16).toNat).filter (qf (ρ.iv 4))
def sO (ρ:Env):Prop:=kU ρ∧qC ρ∧ρ.iv 16<ρ.iv 1
theorem sO.lens {ρ:Env} (h:sO ρ):ρ.iv 9≤ρ.iv 16∧ρ.iv 13≤ρ.iv 16:=by
 obtain ⟨⟨a1,a5,b1⟩,⟨⟨i1,i2⟩,⟨⟨o1,o2,o3,o4⟩,n1⟩,⟨⟨p1,p2,p3,p4⟩,n2⟩⟩,hlt⟩:=h
 have l1:(notes ρ 8).length≤(ρ.iv 16).toNat:=by
  rw [n1];refine Nat.le_trans (List.length_filter_le _ _) ?_;rw [List.length_take];omega
 have l2:(notes ρ 12).length≤(ρ.iv 16).toNat:=by
  rw [n2];refine Nat.le_trans (List.length_filter_le _ _) ?_;rw [List.length_take];omega
 rw [kP] at l1 l2
 simp only [Nat.reduceAdd] at *
 omega
theorem sO.take {ρ:Env} (h:sO ρ):(notes ρ 0).take (ρ.iv 16+1).toNat=(notes ρ 0).take (ρ.iv 16).toNat ++ [bu ρ 3 (ρ.iv 16).toNat]:=by
 obtain ⟨_,⟨⟨i1,i2⟩,_⟩,hlt⟩:=h
 rw [show (ρ.iv 16+1).toNat=(ρ.iv 16).toNat+1 by omega]
 exact qZ (b:=0) (by simp only [Nat.zero_add];omega)
theorem LP (ρ:Env) (hpre:kU ρ.num):Sat Dk [] [] ρ yQ:=by
 replace hpre:kU ρ:=hpre
 unfold yQ
 refine Sat.ob (aO hpre.1) (Sat.ob (decide_eq_true hpre.1.2.1) (Sat.loop qC (fun r=>(r.iv 1-r.iv 16).toNat) ?_ fun e hI=>Sat.br (fun hlt=>?_) (fun hge=>?_)))
 ·have h2:=hpre.1.2.1
  simp [qC,aZ,notes,Sub.af,assoc,CV.I,CV.B,ah,ai,aa.I,aa.B,SC.I,SC.B,IE.den,BE.den,h2]
 ·replace hpre:kU (ρ.join 8 e):=hpre
  replace hI:qC (ρ.join 8 e):=hI
  replace hlt:(ρ.join 8 e).iv 16<(ρ.join 8 e).iv 1:=of_decide_eq_true hlt
  have hat:sO (ρ.join 8 e):=⟨hpre,hI,hlt⟩
  clear hpre hI hlt
  have hm:((ρ.join 8 e).num.iv 1-(ρ.join 8 e).num.iv 16).toNat=((ρ.join 8 e).iv 1-(ρ.join 8 e).iv 16).toNat:=rfl
  rw [hm]
  clear hm
  generalize ρ.join 8 e=r at *
  have hpre:=hat.1
  obtain ⟨⟨i1,i2⟩,-⟩:=hat.2.1
  have hlt:=hat.2.2
  obtain ⟨l1,l2⟩:=hat.lens
  obtain ⟨⟨o1,o2,o3,o4⟩,n1⟩:=hat.2.1.2.1
  obtain ⟨⟨p1,p2,p3,p4⟩,n2⟩:=hat.2.1.2.2
  have htk:=hat.take
  have hpre:=hat.1
  obtain ⟨_,a5,b4,b5⟩:=hpre
  simp only [Nat.reduceAdd] at *
  refine Sat.ob ?_ (Sat.ob (decide_eq_true i1) (Sat.ob ?_ (Sat.br (fun heq=>?_) (fun hne=>?_))))
  ·simp only [D.le,D.gz,D.lt,D.gB,D.eq,D.gF,D.not,D.dL,D.and,D.dM,D.or,D.gG,D.inr,D.var,D.lit,D.bZ,D.beq,D.dN,D.dO,D.dP,D.add,D.sub,D.mul,D.min,D.max,D.cu,D.bL,D.bM]
   cases h:r.bv 0
   ·rfl
   ·have:=hat.1.1.1 h
    simp only [Nat.zero_add] at this
    omega
  ·simp only [D.le,D.gz,D.lt,D.gB,D.eq,D.gF,D.not,D.dL,D.and,D.dM,D.or,D.gG,D.inr,D.var,D.lit,D.bZ,D.beq,D.dN,D.dO,D.dP,D.add,D.sub,D.mul,D.min,D.max,D.cu,D.bL,D.bM]
   omega
  ·have hk:qf (r.iv 4) (bu r 3 (r.iv 16).toNat)=true:=by
    simp only [D.le,D.gz,D.lt,D.gB,D.eq,D.gF,D.not,D.dL,D.and,D.dM,D.or,D.gG,D.inr,D.var,D.lit,D.bZ,D.beq,D.dN,D.dO,D.dP,D.add,D.sub,D.mul,D.min,D.max,D.cu,D.bL,D.bM] at heq
    exact decide_eq_true heq
   refine Sat.ob ?_ (Sat.ob (decide_eq_true p2) (Sat.ob (decide_eq_true p3) (Sat.ob (decide_eq_true p4) (Sat.ob (aO hat.2.1.2.2.1) (Sat.new fun e3 hf=>Sat.ob ?_ (Sat.back rfl ⟨?_,?_⟩))))))
   ·simp only [D.le,D.gz,D.lt,D.gB,D.eq,D.gF,D.not,D.dL,D.and,D.dM,D.or,D.gG,D.inr,D.var,D.lit,D.bZ,D.beq,D.dN,D.dO,D.dP,D.add,D.sub,D.mul,D.min,D.max,D.cu,D.bL,D.bM];omega
   ·simp only [D.le,D.gz,D.lt,D.gB,D.eq,D.gF,D.not,D.dL,D.and,D.dM,D.or,D.gG,D.inr,D.var,D.lit,D.bZ,D.beq,D.dN,D.dO,D.dP,D.add,D.sub,D.mul,D.min,D.max,D.cu,D.bL,D.bM];simp [Env.join];omega
   ·have hf:=hf _ (List.mem_singleton.2 rfl)
    simp only [D.be,D.le,D.gz,D.lt,D.gB,D.eq,D.gF,D.not,D.dL,D.and,D.dM,D.or,D.gG,D.inr,D.var,D.lit,D.bZ,D.beq,D.dN,D.dO,D.dP,D.add,D.sub,D.mul,D.min,D.max,D.cu,D.bL,D.bM] at hf
    simp [Env.join] at hf
    refine ⟨⟨by simp [Sub.af,assoc,CV.I,CV.B,ah,ai,aa.I,aa.B,SC.I,SC.B,IE.den,BE.den,Env.join];omega,by simp [Sub.af,assoc,CV.I,CV.B,ah,ai,aa.I,aa.B,SC.I,SC.B,IE.den,BE.den,Env.join];omega⟩,⟨⟨o1,o2,o3,o4⟩,?_⟩,⟨?_,?_⟩⟩
    ·refine Eq.trans (b:=notes r 8) (by exact eU rfl fun i _=>by simp [bu,Sub.af,assoc,CV.I,CV.B,ah,ai,aa.I,aa.B,SC.I,SC.B,IE.den,BE.den,Env.join]) ?_
     show notes r 8=((notes r 0).take (r.iv 16+1).toNat).filter (fun n=>!qf (r.iv 4) n)
     rw [htk,List.filter_append,n1]
     simp [hk]
    ·simp [aZ,Sub.af,assoc,CV.I,CV.B,ah,ai,aa.I,aa.B,SC.I,SC.B,IE.den,BE.den,Env.join]
     omega
    ·refine (jX (ρ:=r) (b:=12) (x:=bu r 3 (r.iv 16).toNat) p2 rfl (fun i hi=>?_) ?_).trans ?_
     ·have:¬(r.iv 13).toNat=i:=by simp only [Nat.reduceAdd] at hi;omega
      simp [bu,Sub.af,assoc,CV.I,CV.B,ah,ai,aa.I,aa.B,SC.I,SC.B,IE.den,BE.den,Env.join,this]
     ·simp [bu,Sub.af,assoc,CV.I,CV.B,ah,ai,aa.I,aa.B,SC.I,SC.B,IE.den,BE.den,Env.join]
     ·show notes r 12 ++ _=((notes r 0).take (r.iv 16+1).toNat).filter (qf (r.iv 4))
      rw [htk,List.filter_append,n2]
      simp [hk]
   ·show (r.iv 1-(r.iv 16+1)).toNat<(r.iv 1-r.iv 16).toNat
    omega
  ·have hk:qf (r.iv 4) (bu r 3 (r.iv 16).toNat)=false:=by
    refine decide_eq_false fun h=>Bool.false_ne_true (hne.symm.trans ?_)
    simp only [D.le,D.gz,D.lt,D.gB,D.eq,D.gF,D.not,D.dL,D.and,D.dM,D.or,D.gG,D.inr,D.var,D.lit,D.bZ,D.beq,D.dN,D.dO,D.dP,D.add,D.sub,D.mul,D.min,D.max,D.cu,D.bL,D.bM];exact h
   refine Sat.ob ?_ (Sat.ob (decide_eq_true o2) (Sat.ob (decide_eq_true o3) (Sat.ob (decide_eq_true o4) (Sat.ob (aO hat.2.1.2.1.1) (Sat.new fun e3 hf=>Sat.ob ?_ (Sat.back rfl ⟨?_,?_⟩))))))
   ·simp only [D.le,D.gz,D.lt,D.gB,D.eq,D.gF,D.not,D.dL,D.and,D.dM,D.or,D.gG,D.inr,D.var,D.lit,D.bZ,D.beq,D.dN,D.dO,D.dP,D.add,D.sub,D.mul,D.min,D.max,D.cu,D.bL,D.bM];omega
   ·simp only [D.le,D.gz,D.lt,D.gB,D.eq,D.gF,D.not,D.dL,D.and,D.dM,D.or,D.gG,D.inr,D.var,D.lit,D.bZ,D.beq,D.dN,D.dO,D.dP,D.add,D.sub,D.mul,D.min,D.max,D.cu,D.bL,D.bM];simp [Env.join];omega
   ·have hf:=hf _ (List.mem_singleton.2 rfl)
    simp only [D.be,D.le,D.gz,D.lt,D.gB,D.eq,D.gF,D.not,D.dL,D.and,D.dM,D.or,D.gG,D.inr,D.var,D.lit,D.bZ,D.beq,D.dN,D.dO,D.dP,D.add,D.sub,D.mul,D.min,D.max,D.cu,D.bL,D.bM] at hf
    simp [Env.join] at hf
    refine ⟨⟨by simp [Sub.af,assoc,CV.I,CV.B,ah,ai,aa.I,aa.B,SC.I,SC.B,IE.den,BE.den,Env.join];omega,by simp [Sub.af,assoc,CV.I,CV.B,ah,ai,aa.I,aa.B,SC.I,SC.B,IE.den,BE.den,Env.join];omega⟩,⟨?_,?_⟩,⟨⟨p1,p2,p3,p4⟩,?_⟩⟩
    ·simp [aZ,Sub.af,assoc,CV.I,CV.B,ah,ai,aa.I,aa.B,SC.I,SC.B,IE.den,BE.den,Env.join]
     omega
    ·refine (jX (ρ:=r) (b:=8) (x:=bu r 3 (r.iv 16).toNat) o2 rfl (fun i hi=>?_) ?_).trans ?_
     ·have:¬(r.iv 9).toNat=i:=by simp only [Nat.reduceAdd] at hi;omega
      simp [bu,Sub.af,assoc,CV.I,CV.B,ah,ai,aa.I,aa.B,SC.I,SC.B,IE.den,BE.den,Env.join,this]
     ·simp [bu,Sub.af,assoc,CV.I,CV.B,ah,ai,aa.I,aa.B,SC.I,SC.B,IE.den,BE.den,Env.join]
     ·show notes r 8 ++ _=((notes r 0).take (r.iv 16+1).toNat).filter (fun n=>!qf (r.iv 4) n)
      rw [htk,List.filter_append,n1]
      simp [hk]
    ·refine Eq.trans (b:=notes r 12) (by exact eU rfl fun i _=>by simp [bu,Sub.af,assoc,CV.I,CV.B,ah,ai,aa.I,aa.B,SC.I,SC.B,IE.den,BE.den,Env.join]) ?_
     show notes r 12=((notes r 0).take (r.iv 16+1).toNat).filter (qf (r.iv 4))
     rw [htk,List.filter_append,n2]
     simp [hk]
   ·show (r.iv 1-(r.iv 16+1)).toNat<(r.iv 1-r.iv 16).toNat
    omega
 ·replace hpre:kU (ρ.join 8 e):=hpre
  replace hI:qC (ρ.join 8 e):=hI
  replace hge:¬(ρ.join 8 e).iv 16<(ρ.join 8 e).iv 1:=of_decide_eq_false hge
  generalize ρ.join 8 e=q at *
  obtain ⟨⟨i1,i2⟩,⟨o,n1⟩,⟨p,n2⟩⟩:=hI
  rw [q9 _ _ (by simp only [Nat.zero_add];omega)] at n1 n2
  refine Sat.fin ⟨o,?_,p,?_⟩
  ·exact Eq.trans (b:=notes q 8) (by exact eU rfl fun i _=>by simp [bu,Sub.af,assoc,CV.I,CV.B,ah,ai,aa.I,aa.B,SC.I,SC.B,IE.den,BE.den,Env.join]) n1
  ·exact Eq.trans (b:=notes q 12) (by exact eU rfl fun i _=>by simp [bu,Sub.af,assoc,CV.I,CV.B,ah,ai,aa.I,aa.B,SC.I,SC.B,IE.den,BE.den,Env.join]) n2
theorem LQ:bC Tryd.prog jS kU Dk :=
 dJ fu (E:=Kj) (cs:=[]) rfl (fun k pre post h=>by cases h) di rfl LM (by kernel_rfl) (fun ρ _ p hp=>by cases hp) LP
end Go.Proofs.YthomdlajobnmnaaDoor.Sv
set_option linter.unusedSimpArgs false
set_option linter.unusedVariables false
namespace Go.Proofs.YthomdlajobnmnaaDoor
open Go.Rex
def W9:Kn:=[(.aA (.lit 0) (.var 0),true),(.bQ (.var 0) (.lit 6),true),(.bQ (.var 1) (.lit 0),false),(.aA (.lit 9) (.var 1),false)]
noncomputable def mJ:Ex:={sched:=sched,loops:=[],fin:=fZ}
def Eb:Out :=
 .ob (.inr .i64 (.mul (.var 0) (.lit 9))) <|
 .ob (.inr .i64 (.add (.lit 25) (.mul (.var 0) (.lit 9)))) <|
 .ob (.inr .i64 (.add (.add (.lit 25) (.mul (.var 0) (.lit 9))) (.var 1))) <|
 .fin {lo:=2,az:=0}
theorem Qm:exec tab mJ 8000 [] (fV fZ.f fZ.nv W9 fZ.gl fZ.hp fZ.args)=Eb:=by kernel_rfl
def vD (ρ:Env):Prop:=(0≤ρ.iv 0∧ρ.iv 0<6)∧0≤ρ.iv 1∧ρ.iv 1<9
def oI (_:Env):Prop:=True
theorem Qn (ρ:Env) (hpre:vD ρ.num):Sat oI [] [] ρ Eb:=by
 replace hpre:vD ρ:=hpre
 obtain ⟨⟨a,b⟩,c,d⟩:=hpre
 unfold Eb
 refine Sat.ob ?_ (Sat.ob ?_ (Sat.ob ?_ (Sat.fin trivial)))
 all_goals simp only [Da];omega
theorem IG:bC Tryd.prog fZ vD oI :=
 dJ fu (E:=mJ) (cs:=[]) rfl (fun k pre post h=>by cases h) di rfl Qm (by kernel_rfl) (fun ρ h p hp=>by
   obtain ⟨⟨a,b⟩,c,d⟩:=h
   simp only [W9,List.mem_cons,List.not_mem_nil,or_false] at hp
   rcases hp with rfl | rfl | rfl | rfl
   · exact decide_eq_true a
   · exact decide_eq_true b
   · exact decide_eq_false (by simp only [IE.den];omega)
   · exact decide_eq_false (by simp only [IE.den];omega)) Qn
def Xa:Kn:=[(.aA (.lit 0) (.var 0),true),(.bQ (.var 0) (.lit 6),true)]
noncomputable def R3:Ex:={sched:=sched,loops:=[],fin:=gL}
def Ec:Out :=
 .ob (.inr .i64 (.add (.lit 79) (.var 0))) <|
 .fin {lo:=1,az:=0}
theorem Qo:exec tab R3 8000 [] (fV gL.f gL.nv Xa gL.gl gL.hp gL.args)=Ec:=by kernel_rfl
def vE (ρ:Env):Prop:=0≤ρ.iv 0∧ρ.iv 0<6
theorem Qp (ρ:Env) (hpre:vE ρ.num):Sat oI [] [] ρ Ec:=by
 replace hpre:vE ρ:=hpre
 obtain ⟨a,b⟩:=hpre
 unfold Ec
 refine Sat.ob ?_ (Sat.fin trivial)
 simp only [Da];omega
theorem II:bC Tryd.prog gL vE oI :=
 dJ fu (E:=R3) (cs:=[]) rfl (fun k pre post h=>by cases h) di rfl Qo (by kernel_rfl) (fun ρ h p hp=>by
   obtain ⟨a,b⟩:=h
   simp only [Xa,List.mem_cons,List.not_mem_nil,or_false] at hp
   rcases hp with rfl | rfl
   · exact decide_eq_true a
   · exact decide_eq_true b) Qp
def yR:ko:=[(fZ,vD,oI),(gL,vE,oI)]
theorem Ed:∀k pre post,(k,pre,post)∈yR→jg k=true∧bC Tryd.prog k pre post:=by
 intro k pre post h
 simp only [yR,List.mem_cons,List.not_mem_nil,or_false,Prod.mk.injEq] at h
 rcases h with ⟨rfl,rfl,rfl⟩ | ⟨rfl,rfl,rfl⟩
 ·exact ⟨by kernel_rfl,IG⟩
 ·exact ⟨by kernel_rfl,II⟩
end Go.Proofs.YthomdlajobnmnaaDoor
set_option linter.unusedSimpArgs false
set_option linter.unusedVariables false
namespace Go.Proofs.YthomdlajobnmnaaDoor
open Go.Rex
noncomputable def R4:Ex:={sched:=sched,loops:=[],fin:=gp}
def Ee:Out :=
 .ob (.or (.not (.var 51)) (.aC (.var 52) (.lit 0))) <|
 .ob (.aA (.lit 0) (.var 52)) <|
 .br (.aC (.var 52) (.lit 0))
 (.fin {lo:=71,az:=4,iv:=[(132,.lit 0),(131,.lit 0),(130,.lit 0),(129,.lit 0),(128,yv 61),(127,yv 60),(126,yv 59),(124,yv 57),(123,yv 56),(120,.lit 0),(119,.lit 0),(117,.lit 0),(116,.lit 0),(114,.lit 0),(112,.lit 0),(111,.lit 0),(110,.lit 0),(109,.lit 0),(107,.lit 0),(106,.lit 0),(105,.lit 0),(104,.lit 0),(102,.lit 0),(101,.lit 0),(100,.lit 0),(99,.lit 0),(97,.lit 0),(96,.lit 0),(95,.lit 0),(94,.lit 0),(93,.lit 0),(92,.lit 0),(91,.lit 0),(90,.lit 0),(89,.lit 0),(88,.lit 0),(87,.lit 0),(86,.lit 0),(85,.lit 0),(83,.lit 0),(82,.lit 0),(81,.lit 0),(80,.lit 0),(78,.lit 0),(77,.lit 0),(76,.lit 0),(75,.lit 0),(74,.lit 0),(73,.lit 0),(72,.lit 0),(71,.lit 0)],bv:=[(134,.lit true),(133,.lit false),(125,yw 58),(122,yw 55),(118,.lit true),(115,.lit true),(113,.lit false),(108,.lit false),(103,.lit false),(98,.lit false),(84,.lit false),(79,.lit false)],ct:=[(137,yu 70 59 7 yN 0),(121,yl 54 9 5 50 yW 0)],bk:=[(6,yc 3 7)],nb:=[5,4,5,4]})
 (.ob (.not (.var 51)) <|
  .ob (.bQ (.lit 0) (.var 52)) <|
  .ob (.aA (.lit 0) (.var 69)) <|
  .ob (.bQ (.var 69) (.var 70)) <|
  .fin {lo:=71,az:=4,iv:=[(137,yv 70),(132,yv 65),(131,yv 64),(130,yv 63),(129,yv 62),(128,yv 61),(127,yv 60),(126,yv 59),(124,yv 57),(123,yv 56),(120,yv 53),(119,yv 52),(136,yv 69),(117,yv 50),(116,yv 49),(114,yv 47),(112,yv 45),(111,yv 44),(110,yv 43),(109,yv 42),(107,yv 40),(106,yv 39),(105,yv 38),(104,yv 37),(102,.lit 0),(101,.lit 0),(100,.lit 0),(99,.lit 0),(97,.cell 69 (.var 69) (.lit 0) 3),(96,.cell 69 (.var 69) (.lit 0) 2),(95,.cell 69 (.var 69) (.lit 0) 1),(94,.cell 69 (.var 69) (.lit 0) 0),(93,.lit 0),(92,.lit 0),(91,.lit 0),(90,.lit 5),(89,.lit 16),(88,yv 21),(87,yv 20),(86,yv 19),(85,yv 18),(83,yv 16),(82,yv 15),(81,yv 14),(80,yv 13),(78,yv 11),(77,yv 10),(76,yv 9),(75,yv 8),(74,yv 7),(73,yv 6),(72,yv 5),(71,yv 4)],bv:=[(134,yw 67),(133,yw 66),(125,yw 58),(122,yw 55),(118,yw 51),(115,yw 48),(113,yw 46),(108,yw 41),(103,.lit false),(98,.cell 69 (.var 69) (.lit 0) 4),(84,yw 17),(79,yw 12)],ct:=[(137,yu 70 59 7 yN 0),(136,yu 69 70 7 yN 0),(135,yu 68 49 5 yW 0),(121,yl 54 9 5 50 yW 0)],bk:=[(6,yc 3 7),(5,yc 2 7),(4,yc 1 5)]})
theorem Qq:exec tab R4 8000 [] (fV gp.f gp.nv [] gp.gl gp.hp gp.args)=Ee:=by kernel_rfl
def IJ (ρ:Env):Prop:=bJ ρ 4
def wU (ρ:Env):Prop:=bJ ρ 71∧ae ρ 0 71=(ae ρ 0 4).eG
theorem Qr (ρ:Env) (hpre:IJ ρ.num):Sat wU [] [] ρ Ee:=by
 replace hpre:IJ ρ:=hpre
 obtain ⟨o1,o2,o3⟩:=hpre
 unfold Ee
 have p2:=o2.1.2.1
 have p3:=o2.2
 simp only [Nat.reduceAdd] at p2 p3
 refine Sat.ob (aO o2.1) (Sat.ob (decide_eq_true p2) (Sat.br (fun c=>?_) (fun c=>?_)))
 ·simp only [Da] at c
  have hd:(ae ρ 0 4).bI=[]:=nR c
  have hm:(ae ρ 0 4).eG=(ae ρ 0 4).done:=by unfold RS.eG;rw [hd]
  exact Sat.fin ⟨⟨(by first | exact o1 | exact o2 | exact o3 | exact aj rfl rfl | assumption),(by first | exact o2 | exact ⟨aj rfl rfl,Int.le_refl 0,.inl rfl⟩ | assumption),(by first | exact o1 | exact o2 | exact o3 | exact aj rfl rfl | assumption)⟩,Eq.trans (b:=(ae ρ 0 4).done) (RS.ext' rfl rfl rfl rfl rfl rfl bg bB rfl rfl rfl rfl bE rfl bz rfl rfl) (Eq.symm (hm))⟩
 ·simp only [Da] at c
  have h1:(ae ρ 0 4).bI=_:=Dj (ρ:=ρ) (r:=69) (o:=ρ.iv 69) (n:=ρ.iv 52) (by omega) p3.1
  have hm:(ae ρ 0 4).eG=(ae ρ 0 4).ask 16 ⟨5,0,0,0,(bP ρ 69 (ρ.iv 69).toNat).ref,Wd.zero⟩:=by unfold RS.eG;rw [h1]
  refine Sat.ob (bR o2.1 (by simp only [Nat.reduceAdd];omega)) (Sat.ob (by simp only [Da];omega) (Sat.ob (by simp only [Da];omega) (Sat.ob (by simp only [Da];omega) (Sat.fin ⟨⟨(by first | exact o1 | exact o2 | exact o3 | exact aj rfl rfl | assumption),(by first | exact o2 | exact ⟨aj rfl rfl,Int.le_refl 0,.inl rfl⟩ | assumption),(by first | exact o1 | exact o2 | exact o3 | exact aj rfl rfl | assumption)⟩,Eq.trans (b:=(ae ρ 0 4).ask 16 ⟨5,0,0,0,(bP ρ 69 (ρ.iv 69).toNat).ref,Wd.zero⟩) (RS.ext' rfl rfl rfl rfl rfl rfl bg bB rfl rfl rfl rfl bE rfl bz rfl rfl) (Eq.symm (hm))⟩))))
theorem IK:bC Tryd.prog gp IJ wU :=
 dJ fu (E:=R4) (cs:=[]) rfl (fun k pre post h=>by cases h) di rfl Qq (by kernel_rfl) (fun ρ _ p hp=>by cases hp) Qr
end Go.Proofs.YthomdlajobnmnaaDoor
set_option linter.unusedSimpArgs false
set_option linter.unusedVariables false
namespace Go.Proofs.YthomdlajobnmnaaDoor
open Go.Rex
def vF (ρ:Env):Prop:=0≤ρ.iv 1∧ρ.iv 1<6∧1≤ρ.iv 2∧ρ.iv 2≤6
theorem jE {σ:Sub} {ρ:Env} (h0:(σ.af ρ).iv 0=ρ.iv 0) (h1:(σ.af ρ).iv 1=ρ.iv 1) (h2:(σ.af ρ).iv 2=ρ.iv 2) (h3:(σ.af ρ).iv 3=ρ.iv 3):∀i,i<4→(σ.af ρ).iv i=ρ.iv i:=by
 intro i hi
 match i with
 | 0=>exact h0
 | 1=>exact h1
 | 2=>exact h2
 | 3=>exact h3
noncomputable def R5:Ex:={sched:=sched,loops:=[],cons:=[fZ,gL],fin:=iY}
def Ef:Out :=
 .br (.or (.aC (.var 0) (.lit 2)) (.aC (.var 0) (.lit 3)))
 (.ob (.inr .i64 (.mul (.var 2) (.lit 9))) <|
  .br (.aA (.mul (.var 2) (.lit 9)) (.var 71))
  (.fin {lo:=72,az:=4,iv:=[(138,yv 70),(133,yv 65),(132,yv 64),(131,yv 63),(130,yv 62),(129,yv 61),(128,yv 60),(127,yv 59),(125,yv 57),(124,yv 56),(121,yv 53),(120,yv 52),(137,yv 69),(118,yv 50),(117,yv 49),(115,yv 47),(113,yv 45),(112,yv 44),(111,yv 43),(110,yv 42),(108,yv 40),(107,yv 39),(106,yv 38),(105,yv 37),(103,yv 35),(102,yv 34),(101,yv 33),(100,yv 32),(98,yv 30),(97,yv 29),(96,yv 28),(95,yv 27),(94,yv 26),(93,yv 25),(92,yv 24),(91,yv 23),(90,yv 22),(89,yv 21),(88,yv 20),(87,yv 19),(86,yv 18),(84,yv 16),(83,yv 15),(82,yv 14),(81,yv 13),(79,yv 11),(78,yv 10),(77,yv 9),(76,yv 8),(75,yv 7),(74,yv 6),(73,yv 5),(72,yv 4)],bv:=[(135,yw 67),(134,yw 66),(126,yw 58),(123,yw 55),(119,yw 51),(116,yw 48),(114,yw 46),(109,yw 41),(104,yw 36),(99,yw 31),(85,yw 17),(80,yw 12),(139,.lit false)],ct:=[(138,yu 70 59 7 yN 0),(137,yu 69 70 7 yN 0),(136,yu 68 49 5 yW 0),(122,yl 54 9 5 50 yW 0)],bk:=[(6,yc 3 7),(5,yc 2 7),(4,yc 1 5)]})
  (.ob (.inr .i64 (.div (.var 71) (.lit 9))) <|
   .call 0 {lo:=0,az:=0,iv:=[(1,.mod (.var 71) (.lit 9)),(0,.div (.var 71) (.lit 9))]} 72 <|
   .fin {lo:=72,az:=4,iv:=[(138,yv 70),(133,yv 65),(132,yv 64),(131,yv 63),(130,yv 62),(129,yv 61),(128,yv 60),(127,yv 59),(125,yv 57),(124,yv 56),(121,yv 53),(120,yv 52),(137,yv 69),(118,yv 50),(117,yv 49),(115,yv 71),(113,yv 45),(112,yv 44),(111,yv 43),(110,yv 42),(108,yv 40),(107,yv 39),(106,yv 38),(105,yv 37),(103,.lit 0),(102,.lit 0),(101,.lit 0),(100,.lit 0),(98,.lit 0),(97,.lit 0),(96,.lit 0),(95,.lit 0),(94,.add (.add (.lit 25) (.mul (.div (.var 71) (.lit 9)) (.lit 9))) (.mod (.var 71) (.lit 9))),(93,.lit 0),(92,.lit 0),(91,.lit 1),(90,.lit 13),(89,yv 21),(88,yv 20),(87,yv 19),(86,yv 18),(84,yv 16),(83,yv 15),(82,yv 14),(81,yv 13),(79,yv 11),(78,yv 10),(77,yv 9),(76,yv 8),(75,yv 7),(74,yv 6),(73,yv 5),(72,yv 4)],bv:=[(135,yw 67),(134,yw 66),(126,yw 58),(123,yw 55),(119,yw 51),(116,yw 48),(114,yw 46),(109,yw 41),(104,.lit false),(99,.lit false),(85,yw 17),(80,yw 12),(139,.lit true)],ct:=[(138,yu 70 59 7 yN 0),(137,yu 69 70 7 yN 0),(136,yu 68 49 5 yW 0),(122,yl 54 9 5 50 yW 0)],bk:=[(6,yc 3 7),(5,yc 2 7),(4,yc 1 5)]}))
 (.br (.aA (.var 2) (.var 71))
  (.fin {lo:=72,az:=4,iv:=[(138,yv 70),(133,yv 65),(132,yv 64),(131,yv 63),(130,yv 62),(129,yv 61),(128,yv 60),(127,yv 59),(125,yv 57),(124,yv 56),(121,yv 53),(120,yv 52),(137,yv 69),(118,yv 50),(117,yv 49),(115,yv 47),(113,yv 45),(112,yv 44),(111,yv 43),(110,yv 42),(108,yv 40),(107,yv 39),(106,yv 38),(105,yv 37),(103,yv 35),(102,yv 34),(101,yv 33),(100,yv 32),(98,yv 30),(97,yv 29),(96,yv 28),(95,yv 27),(94,yv 26),(93,yv 25),(92,yv 24),(91,yv 23),(90,yv 22),(89,yv 21),(88,yv 20),(87,yv 19),(86,yv 18),(84,yv 16),(83,yv 15),(82,yv 14),(81,yv 13),(79,yv 11),(78,yv 10),(77,yv 9),(76,yv 8),(75,yv 7),(74,yv 6),(73,yv 5),(72,yv 4)],bv:=[(135,yw 67),(134,yw 66),(126,yw 58),(123,yw 55),(119,yw 51),(116,yw 48),(114,yw 46),(109,yw 41),(104,yw 36),(99,yw 31),(85,yw 17),(80,yw 12),(139,.lit false)],ct:=[(138,yu 70 59 7 yN 0),(137,yu 69 70 7 yN 0),(136,yu 68 49 5 yW 0),(122,yl 54 9 5 50 yW 0)],bk:=[(6,yc 3 7),(5,yc 2 7),(4,yc 1 5)]})
  (.call 1 {lo:=0,az:=0,iv:=[(0,yv 71)]} 72 <|
   .fin {lo:=72,az:=4,iv:=[(138,yv 70),(133,yv 65),(132,yv 64),(131,yv 63),(130,yv 62),(129,yv 61),(128,yv 60),(127,yv 59),(125,yv 57),(124,yv 56),(121,yv 53),(120,yv 52),(137,yv 69),(118,yv 50),(117,yv 49),(115,yv 71),(113,yv 45),(112,yv 44),(111,yv 43),(110,yv 42),(108,yv 40),(107,yv 39),(106,yv 38),(105,yv 37),(103,.lit 0),(102,.lit 0),(101,.lit 0),(100,.lit 0),(98,.lit 0),(97,.lit 0),(96,.lit 0),(95,.lit 0),(94,.add (.lit 79) (.var 71)),(93,.lit 0),(92,.lit 0),(91,.lit 1),(90,.lit 13),(89,yv 21),(88,yv 20),(87,yv 19),(86,yv 18),(84,yv 16),(83,yv 15),(82,yv 14),(81,yv 13),(79,yv 11),(78,yv 10),(77,yv 9),(76,yv 8),(75,yv 7),(74,yv 6),(73,yv 5),(72,yv 4)],bv:=[(135,yw 67),(134,yw 66),(126,yw 58),(123,yw 55),(119,yw 51),(116,yw 48),(114,yw 46),(109,yw 41),(104,.lit false),(99,.lit false),(85,yw 17),(80,yw 12),(139,.lit true)],ct:=[(138,yu 70 59 7 yN 0),(137,yu 69 70 7 yN 0),(136,yu 68 49 5 yW 0),(122,yl 54 9 5 50 yW 0)],bk:=[(6,yc 3 7),(5,yc 2 7),(4,yc 1 5)]}))
theorem Qs:exec tab R5 8000 [] (fV iY.f iY.nv [] iY.gl iY.hp iY.args)=Ef:=by kernel_rfl
def rP (ρ:Env):Prop:=bJ ρ 4∧vF ρ∧0≤ρ.iv 71∧ρ.iv 71≤1000000
def sP (ρ:Env):Prop:=bJ ρ 72∧ρ.bv 139=((ae ρ 0 4).look (ρ.iv 71)).isSome∧ae ρ 0 72=((ae ρ 0 4).look (ρ.iv 71)).getD (ae ρ 0 4)
theorem Fu {r q:RS} {n:Int} (h:r.look n=some q):(r.look n).getD r=q:=by rw [h];rfl
theorem Fv {r:RS} {n:Int} (h:r.look n=none):(r.look n).getD r=r:=by rw [h];rfl
theorem Xb {n:Int} (h:0≤n):n.tdiv 9=n / 9∧n.tmod 9=n % 9:=⟨Int.tdiv_eq_ediv_of_nonneg h,Int.tmod_eq_emod_of_nonneg h⟩
theorem Qt (ρ:Env) (hpre:rP ρ.num):Sat sP yR [] ρ Ef:=by
 replace hpre:rP ρ:=hpre
 obtain ⟨⟨o1,o2,o3⟩,⟨s1,s2,s3,s4⟩,n1,n2⟩:=hpre
 unfold Ef
 refine Sat.br (fun c=>?_) (fun c=>?_)
 ·simp only [Da] at c
  have hk:(ae ρ 0 4).bf:=c
  refine Sat.ob (by simp only [Da];omega) (Sat.br (fun c2=>?_) (fun c2=>?_))
  ·simp only [Da] at c2
   have hm:(ae ρ 0 4).look (ρ.iv 71)=none:=by unfold RS.look;rw [if_pos hk];exact if_pos c2
   exact Sat.fin ⟨⟨(by first | exact o1 | exact o2 | exact o3 | exact aj rfl rfl | assumption),(by first | exact o2 | exact ⟨aj rfl rfl,Int.le_refl 0,.inl rfl⟩ | assumption),(by first | exact o1 | exact o2 | exact o3 | exact aj rfl rfl | assumption)⟩,(by show false=_;exact (congrArg Option.isSome hm).symm),Eq.trans (b:=(ae ρ 0 4)) (RS.ext' rfl rfl rfl rfl rfl rfl bg bB rfl rfl rfl rfl bE rfl bz rfl rfl) (Eq.symm (Fv hm))⟩
  ·simp only [Da] at c2
   have hm:(ae ρ 0 4).look (ρ.iv 71)=some (({ae ρ 0 4 with index:=ρ.iv 71}:RS).load 13 0 0 (25+ρ.iv 71)):=by unfold RS.look;rw [if_pos hk];exact if_neg (by show ¬ρ.iv 71≥ρ.iv 2 * 9;omega)
   obtain ⟨d1,d2⟩:=Xb n1
   refine Sat.ob (by simp only [Da];show _∧_;simp only [IE.den,d1];omega) (Sat.gX (c:=fZ) rfl ⟨⟨?_,?_⟩,?_,?_⟩ (fun q=>((bJ q 4)∧0≤q.iv 71)∧(ae q 0 4).look (q.iv 71)=some (({ae q 0 4 with index:=q.iv 71}:RS).load 13 0 0 (25+q.iv 71))) (fun e _=>⟨⟨⟨o1,o2,o3⟩,n1⟩,hm⟩) fun q hq=>?_)
   ·show 0≤(ρ.iv 71).tdiv 9;omega
   ·show (ρ.iv 71).tdiv 9<6;omega
   ·show 0≤(ρ.iv 71).tmod 9;omega
   ·show (ρ.iv 71).tmod 9<9;omega
   obtain ⟨⟨⟨o1,o2,o3⟩,n1⟩,hm⟩:=hq
   obtain ⟨d1,d2⟩:=Xb n1
   have e:25+(q.iv 71).tdiv 9 * 9+(q.iv 71).tmod 9=25+q.iv 71:=by omega
   exact Sat.fin ⟨⟨(by first | exact o1 | exact o2 | exact o3 | exact aj rfl rfl | assumption),(by first | exact o2 | exact ⟨aj rfl rfl,Int.le_refl 0,.inl rfl⟩ | assumption),(by first | exact o1 | exact o2 | exact o3 | exact aj rfl rfl | assumption)⟩,(by show true=_;exact (congrArg Option.isSome hm).symm),Eq.trans (b:=(({ae q 0 4 with index:=q.iv 71}:RS).load 13 0 0 (25+q.iv 71))) (RS.ext' rfl rfl (congrArg (fun x=>(⟨1,0,0,x,Wd.zero,Wd.zero⟩:Ac)) e) rfl rfl rfl bg bB rfl rfl rfl rfl bE rfl bz rfl rfl) (Eq.symm (Fu hm))⟩
 ·simp only [Da] at c
  have hk:¬(ae ρ 0 4).bf:=fun h:ρ.iv 0=2∨ρ.iv 0=3=>by omega
  refine Sat.br (fun c2=>?_) (fun c2=>?_)
  ·simp only [Da] at c2
   have hm:(ae ρ 0 4).look (ρ.iv 71)=none:=by unfold RS.look;rw [if_neg hk];exact if_pos c2
   exact Sat.fin ⟨⟨(by first | exact o1 | exact o2 | exact o3 | exact aj rfl rfl | assumption),(by first | exact o2 | exact ⟨aj rfl rfl,Int.le_refl 0,.inl rfl⟩ | assumption),(by first | exact o1 | exact o2 | exact o3 | exact aj rfl rfl | assumption)⟩,(by show false=_;exact (congrArg Option.isSome hm).symm),Eq.trans (b:=(ae ρ 0 4)) (RS.ext' rfl rfl rfl rfl rfl rfl bg bB rfl rfl rfl rfl bE rfl bz rfl rfl) (Eq.symm (Fv hm))⟩
  ·simp only [Da] at c2
   have hm:(ae ρ 0 4).look (ρ.iv 71)=some (({ae ρ 0 4 with index:=ρ.iv 71}:RS).load 13 0 0 (79+ρ.iv 71)):=by unfold RS.look;rw [if_neg hk];exact if_neg (by show ¬ρ.iv 71≥ρ.iv 2;omega)
   refine Sat.gX (c:=gL) rfl ⟨n1,?_⟩ (fun q=>((bJ q 4)∧0≤q.iv 71)∧(ae q 0 4).look (q.iv 71)=some (({ae q 0 4 with index:=q.iv 71}:RS).load 13 0 0 (79+q.iv 71))) (fun e _=>⟨⟨⟨o1,o2,o3⟩,n1⟩,hm⟩) fun q hq=>?_
   ·show ρ.iv 71<6;omega
   obtain ⟨⟨⟨o1,o2,o3⟩,n1⟩,hm⟩:=hq
   exact Sat.fin ⟨⟨(by first | exact o1 | exact o2 | exact o3 | exact aj rfl rfl | assumption),(by first | exact o2 | exact ⟨aj rfl rfl,Int.le_refl 0,.inl rfl⟩ | assumption),(by first | exact o1 | exact o2 | exact o3 | exact aj rfl rfl | assumption)⟩,(by show true=_;exact (congrArg Option.isSome hm).symm),Eq.trans (b:=(({ae q 0 4 with index:=q.iv 71}:RS).load 13 0 0 (79+q.iv 71))) (RS.ext' rfl rfl rfl rfl rfl rfl bg bB rfl rfl rfl rfl bE rfl bz rfl rfl) (Eq.symm (Fu hm))⟩
theorem IL:bC Tryd.prog iY rP sP :=
 dJ fu (E:=R5) (cs:=yR) rfl Ed di rfl Qs (by kernel_rfl) (fun ρ _ p hp=>by cases hp) Qt
end Go.Proofs.YthomdlajobnmnaaDoor
