/- part 12 of the proof -/
import Derived.Test.YthomdlajobnmnaaDoorV10
import Derived.Test.YthomdlajobnmnaaDoorV11
import Derived.Test.YthomdlajobnmnaaDoorV9
set_option linter.unusedSimpArgs false
set_option linter.unusedVariables false
namespace Go.Rex
theorem jL.alloc {w0 w:World} {W:Nat→Prop} (h:jL w0 W w) (o:Obj):jL w0 W (w.alloc o) :=
 h.step rfl rfl rfl (by simp) fun k hk _=>heap_alloc_old w _ (Nat.lt_of_lt_of_le hk h.size)
theorem jL.set {w0 w:World} {W:Nat→Prop} (h:jL w0 W w) {a:Addr} {v:Value} (ha:w0.heap.size≤a.block):jL w0 W (w.setCell a v):=by
 refine h.step rfl rfl rfl (by simp [World.setCell]) fun k hk _=>?_
 simp only [World.setCell]
 rw [Array.getElem?_modify]
 rw [if_neg (by omega)]
section
variable {H:Type} {enc:TypeId × Value→H} {P:Program} {W:World}
open Go.WideShapes Go.ChangeShapes Go.RowKit
end
section
variable {σ:Sub} {ρ ρ':Env} {N:Nat}
theorem iw (m k:Nat):(aJ σ m N ρ ρ').iv (m+k)=ρ'.iv (N+k):=by
 show (if m+k<m then (σ.af ρ).iv (m+k) else ρ'.iv (m+k-m+N))=_
 rw [if_neg (by omega),show m+k-m+N=N+k by omega]
theorem kE (m k:Nat):(aJ σ m N ρ ρ').bv (m+k)=ρ'.bv (N+k):=by
 show (if m+k<m then (σ.af ρ).bv (m+k) else ρ'.bv (m+k-m+N))=_
 rw [if_neg (by omega),show m+k-m+N=N+k by omega]
theorem tZ (m k:Nat):(aJ σ m N ρ ρ').ic (m+k)=ρ'.ic (N+k):=by
 show (if m+k<m then (σ.af ρ).ic (m+k) else ρ'.ic (m+k-m+N))=_
 rw [if_neg (by omega),show m+k-m+N=N+k by omega]
theorem wz (m k:Nat):(aJ σ m N ρ ρ').bc (m+k)=ρ'.bc (N+k):=by
 show (if m+k<m then (σ.af ρ).bc (m+k) else ρ'.bc (m+k-m+N))=_
 rw [if_neg (by omega),show m+k-m+N=N+k by omega]
end
end Go.Rex
namespace Go.Proofs.YthomdlajobnmnaaDoor
open Go.Rex
def dX (ρ:Env) (r:Nat) (n:Int):List Wd:=(List.range n.toNat).map fun i=>aG (ρ.ic r i 0) (ρ.bc r i 0)
def bO (ρ:Env) (r:Nat) (i:Nat):Nt:=⟨aG (ρ.ic r i 0) (ρ.bc r i 0),ρ.ic r i 0 5,ρ.ic r i 0 6⟩
def aU (ρ:Env) (r:Nat) (n:Int):List Nt:=(List.range n.toNat).map (bO ρ r)
def gX (ρ:Env) (r:Nat) (o n:Int):List Nt:=(List.range n.toNat).map fun i=>bO ρ r (o.toNat+i)
def iK (ρ:Env) (v:Nat):Ca:=⟨ρ.iv v,ρ.iv (v+1),ρ.iv (v+2),ρ.iv (v+3),av ρ (v+4),av ρ (v+9),ρ.iv (v+14),ρ.iv (v+15),ρ.iv (v+16),ρ.iv (v+17)⟩
def ae (ρ:Env) (s v:Nat):RS where
 call:=iK ρ v
 step:=ρ.iv (v+18)
 acc:=ay ρ (v+19)
 word:=av ρ (v+33)
 clock:=av ρ (v+38)
 index:=ρ.iv (v+43)
 seen:=dX ρ (v+64) (ρ.iv (v+45))
 bM:=gX ρ (v+65) (ρ.iv (v+65)) (ρ.iv (v+48))
 aj:=ρ.iv s
 me:=ρ.iv (s+1)
 threads:=ρ.iv (s+2)
 most:=ρ.iv (s+3)
 holds:=fun i=>aG (ρ.ic (v+50) i 0) (ρ.bc (v+50) i 0)
 span:=⟨ρ.bv (v+51),ρ.iv (v+52),ρ.iv (v+53)⟩
 notes:=aU ρ (v+66) (ρ.iv (v+55))
 freed:=ρ.iv (v+57)
 gW:=aL ρ (v+58)
def bJ (ρ:Env) (v:Nat):Prop:=bg ρ (v+44)∧(bg ρ (v+47)∧0≤ρ.iv (v+65)∧(ρ.iv (v+48)=0∨ρ.iv (v+65)+ρ.iv (v+48)≤ρ.iv (v+66)))∧bg ρ (v+54)
theorem RS.ext' {p q:RS} (h1:p.call=q.call) (h2:p.step=q.step) (h3:p.acc=q.acc) (h4:p.word=q.word) (h5:p.clock=q.clock) (h6:p.index=q.index) (h7:p.seen=q.seen) (h8:p.bM=q.bM) (h9:p.aj=q.aj) (h10:p.me=q.me) (h11:p.threads=q.threads) (h12:p.most=q.most)
  (JK:∀i,p.holds i=q.holds i) (h14:p.span=q.span) (Uj:p.notes=q.notes) (h16:p.freed=q.freed) (h17:p.gW=q.gW):p=q:=by
 cases p
 cases q
 simp only at *
 subst h1 h2 h3 h4 h5 h6 h7 h8 h9 h10 h11 h12 h14 Uj h16 h17
 obtain rfl:=funext JK
 rfl
theorem Em {ρ ρ':Env} {r r':Nat} {n n':Int} (hn:n=n') (h:∀i,aG (ρ.ic r i 0) (ρ.bc r i 0)=aG (ρ'.ic r' i 0) (ρ'.bc r' i 0)):dX ρ r n=dX ρ' r' n':=by
 subst hn
 unfold dX
 congr 1
 funext i
 exact h i
theorem gG {ρ ρ':Env} {r r':Nat} {n n':Int} (hn:n=n') (h:∀i,bO ρ r i=bO ρ' r' i):aU ρ r n=aU ρ' r' n':=by
 subst hn
 unfold aU
 congr 1
 funext i
 exact h i
theorem Gx {ρ:Env} {r:Nat} {n:Int} (hn:n=0):dX ρ r n=[]:=by subst hn;rfl
theorem uM {ρ:Env} {r:Nat} {n:Int} (hn:n=0):aU ρ r n=[]:=by subst hn;rfl
theorem xJ {ρ ρ':Env} {r r':Nat} {o o' n n':Int} (hn:n=n') (ho:o=o') (h:∀i,bO ρ r i=bO ρ' r' i):gX ρ r o n=gX ρ' r' o' n':=by
 subst hn ho
 unfold gX
 congr 1
 funext i
 exact h _
theorem oM {ρ:Env} {r:Nat} {o n:Int} (hn:n=0):gX ρ r o n=[]:=by subst hn;rfl
theorem bB {a b:List Wd} (h:a=b:=by first | exact Gx rfl | exact Em rfl fun i=>by simp [aG,-Int.pred_toNat,Sub.af,assoc,CV.I,CV.B,ah,ai,aa.I,aa.B,SC.I,SC.B,IE.den,BE.den] | assumption):a=b:=h
theorem bC {a b:List Nt} (h:a=b:=by first | exact uM rfl | exact gG rfl fun i=>by simp [bO,aG,-Int.pred_toNat,Sub.af,assoc,CV.I,CV.B,ah,ai,aa.I,aa.B,SC.I,SC.B,IE.den,BE.den] | assumption):a=b:=h
theorem bE {a b:List Nt} (h:a=b:=by first | exact oM rfl | exact xJ rfl rfl fun i=>by simp [bO,aG,-Int.pred_toNat,Sub.af,assoc,CV.I,CV.B,ah,ai,aa.I,aa.B,SC.I,SC.B,IE.den,BE.den] | assumption):a=b:=h
theorem bI {a b:Nat→Wd} (h:∀i,a i=b i:=by intro i;first | rfl | (simp [ae,aG,-Int.pred_toNat,Sub.af,assoc,CV.I,CV.B,ah,ai,aa.I,aa.B,SC.I,SC.B,IE.den,BE.den];done) | (simp [ae,aG,-Int.pred_toNat,Sub.af,assoc,CV.I,CV.B,ah,ai,aa.I,aa.B,SC.I,SC.B,IE.den,BE.den];rfl)):∀i,a i=b i:=h
theorem Nh {ρ:Env} {r:Nat} {n:Int}:gX ρ r 0 n=aU ρ r n:=by
 unfold gX aU
 congr 1
 funext i
 simp
theorem En {ρ:Env} {r:Nat} {o n:Int} (h0:0<n) (ho:0≤o):gX ρ r o n=bO ρ r o.toNat :: gX ρ r (o+1) (n-1):=by
 unfold gX
 rw [show n.toNat=(n-1).toNat+1 by omega,List.range_succ_eq_map,List.map_cons,List.map_map,Nat.add_zero]
 congr 1
 congr 1
 funext i
 simp only [Function.comp]
 congr 1
 omega
theorem ru {ρ:Env} {r:Nat} {n:Int}:(dX ρ r n).length=n.toNat:=by simp [dX]
theorem iT {ρ:Env} {r:Nat} {n:Int}:(aU ρ r n).length=n.toNat:=by simp [aU]
theorem Ni {ρ ρ':Env} {r r':Nat} {n n':Int} {w:Wd} (h0:0≤n) (hn:n'=n+1) (h:∀i:Nat,(i:Int)<n→aG (ρ'.ic r' i 0) (ρ'.bc r' i 0)=aG (ρ.ic r i 0) (ρ.bc r i 0)) (hw:aG (ρ'.ic r' n.toNat 0) (ρ'.bc r' n.toNat 0)=w) :
  dX ρ' r' n'=dX ρ r n ++ [w]:=by
 subst hn hw
 unfold dX
 rw [show (n+1).toNat=n.toNat+1 by omega,List.range_succ,List.map_append]
 congr 1
 exact List.map_congr_left fun i hi=>h i (by have:=List.mem_range.1 hi;omega)
theorem Nj {ρ ρ':Env} {r r':Nat} {n n':Int} {w:Nt} (h0:0≤n) (hn:n'=n+1) (h:∀i:Nat,(i:Int)<n→bO ρ' r' i=bO ρ r i) (hw:bO ρ' r' n.toNat=w) :
  aU ρ' r' n'=aU ρ r n ++ [w]:=by
 subst hn hw
 unfold aU
 rw [show (n+1).toNat=n.toNat+1 by omega,List.range_succ,List.map_append]
 congr 1
 exact List.map_congr_left fun i hi=>h i (by have:=List.mem_range.1 hi;omega)
theorem pJ {a b:Wd}:a=b↔a.slot=b.slot∧a.gen=b.gen∧a.tag=b.tag∧a.num=b.num∧a.mark=b.mark:=by
 cases a;cases b;simp
section
variable {σ:Sub} {ρ q:Env} {m d i:Nat}
theorem rX (h:i<m):(aJ σ m d ρ q).iv i=(σ.af ρ).iv i:=if_pos h
theorem Yv (h:i<m):(aJ σ m d ρ q).bv i=(σ.af ρ).bv i:=if_pos h
theorem Uk (h:i<m):(aJ σ m d ρ q).ic i=(σ.af ρ).ic i:=if_pos h
theorem Ul (h:i<m):(aJ σ m d ρ q).bc i=(σ.af ρ).bc i:=if_pos h
theorem Pj (h:i<m):bO (aJ σ m d ρ q) i=bO (σ.af ρ) i:=by
 funext k
 unfold bO
 rw [Uk h,Ul h]
theorem zI (k:Nat):bO (aJ σ m d ρ q) (m+k)=bO q (d+k):=by
 funext j
 unfold bO
 rw [tZ,wz]
theorem Ay (h:71≤m):ae (aJ σ m d ρ q) 0 4=ae (σ.af ρ) 0 4:=by
 unfold ae iK ay aL av dX aU gX
 simp (disch:=omega) only [Pj,rX,Yv,Uk,Ul]
theorem LA (h:71≤m) (hst:∀i,i<4→(σ.af ρ).iv i=q.iv i):ae (aJ σ m d ρ q) 0 m=ae q 0 d:=by
 have h0:=(rX (σ:=σ) (ρ:=ρ) (q:=q) (d:=d) (show 0<m by omega)).trans (hst 0 (by omega))
 have h1:=(rX (σ:=σ) (ρ:=ρ) (q:=q) (d:=d) (show 0+1<m by omega)).trans (hst 1 (by omega))
 have h2:=(rX (σ:=σ) (ρ:=ρ) (q:=q) (d:=d) (show 0+2<m by omega)).trans (hst 2 (by omega))
 have h3:=(rX (σ:=σ) (ρ:=ρ) (q:=q) (d:=d) (show 0+3<m by omega)).trans (hst 3 (by omega))
 have z0:=iw (σ:=σ) (ρ:=ρ) (ρ':=q) (N:=d) m 0
 have z1:=kE (σ:=σ) (ρ:=ρ) (ρ':=q) (N:=d) m 0
 rw [Nat.add_zero,Nat.add_zero] at z0 z1
 unfold ae iK ay aL av dX aU gX
 rw [h0,h1,h2,h3]
 simp only [zI,Nat.add_assoc,Nat.reduceAdd,iw,kE,tZ,wz,z0,z1]
theorem mJ (k:Nat):bg (aJ σ m d ρ q) (m+k)=bg q (d+k):=by
 unfold bg
 simp only [Nat.add_assoc,iw,kE]
theorem xK:bJ (aJ σ m d ρ q) m=bJ q d:=by
 unfold bJ
 rw [mJ,mJ,mJ,iw,iw,iw]
end
section
variable {post:Env→Prop} {cs:kM} {Γ:List (Env→Prop)} {ρ:Env}
theorem fu {g nv:Nat} {σ:Sub} {k:Out} {c:dZ} {pre YW:Env→Prop} (hg:cs[g]?=some (c,pre,YW)) (r:RS) (M:RS)
  (hm:71≤c.nv) (h4:4≤nv) (hst:∀i,i<4→(σ.af ρ).iv i=ρ.iv i) (hpre:pre (σ.af ρ)) (hr:ae (σ.af ρ) 0 4=r)
  (ZI:∀e:Env,YW (aJ σ c.nv nv ρ (ρ.join nv e))→ae (aJ σ c.nv nv ρ (ρ.join nv e)) 0 4=r→bJ (aJ σ c.nv nv ρ (ρ.join nv e)) c.nv∧ae (aJ σ c.nv nv ρ (ρ.join nv e)) 0 c.nv=M) (K:Env→Prop)
  (hK:∀e,bJ (ρ.join nv e) nv→ae (ρ.join nv e) 0 nv=M→K (ρ.join nv e)) (h:∀q,K q→Sat post cs Γ q k):Sat post cs Γ ρ (.call g σ nv k):=by
 refine Sat.iD hg hpre K (fun e hq=>?_) h
 have hs:∀i,i<4→(σ.af ρ).iv i=(ρ.join nv e).iv i:=fun i hi=>by
  rw [hst i hi]
  exact (if_pos (show i<nv by omega)).symm
 obtain ⟨a,b⟩:=ZI e hq ((Ay hm).trans hr)
 rw [xK] at a
 rw [LA hm hs] at b
 exact hK e a b
end
theorem ak {ρ:Env} {b:Nat} (h1:ρ.iv (b+1)=0) (h2:ρ.iv (b+2)=0):bg ρ b:=by
 refine ⟨fun _=>h1,?_,?_,?_⟩ <;> omega
end Go.Proofs.YthomdlajobnmnaaDoor
namespace Go.Proofs.YthomdlajobnmnaaDoor.Sv
open Go.Rex
structure vB where
 slot:Int
 gen:Int
 tag:Int
 num:Int
 mark:Bool
 aX:Int
 cO:Int
 deriving DecidableEq
def bD (ρ:Env) (r i:Nat):vB:=⟨ρ.ic r i 0 0,ρ.ic r i 0 1,ρ.ic r i 0 2,ρ.ic r i 0 3,ρ.bc r i 0 4,ρ.ic r i 0 5,ρ.ic r i 0 6⟩
def notes (ρ:Env) (b:Nat):List vB:=(List.range (ρ.iv (b+1)).toNat).map (bD ρ (b+3))
theorem uN {α:Type} {f g:Nat→α} {n:Nat} (h:∀i,i<n→f i=g i):(List.range n).map f=(List.range n).map g :=
 List.map_congr_left fun i hi=>h i (List.mem_range.1 hi)
theorem lu (ρ:Env) (b:Nat):(notes ρ b).length=(ρ.iv (b+1)).toNat:=by simp [notes]
theorem kF {ρ ρ':Env} {b b':Nat} {x:vB} (h0:0≤ρ.iv (b+1)) (h1:ρ'.iv (b'+1)=ρ.iv (b+1)+1) (h2:∀i,i<(ρ.iv (b+1)).toNat→bD ρ' (b'+3) i=bD ρ (b+3) i)
  (h3:bD ρ' (b'+3) (ρ.iv (b+1)).toNat=x):notes ρ' b'=notes ρ b ++ [x]:=by
 unfold notes
 rw [h1,show (ρ.iv (b+1)+1).toNat=(ρ.iv (b+1)).toNat+1 by omega,List.range_succ,List.map_append,uN h2,List.map_cons,List.map_nil,h3]
theorem fF {ρ ρ':Env} {b b':Nat} (h1:ρ'.iv (b'+1)=ρ.iv (b+1)) (h2:∀i,i<(ρ.iv (b+1)).toNat→bD ρ' (b'+3) i=bD ρ (b+3) i):notes ρ' b'=notes ρ b:=by
 unfold notes
 rw [h1,uN h2]
theorem rY {ρ:Env} {b:Nat} {i:Nat} (h:i<(ρ.iv (b+1)).toNat):(notes ρ b).take (i+1)=(notes ρ b).take i ++ [bD ρ (b+3) i]:=by
 have hl:i<(notes ρ b).length:=by rw [lu];exact h
 rw [List.take_succ_eq_append_getElem hl]
 simp [notes]
theorem rZ (ρ:Env) (b:Nat) {n:Nat} (h:(ρ.iv (b+1)).toNat≤n):(notes ρ b).take n=notes ρ b:=List.take_of_length_le (by rw [lu];exact h)
def lC (ρ:Env) (b:Nat):List Int:=(List.range (ρ.iv (b+1)).toNat).map fun j=>ρ.ic (b+3) j 0 0
def vC (ρ:Env) (b:Nat):List (Bool × Int × Int):=(List.range (ρ.iv (b+1)).toNat).map fun j=>(ρ.bc (b+3) j 0 0,ρ.ic (b+3) j 0 1,ρ.ic (b+3) j 0 2)
def qN (l:List Int) (n:vB):Bool:=l.any fun s=>decide (s=n.slot)
def nz (l:List Int) (n:vB):Bool:=l.any fun e=>decide ((0<e∧n.aX≤e)∧e≤n.cO)
def qO (l:List (Bool × Int × Int)) (n:vB):Bool:=l.any fun s=>decide ((s.1=true∧s.2.1≤n.cO)∧n.aX≤s.2.2)
def qP (now:Int) (n:vB):Bool:=decide (now < -9223372036854775806∨now-2<n.cO)
noncomputable def Pk:Ex:={sched:=sched,loops:=[Nf,Xk],fin:=lM}
def Cj:Out :=
 .ob (.or (.not (.var 0)) (.aC (.var 1) (.lit 0))) <|
 .ob (.aA (.lit 0) (.var 1)) <|
 .loop 8 {lo:=8,az:=3,iv:=[(16,.lit 0),(14,.lit 0),(13,.lit 0),(10,.lit 0),(9,.lit 0)],bv:=[(12,.lit true),(8,.lit true)],nb:=[4,3]} <|
 .br (.bT (.var 16) (.var 1))
 (.ob (.not (.var 0)) <|
  .ob (.aA (.lit 0) (.var 16)) <|
  .ob (.or (.not (.var 4)) (.aC (.var 5) (.lit 0))) <|
  .ob (.aA (.lit 0) (.var 5)) <|
  .loop 17 {lo:=17,az:=7,iv:=[(17,.lit 0)]} <|
  .br (.bT (.var 17) (.var 5))
  (.ob (.not (.var 4)) <|
   .ob (.aA (.lit 0) (.var 17)) <|
   .br (.aC (.cell 7 (.var 17) (.lit 0) 0) (.cell 3 (.var 16) (.lit 0) 0))
   (.ob (.aA (.mul (.add (.var 13) (.lit 1)) (.lit 56)) (.lit 140737488355328)) <|
    .ob (.aA (.lit 0) (.var 13)) <|
    .ob (.aA (.var 13) (.var 14)) <|
    .ob (.aA (.var 14) (.lit 9223372036854775807)) <|
    .ob (.or (.not (.var 12)) (.aC (.var 13) (.lit 0))) <|
    .new 18 [.be (.and (.aA (.add (.var 13) (.lit 1)) (.var 18)) (.aA (.var 18) (.lit 9223372036854775807)))] <|
    .ob (.inr .i64 (.add (.var 16) (.lit 1))) <|
    .back 1 {lo:=8,az:=3,iv:=[(16,.add (.var 16) (.lit 1)),(14,yv 18),(13,.add (.var 13) (.lit 1)),(10,yv 10),(9,yv 9)],bv:=[(12,.lit false),(8,yw 8)],ct:=[(15,.up {r:=15,n1:=.add (.var 13) (.lit 1),s1:=7,ks:=yN} 0 [⟨0,(.var 13),(.lit 0),0,.int .i64 (.cell 3 (.var 16) (.lit 0) 0)⟩,⟨0,(.var 13),(.lit 0),1,.int .i64 (.cell 3 (.var 16) (.lit 0) 1)⟩,⟨0,(.var 13),(.lit 0),2,.int .i64 (.cell 3 (.var 16) (.lit 0) 2)⟩,⟨0,(.var 13),(.lit 0),3,.int .i64 (.cell 3 (.var 16) (.lit 0) 3)⟩,⟨0,(.var 13),(.lit 0),4,.bool (.cell 3 (.var 16) (.lit 0) 4)⟩,⟨0,(.var 13),(.lit 0),5,.int .i64 (.cell 3 (.var 16) (.lit 0) 5)⟩,⟨0,(.var 13),(.lit 0),6,.int .i64 (.cell 3 (.var 16) (.lit 0) 6)⟩] (.lit 0)),(11,yu 11 9 7 yN 0)],bk:=[(4,yc 9 7),(3,yc 3 7)]})
   (.ob (.inr .i64 (.add (.var 17) (.lit 1))) <|
    .back 0 {lo:=17,az:=7,iv:=[(17,.add (.var 17) (.lit 1))]}))
  (.ob (.aA (.mul (.add (.var 9) (.lit 1)) (.lit 56)) (.lit 140737488355328)) <|
   .ob (.aA (.lit 0) (.var 9)) <|
   .ob (.aA (.var 9) (.var 10)) <|
   .ob (.aA (.var 10) (.lit 9223372036854775807)) <|
   .ob (.or (.not (.var 8)) (.aC (.var 9) (.lit 0))) <|
   .new 18 [.be (.and (.aA (.add (.var 9) (.lit 1)) (.var 18)) (.aA (.var 18) (.lit 9223372036854775807)))] <|
   .ob (.inr .i64 (.add (.var 16) (.lit 1))) <|
   .back 1 {lo:=8,az:=3,iv:=[(16,.add (.var 16) (.lit 1)),(14,yv 14),(13,yv 13),(10,yv 18),(9,.add (.var 9) (.lit 1))],bv:=[(12,yw 12),(8,.lit false)],ct:=[(15,yu 15 13 7 yN 0),(11,.up {r:=11,n1:=.add (.var 9) (.lit 1),s1:=7,ks:=yN} 0 [⟨0,(.var 9),(.lit 0),0,.int .i64 (.cell 3 (.var 16) (.lit 0) 0)⟩,⟨0,(.var 9),(.lit 0),1,.int .i64 (.cell 3 (.var 16) (.lit 0) 1)⟩,⟨0,(.var 9),(.lit 0),2,.int .i64 (.cell 3 (.var 16) (.lit 0) 2)⟩,⟨0,(.var 9),(.lit 0),3,.int .i64 (.cell 3 (.var 16) (.lit 0) 3)⟩,⟨0,(.var 9),(.lit 0),4,.bool (.cell 3 (.var 16) (.lit 0) 4)⟩,⟨0,(.var 9),(.lit 0),5,.int .i64 (.cell 3 (.var 16) (.lit 0) 5)⟩,⟨0,(.var 9),(.lit 0),6,.int .i64 (.cell 3 (.var 16) (.lit 0) 6)⟩] (.lit 0))],bk:=[(4,yc 4 7),(3,yc 8 7)]}))
 (.fin {lo:=8,az:=2,iv:=[(14,yv 14),(13,yv 13),(10,yv 10),(9,yv 9)],bv:=[(12,yw 12),(8,yw 8)],ct:=[(15,yu 15 13 7 yN 0),(11,yu 11 9 7 yN 0)],bk:=[(3,yc 4 7),(2,yc 3 7)]})
theorem Pm:exec tab Pk 4000 [] (fT lM.f 8 [] [] lM.hp lM.args)=Cj:=by kernel_rfl
def xL (ρ:Env) (i j:Nat):Prop:=ρ.ic 7 j 0 0=ρ.ic 3 i 0 0
def mK (ρ:Env):Prop:=bg ρ 0∧ρ.iv 1≤1000000∧bg ρ 4∧ρ.iv 5≤1000000
def Gy (ρ:Env):Prop:=bg ρ 8∧notes ρ 8=(notes ρ 0).filter (fun n=>!qN (lC ρ 4) n)∧bg ρ 12∧notes ρ 12=(notes ρ 0).filter (qN (lC ρ 4))
def uf (ρ:Env):Prop:=(0≤ρ.iv 16∧ρ.iv 16≤ρ.iv 1)∧(bg ρ 8∧notes ρ 8=((notes ρ 0).take (ρ.iv 16).toNat).filter (fun n=>!qN (lC ρ 4) n))∧bg ρ 12∧notes ρ 12=((notes ρ 0).take (ρ.iv 16).toNat).filter (qN (lC ρ 4))
def Fb (ρ:Env):Prop:=(0≤ρ.iv 17∧ρ.iv 17≤ρ.iv 5)∧∀j:Nat,(j:Int)<ρ.iv 17→¬xL ρ (ρ.iv 16).toNat j
def qB (ρ:Env):Prop:=mK ρ∧uf ρ∧ρ.iv 16<ρ.iv 1
theorem qB.lens {ρ:Env} (h:qB ρ):ρ.iv 9≤ρ.iv 16∧ρ.iv 13≤ρ.iv 16:=by
 obtain ⟨⟨a1,a5,b1,b5⟩,⟨⟨i1,i2⟩,⟨⟨o1,o2,o3,o4⟩,n1⟩,⟨⟨p1,p2,p3,p4⟩,n2⟩⟩,hlt⟩:=h
 have l1:(notes ρ 8).length≤(ρ.iv 16).toNat:=by
  rw [n1];refine Nat.le_trans (List.length_filter_le _ _) ?_;rw [List.length_take];omega
 have l2:(notes ρ 12).length≤(ρ.iv 16).toNat:=by
  rw [n2];refine Nat.le_trans (List.length_filter_le _ _) ?_;rw [List.length_take];omega
 rw [lu] at l1 l2
 simp only [Nat.reduceAdd] at *
 omega
theorem qB.take {ρ:Env} (h:qB ρ):(notes ρ 0).take (ρ.iv 16+1).toNat=(notes ρ 0).take (ρ.iv 16).toNat ++ [bD ρ 3 (ρ.iv 16).toNat]:=by
 obtain ⟨_,⟨⟨i1,i2⟩,_⟩,hlt⟩:=h
 rw [show (ρ.iv 16+1).toNat=(ρ.iv 16).toNat+1 by omega]
 exact rY (b:=0) (by simp only [Nat.zero_add];omega)
theorem Pn (ρ:Env) (hpre:mK ρ.num):Sat Gy [] [] ρ Cj:=by
 replace hpre:mK ρ:=hpre
 unfold Cj
 refine Sat.ob (aR hpre.1) (Sat.ob (decide_eq_true hpre.1.2.1) (Sat.loop uf (fun r=>(r.iv 1-r.iv 16).toNat) ?_ fun e hI=>Sat.br (fun hlt=>?_) (fun hge=>?_)))
 ·have h2:=hpre.1.2.1
  simp [uf,bg,notes,Sub.af,assoc,CV.I,CV.B,ah,ai,aa.I,aa.B,SC.I,SC.B,IE.den,BE.den,h2]
 ·replace hpre:mK (ρ.join 8 e):=hpre
  replace hI:uf (ρ.join 8 e):=hI
  replace hlt:(ρ.join 8 e).iv 16<(ρ.join 8 e).iv 1:=of_decide_eq_true hlt
  have hat:qB (ρ.join 8 e):=⟨hpre,hI,hlt⟩
  clear hpre hI hlt
  have hm:((ρ.join 8 e).num.iv 1-(ρ.join 8 e).num.iv 16).toNat=((ρ.join 8 e).iv 1-(ρ.join 8 e).iv 16).toNat:=rfl
  rw [hm]
  clear hm
  generalize ρ.join 8 e=r at *
  have hpre:=hat.1
  obtain ⟨⟨i1,i2⟩,-⟩:=hat.2.1
  have hlt:=hat.2.2
  obtain ⟨l1,l2⟩:=hat.lens
  refine Sat.ob ?_ (Sat.ob (decide_eq_true i1) (Sat.ob (aR hpre.2.2.1) (Sat.ob (decide_eq_true hpre.2.2.1.2.1) (Sat.loop Fb (fun r=>(r.iv 5-r.iv 17).toNat) ?_ fun e2 hI2=>Sat.br (fun hlt2=>?_) (fun zJ=>?_)))))
  ·simp only [D.le,D.gY,D.lt,D.gZ,D.eq,D.ib,D.not,D.eu,D.and,D.eB,D.or,D.ig,D.inr,D.var,D.lit,D.di,D.beq,D.eD,D.eF,D.eG,D.add,D.sub,D.mul,D.min,D.max,D.dm,D.bR,D.bS]
   cases h:r.bv 0
   ·rfl
   ·have:=hpre.1.1 h
    simp only [Nat.zero_add] at this
    omega
  ·refine ⟨⟨Int.le_refl 0,hpre.2.2.1.2.1⟩,fun j hj=>?_⟩
   have:(j:Int)<0:=hj
   omega
  ·replace hI2:Fb (r.join 17 e2):=hI2
   replace hat:qB (r.join 17 e2):=hat
   replace hlt2:(r.join 17 e2).iv 17<(r.join 17 e2).iv 5:=of_decide_eq_true hlt2
   rw [show (r.iv 1-r.iv 16).toNat=((r.join 17 e2).iv 1-(r.join 17 e2).iv 16).toNat from rfl]
   rw [show ((r.join 17 e2).num.iv 5-(r.join 17 e2).num.iv 17).toNat=((r.join 17 e2).iv 5-(r.join 17 e2).iv 17).toNat from rfl]
   clear hpre hlt l1 l2 i1 i2
   generalize r.join 17 e2=q at *
   have hpre:=hat.1
   obtain ⟨⟨i1,i2⟩,-⟩:=hat.2.1
   have hlt:=hat.2.2
   obtain ⟨l1,l2⟩:=hat.lens
   obtain ⟨⟨j1,j2⟩,j3⟩:=hI2
   refine Sat.ob ?_ (Sat.ob (decide_eq_true j1) (Sat.br (fun heq=>?_) (fun hne=>?_)))
   ·simp only [D.le,D.gY,D.lt,D.gZ,D.eq,D.ib,D.not,D.eu,D.and,D.eB,D.or,D.ig,D.inr,D.var,D.lit,D.di,D.beq,D.eD,D.eF,D.eG,D.add,D.sub,D.mul,D.min,D.max,D.dm,D.bR,D.bS]
    cases h:q.bv 4
    ·rfl
    ·have:=hpre.2.2.1.1 h
     simp only [Nat.reduceAdd] at this
     omega
   ·replace heq:xL q (q.iv 16).toNat (q.iv 17).toNat:=by simp only [D.le,D.gY,D.lt,D.gZ,D.eq,D.ib,D.not,D.eu,D.and,D.eB,D.or,D.ig,D.inr,D.var,D.lit,D.di,D.beq,D.eD,D.eF,D.eG,D.add,D.sub,D.mul,D.min,D.max,D.dm,D.bR,D.bS] at heq;exact heq
    have hk:qN (lC q 4) (bD q 3 (q.iv 16).toNat)=true:=by
     refine List.any_eq_true.2 ⟨_,List.mem_map.2 ⟨(q.iv 17).toNat,List.mem_range.2 (by simp only [Nat.reduceAdd];omega),rfl⟩,decide_eq_true heq⟩
    obtain ⟨⟨o1,o2,o3,o4⟩,n1⟩:=hat.2.1.2.1
    obtain ⟨⟨p1,p2,p3,p4⟩,n2⟩:=hat.2.1.2.2
    have htk:=hat.take
    obtain ⟨_,a5,_,b5⟩:=hpre
    simp only [Nat.reduceAdd] at *
    refine Sat.ob ?_ (Sat.ob (decide_eq_true p2) (Sat.ob (decide_eq_true p3) (Sat.ob (decide_eq_true p4) (Sat.ob (aR hat.2.1.2.2.1) (Sat.new fun e3 hf=>Sat.ob ?_ (Sat.back rfl ⟨?_,?_⟩))))))
    ·simp only [D.le,D.gY,D.lt,D.gZ,D.eq,D.ib,D.not,D.eu,D.and,D.eB,D.or,D.ig,D.inr,D.var,D.lit,D.di,D.beq,D.eD,D.eF,D.eG,D.add,D.sub,D.mul,D.min,D.max,D.dm,D.bR,D.bS];omega
    ·simp only [D.le,D.gY,D.lt,D.gZ,D.eq,D.ib,D.not,D.eu,D.and,D.eB,D.or,D.ig,D.inr,D.var,D.lit,D.di,D.beq,D.eD,D.eF,D.eG,D.add,D.sub,D.mul,D.min,D.max,D.dm,D.bR,D.bS];simp [Env.join];omega
    ·have hf:=hf _ (List.mem_singleton.2 rfl)
     simp only [D.be,D.le,D.gY,D.lt,D.gZ,D.eq,D.ib,D.not,D.eu,D.and,D.eB,D.or,D.ig,D.inr,D.var,D.lit,D.di,D.beq,D.eD,D.eF,D.eG,D.add,D.sub,D.mul,D.min,D.max,D.dm,D.bR,D.bS] at hf
     simp [Env.join] at hf
     refine ⟨⟨by simp [Sub.af,assoc,CV.I,CV.B,ah,ai,aa.I,aa.B,SC.I,SC.B,IE.den,BE.den,Env.join];omega,by simp [Sub.af,assoc,CV.I,CV.B,ah,ai,aa.I,aa.B,SC.I,SC.B,IE.den,BE.den,Env.join];omega⟩,⟨⟨o1,o2,o3,o4⟩,?_⟩,⟨?_,?_⟩⟩
     ·refine Eq.trans (b:=notes q 8) (by exact fF rfl fun i _=>by simp [bD,Sub.af,assoc,CV.I,CV.B,ah,ai,aa.I,aa.B,SC.I,SC.B,IE.den,BE.den,Env.join]) ?_
      show notes q 8=((notes q 0).take (q.iv 16+1).toNat).filter (fun n=>!qN (lC q 4) n)
      rw [htk,List.filter_append,n1]
      simp [hk]
     ·simp [bg,Sub.af,assoc,CV.I,CV.B,ah,ai,aa.I,aa.B,SC.I,SC.B,IE.den,BE.den,Env.join]
      omega
     ·refine (kF (ρ:=q) (b:=12) (x:=bD q 3 (q.iv 16).toNat) p2 rfl (fun i hi=>?_) ?_).trans ?_
      ·have:¬(q.iv 13).toNat=i:=by simp only [Nat.reduceAdd] at hi;omega
       simp [bD,Sub.af,assoc,CV.I,CV.B,ah,ai,aa.I,aa.B,SC.I,SC.B,IE.den,BE.den,Env.join,this]
      ·simp [bD,Sub.af,assoc,CV.I,CV.B,ah,ai,aa.I,aa.B,SC.I,SC.B,IE.den,BE.den,Env.join]
      ·show notes q 12 ++ _=((notes q 0).take (q.iv 16+1).toNat).filter (qN (lC q 4))
       rw [htk,List.filter_append,n2]
       simp [hk]
    ·show (q.iv 1-(q.iv 16+1)).toNat<(q.iv 1-q.iv 16).toNat
     omega
   ·replace hne:¬xL q (q.iv 16).toNat (q.iv 17).toNat:=fun h=>by
     exact Bool.false_ne_true (hne.symm.trans (by simp only [D.le,D.gY,D.lt,D.gZ,D.eq,D.ib,D.not,D.eu,D.and,D.eB,D.or,D.ig,D.inr,D.var,D.lit,D.di,D.beq,D.eD,D.eF,D.eG,D.add,D.sub,D.mul,D.min,D.max,D.dm,D.bR,D.bS];exact h))
    refine Sat.ob ?_ (Sat.back rfl ⟨⟨⟨?_,?_⟩,fun j hj=>?_⟩,?_⟩)
    ·simp only [D.le,D.gY,D.lt,D.gZ,D.eq,D.ib,D.not,D.eu,D.and,D.eB,D.or,D.ig,D.inr,D.var,D.lit,D.di,D.beq,D.eD,D.eF,D.eG,D.add,D.sub,D.mul,D.min,D.max,D.dm,D.bR,D.bS];have:=hpre.2.2.2;omega
    ·show 0≤q.iv 17+1;omega
    ·show q.iv 17+1≤q.iv 5;omega
    ·replace hj:(j:Int)<q.iv 17+1:=hj
     show ¬xL q (q.iv 16).toNat j
     by_cases h:j=(q.iv 17).toNat
     ·subst h;exact hne
     ·exact j3 j (by omega)
    ·show (q.iv 5-(q.iv 17+1)).toNat<(q.iv 5-q.iv 17).toNat
     omega
  ·replace hI2:Fb (r.join 17 e2):=hI2
   replace hat:qB (r.join 17 e2):=hat
   replace zJ:¬(r.join 17 e2).iv 17<(r.join 17 e2).iv 5:=of_decide_eq_false zJ
   rw [show (r.iv 1-r.iv 16).toNat=((r.join 17 e2).iv 1-(r.join 17 e2).iv 16).toNat from rfl]
   clear hpre hlt l1 l2 i1 i2
   generalize r.join 17 e2=q at *
   have hpre:=hat.1
   obtain ⟨⟨i1,i2⟩,-⟩:=hat.2.1
   have hlt:=hat.2.2
   obtain ⟨l1,l2⟩:=hat.lens
   obtain ⟨⟨j1,j2⟩,j3⟩:=hI2
   have hk:qN (lC q 4) (bD q 3 (q.iv 16).toNat)=false:=by
    refine List.any_eq_false.2 fun x hx=>?_
    obtain ⟨j,hj,rfl⟩:=List.mem_map.1 hx
    have hj:=List.mem_range.1 hj
    simp only [Nat.reduceAdd] at hj
    exact ne_true_of_eq_false (decide_eq_false (j3 j (by omega)))
   obtain ⟨⟨o1,o2,o3,o4⟩,n1⟩:=hat.2.1.2.1
   obtain ⟨⟨p1,p2,p3,p4⟩,n2⟩:=hat.2.1.2.2
   have htk:=hat.take
   obtain ⟨_,a5,_,b5⟩:=hpre
   simp only [Nat.reduceAdd] at *
   refine Sat.ob ?_ (Sat.ob (decide_eq_true o2) (Sat.ob (decide_eq_true o3) (Sat.ob (decide_eq_true o4) (Sat.ob (aR hat.2.1.2.1.1) (Sat.new fun e3 hf=>Sat.ob ?_ (Sat.back rfl ⟨?_,?_⟩))))))
   ·simp only [D.le,D.gY,D.lt,D.gZ,D.eq,D.ib,D.not,D.eu,D.and,D.eB,D.or,D.ig,D.inr,D.var,D.lit,D.di,D.beq,D.eD,D.eF,D.eG,D.add,D.sub,D.mul,D.min,D.max,D.dm,D.bR,D.bS];omega
   ·simp only [D.le,D.gY,D.lt,D.gZ,D.eq,D.ib,D.not,D.eu,D.and,D.eB,D.or,D.ig,D.inr,D.var,D.lit,D.di,D.beq,D.eD,D.eF,D.eG,D.add,D.sub,D.mul,D.min,D.max,D.dm,D.bR,D.bS];simp [Env.join];omega
   ·have hf:=hf _ (List.mem_singleton.2 rfl)
    simp only [D.be,D.le,D.gY,D.lt,D.gZ,D.eq,D.ib,D.not,D.eu,D.and,D.eB,D.or,D.ig,D.inr,D.var,D.lit,D.di,D.beq,D.eD,D.eF,D.eG,D.add,D.sub,D.mul,D.min,D.max,D.dm,D.bR,D.bS] at hf
    simp [Env.join] at hf
    refine ⟨⟨by simp [Sub.af,assoc,CV.I,CV.B,ah,ai,aa.I,aa.B,SC.I,SC.B,IE.den,BE.den,Env.join];omega,by simp [Sub.af,assoc,CV.I,CV.B,ah,ai,aa.I,aa.B,SC.I,SC.B,IE.den,BE.den,Env.join];omega⟩,⟨?_,?_⟩,⟨⟨p1,p2,p3,p4⟩,?_⟩⟩
    ·simp [bg,Sub.af,assoc,CV.I,CV.B,ah,ai,aa.I,aa.B,SC.I,SC.B,IE.den,BE.den,Env.join]
     omega
    ·refine (kF (ρ:=q) (b:=8) (x:=bD q 3 (q.iv 16).toNat) o2 rfl (fun i hi=>?_) ?_).trans ?_
     ·have:¬(q.iv 9).toNat=i:=by simp only [Nat.reduceAdd] at hi;omega
      simp [bD,Sub.af,assoc,CV.I,CV.B,ah,ai,aa.I,aa.B,SC.I,SC.B,IE.den,BE.den,Env.join,this]
     ·simp [bD,Sub.af,assoc,CV.I,CV.B,ah,ai,aa.I,aa.B,SC.I,SC.B,IE.den,BE.den,Env.join]
     ·show notes q 8 ++ _=((notes q 0).take (q.iv 16+1).toNat).filter (fun n=>!qN (lC q 4) n)
      rw [htk,List.filter_append,n1]
      simp [hk]
    ·refine Eq.trans (b:=notes q 12) (by exact fF rfl fun i _=>by simp [bD,Sub.af,assoc,CV.I,CV.B,ah,ai,aa.I,aa.B,SC.I,SC.B,IE.den,BE.den,Env.join]) ?_
     show notes q 12=((notes q 0).take (q.iv 16+1).toNat).filter (qN (lC q 4))
     rw [htk,List.filter_append,n2]
     simp [hk]
   ·show (q.iv 1-(q.iv 16+1)).toNat<(q.iv 1-q.iv 16).toNat
    omega
 ·replace hpre:mK (ρ.join 8 e):=hpre
  replace hI:uf (ρ.join 8 e):=hI
  replace hge:¬(ρ.join 8 e).iv 16<(ρ.join 8 e).iv 1:=of_decide_eq_false hge
  generalize ρ.join 8 e=q at *
  obtain ⟨⟨i1,i2⟩,⟨o,n1⟩,⟨p,n2⟩⟩:=hI
  rw [rZ _ _ (by simp only [Nat.zero_add];omega)] at n1 n2
  refine Sat.fin ⟨o,?_,p,?_⟩
  ·exact Eq.trans (b:=notes q 8) (by exact fF rfl fun i _=>by simp [bD,Sub.af,assoc,CV.I,CV.B,ah,ai,aa.I,aa.B,SC.I,SC.B,IE.den,BE.den,Env.join]) n1
  ·exact Eq.trans (b:=notes q 12) (by exact fF rfl fun i _=>by simp [bD,Sub.af,assoc,CV.I,CV.B,ah,ai,aa.I,aa.B,SC.I,SC.B,IE.den,BE.den,Env.join]) n2
theorem Po:bF Tryd.prog lM mK Gy :=
 dH eQ (E:=Pk) (cs:=[]) rfl (fun k pre post h=>by cases h) cK rfl Pm (by kernel_rfl) (fun ρ _ p hp=>by cases hp) Pn
noncomputable def Um:Ex:={sched:=sched,loops:=[Nf,Yr],fin:=ni}
def Fe:Out :=
 .ob (.or (.not (.var 0)) (.aC (.var 1) (.lit 0))) <|
 .ob (.aA (.lit 0) (.var 1)) <|
 .loop 8 {lo:=8,az:=3,iv:=[(16,.lit 0),(14,.lit 0),(13,.lit 0),(10,.lit 0),(9,.lit 0)],bv:=[(12,.lit true),(8,.lit true)],nb:=[4,3]} <|
 .br (.bT (.var 16) (.var 1))
 (.ob (.not (.var 0)) <|
  .ob (.aA (.lit 0) (.var 16)) <|
  .ob (.or (.not (.var 4)) (.aC (.var 5) (.lit 0))) <|
  .ob (.aA (.lit 0) (.var 5)) <|
  .loop 17 {lo:=17,az:=7,iv:=[(17,.lit 0)]} <|
  .br (.bT (.var 17) (.var 5))
  (.ob (.not (.var 4)) <|
   .ob (.aA (.lit 0) (.var 17)) <|
   .br (.and (.and (.bT (.lit 0) (.cell 7 (.var 17) (.lit 0) 0)) (.aA (.cell 3 (.var 16) (.lit 0) 5) (.cell 7 (.var 17) (.lit 0) 0))) (.aA (.cell 7 (.var 17) (.lit 0) 0) (.cell 3 (.var 16) (.lit 0) 6)))
   (.ob (.aA (.mul (.add (.var 13) (.lit 1)) (.lit 56)) (.lit 140737488355328)) <|
    .ob (.aA (.lit 0) (.var 13)) <|
    .ob (.aA (.var 13) (.var 14)) <|
    .ob (.aA (.var 14) (.lit 9223372036854775807)) <|
    .ob (.or (.not (.var 12)) (.aC (.var 13) (.lit 0))) <|
    .new 18 [.be (.and (.aA (.add (.var 13) (.lit 1)) (.var 18)) (.aA (.var 18) (.lit 9223372036854775807)))] <|
    .ob (.inr .i64 (.add (.var 16) (.lit 1))) <|
    .back 1 {lo:=8,az:=3,iv:=[(16,.add (.var 16) (.lit 1)),(14,yv 18),(13,.add (.var 13) (.lit 1)),(10,yv 10),(9,yv 9)],bv:=[(12,.lit false),(8,yw 8)],ct:=[(15,.up {r:=15,n1:=.add (.var 13) (.lit 1),s1:=7,ks:=yN} 0 [⟨0,(.var 13),(.lit 0),0,.int .i64 (.cell 3 (.var 16) (.lit 0) 0)⟩,⟨0,(.var 13),(.lit 0),1,.int .i64 (.cell 3 (.var 16) (.lit 0) 1)⟩,⟨0,(.var 13),(.lit 0),2,.int .i64 (.cell 3 (.var 16) (.lit 0) 2)⟩,⟨0,(.var 13),(.lit 0),3,.int .i64 (.cell 3 (.var 16) (.lit 0) 3)⟩,⟨0,(.var 13),(.lit 0),4,.bool (.cell 3 (.var 16) (.lit 0) 4)⟩,⟨0,(.var 13),(.lit 0),5,.int .i64 (.cell 3 (.var 16) (.lit 0) 5)⟩,⟨0,(.var 13),(.lit 0),6,.int .i64 (.cell 3 (.var 16) (.lit 0) 6)⟩] (.lit 0)),(11,yu 11 9 7 yN 0)],bk:=[(4,yc 8 7),(3,yc 3 7)]})
   (.ob (.inr .i64 (.add (.var 17) (.lit 1))) <|
    .back 0 {lo:=17,az:=7,iv:=[(17,.add (.var 17) (.lit 1))]}))
  (.ob (.aA (.mul (.add (.var 9) (.lit 1)) (.lit 56)) (.lit 140737488355328)) <|
   .ob (.aA (.lit 0) (.var 9)) <|
   .ob (.aA (.var 9) (.var 10)) <|
   .ob (.aA (.var 10) (.lit 9223372036854775807)) <|
   .ob (.or (.not (.var 8)) (.aC (.var 9) (.lit 0))) <|
   .new 18 [.be (.and (.aA (.add (.var 9) (.lit 1)) (.var 18)) (.aA (.var 18) (.lit 9223372036854775807)))] <|
   .ob (.inr .i64 (.add (.var 16) (.lit 1))) <|
   .back 1 {lo:=8,az:=3,iv:=[(16,.add (.var 16) (.lit 1)),(14,yv 14),(13,yv 13),(10,yv 18),(9,.add (.var 9) (.lit 1))],bv:=[(12,yw 12),(8,.lit false)],ct:=[(15,yu 15 13 7 yN 0),(11,.up {r:=11,n1:=.add (.var 9) (.lit 1),s1:=7,ks:=yN} 0 [⟨0,(.var 9),(.lit 0),0,.int .i64 (.cell 3 (.var 16) (.lit 0) 0)⟩,⟨0,(.var 9),(.lit 0),1,.int .i64 (.cell 3 (.var 16) (.lit 0) 1)⟩,⟨0,(.var 9),(.lit 0),2,.int .i64 (.cell 3 (.var 16) (.lit 0) 2)⟩,⟨0,(.var 9),(.lit 0),3,.int .i64 (.cell 3 (.var 16) (.lit 0) 3)⟩,⟨0,(.var 9),(.lit 0),4,.bool (.cell 3 (.var 16) (.lit 0) 4)⟩,⟨0,(.var 9),(.lit 0),5,.int .i64 (.cell 3 (.var 16) (.lit 0) 5)⟩,⟨0,(.var 9),(.lit 0),6,.int .i64 (.cell 3 (.var 16) (.lit 0) 6)⟩] (.lit 0))],bk:=[(4,yc 4 7),(3,yc 8 7)]}))
 (.fin {lo:=8,az:=2,iv:=[(14,yv 14),(13,yv 13),(10,yv 10),(9,yv 9)],bv:=[(12,yw 12),(8,yw 8)],ct:=[(15,yu 15 13 7 yN 0),(11,yu 11 9 7 yN 0)],bk:=[(3,yc 4 7),(2,yc 3 7)]})
theorem RH:exec tab Um 4000 [] (fT ni.f 8 [] [] ni.hp ni.args)=Fe:=by kernel_rfl
def Az (ρ:Env) (i j:Nat):Prop:=(0<ρ.ic 7 j 0 0∧ρ.ic 3 i 0 5≤ρ.ic 7 j 0 0)∧ρ.ic 7 j 0 0≤ρ.ic 3 i 0 6
def oN (ρ:Env):Prop:=bg ρ 0∧ρ.iv 1≤1000000∧bg ρ 4∧ρ.iv 5≤1000000
def JL (ρ:Env):Prop:=bg ρ 8∧notes ρ 8=(notes ρ 0).filter (fun n=>!nz (lC ρ 4) n)∧bg ρ 12∧notes ρ 12=(notes ρ 0).filter (nz (lC ρ 4))
def wB (ρ:Env):Prop:=(0≤ρ.iv 16∧ρ.iv 16≤ρ.iv 1)∧(bg ρ 8∧notes ρ 8=((notes ρ 0).take (ρ.iv 16).toNat).filter (fun n=>!nz (lC ρ 4) n))∧bg ρ 12∧notes ρ 12=((notes ρ 0).take (ρ.iv 16).toNat).filter (nz (lC ρ 4))
def JM (ρ:Env):Prop:=(0≤ρ.iv 17∧ρ.iv 17≤ρ.iv 5)∧∀j:Nat,(j:Int)<ρ.iv 17→¬Az ρ (ρ.iv 16).toNat j
def ug (ρ:Env):Prop:=oN ρ∧wB ρ∧ρ.iv 16<ρ.iv 1
theorem ug.lens {ρ:Env} (h:ug ρ):ρ.iv 9≤ρ.iv 16∧ρ.iv 13≤ρ.iv 16:=by
 obtain ⟨⟨a1,a5,b1,b5⟩,⟨⟨i1,i2⟩,⟨⟨o1,o2,o3,o4⟩,n1⟩,⟨⟨p1,p2,p3,p4⟩,n2⟩⟩,hlt⟩:=h
 have l1:(notes ρ 8).length≤(ρ.iv 16).toNat:=by
  rw [n1];refine Nat.le_trans (List.length_filter_le _ _) ?_;rw [List.length_take];omega
 have l2:(notes ρ 12).length≤(ρ.iv 16).toNat:=by
  rw [n2];refine Nat.le_trans (List.length_filter_le _ _) ?_;rw [List.length_take];omega
 rw [lu] at l1 l2
 simp only [Nat.reduceAdd] at *
 omega
theorem ug.take {ρ:Env} (h:ug ρ):(notes ρ 0).take (ρ.iv 16+1).toNat=(notes ρ 0).take (ρ.iv 16).toNat ++ [bD ρ 3 (ρ.iv 16).toNat]:=by
 obtain ⟨_,⟨⟨i1,i2⟩,_⟩,hlt⟩:=h
 rw [show (ρ.iv 16+1).toNat=(ρ.iv 16).toNat+1 by omega]
 exact rY (b:=0) (by simp only [Nat.zero_add];omega)
theorem RI (ρ:Env) (hpre:oN ρ.num):Sat JL [] [] ρ Fe:=by
 replace hpre:oN ρ:=hpre
 unfold Fe
 refine Sat.ob (aR hpre.1) (Sat.ob (decide_eq_true hpre.1.2.1) (Sat.loop wB (fun r=>(r.iv 1-r.iv 16).toNat) ?_ fun e hI=>Sat.br (fun hlt=>?_) (fun hge=>?_)))
 ·have h2:=hpre.1.2.1
  simp [wB,bg,notes,Sub.af,assoc,CV.I,CV.B,ah,ai,aa.I,aa.B,SC.I,SC.B,IE.den,BE.den,h2]
 ·replace hpre:oN (ρ.join 8 e):=hpre
  replace hI:wB (ρ.join 8 e):=hI
  replace hlt:(ρ.join 8 e).iv 16<(ρ.join 8 e).iv 1:=of_decide_eq_true hlt
  have hat:ug (ρ.join 8 e):=⟨hpre,hI,hlt⟩
  clear hpre hI hlt
  have hm:((ρ.join 8 e).num.iv 1-(ρ.join 8 e).num.iv 16).toNat=((ρ.join 8 e).iv 1-(ρ.join 8 e).iv 16).toNat:=rfl
  rw [hm]
  clear hm
  generalize ρ.join 8 e=r at *
  have hpre:=hat.1
  obtain ⟨⟨i1,i2⟩,-⟩:=hat.2.1
  have hlt:=hat.2.2
  obtain ⟨l1,l2⟩:=hat.lens
  refine Sat.ob ?_ (Sat.ob (decide_eq_true i1) (Sat.ob (aR hpre.2.2.1) (Sat.ob (decide_eq_true hpre.2.2.1.2.1) (Sat.loop JM (fun r=>(r.iv 5-r.iv 17).toNat) ?_ fun e2 hI2=>Sat.br (fun hlt2=>?_) (fun zJ=>?_)))))
  ·simp only [D.le,D.gY,D.lt,D.gZ,D.eq,D.ib,D.not,D.eu,D.and,D.eB,D.or,D.ig,D.inr,D.var,D.lit,D.di,D.beq,D.eD,D.eF,D.eG,D.add,D.sub,D.mul,D.min,D.max,D.dm,D.bR,D.bS]
   cases h:r.bv 0
   ·rfl
   ·have:=hpre.1.1 h
    simp only [Nat.zero_add] at this
    omega
  ·refine ⟨⟨Int.le_refl 0,hpre.2.2.1.2.1⟩,fun j hj=>?_⟩
   have:(j:Int)<0:=hj
   omega
  ·replace hI2:JM (r.join 17 e2):=hI2
   replace hat:ug (r.join 17 e2):=hat
   replace hlt2:(r.join 17 e2).iv 17<(r.join 17 e2).iv 5:=of_decide_eq_true hlt2
   rw [show (r.iv 1-r.iv 16).toNat=((r.join 17 e2).iv 1-(r.join 17 e2).iv 16).toNat from rfl]
   rw [show ((r.join 17 e2).num.iv 5-(r.join 17 e2).num.iv 17).toNat=((r.join 17 e2).iv 5-(r.join 17 e2).iv 17).toNat from rfl]
   clear hpre hlt l1 l2 i1 i2
   generalize r.join 17 e2=q at *
   have hpre:=hat.1
   obtain ⟨⟨i1,i2⟩,-⟩:=hat.2.1
   have hlt:=hat.2.2
   obtain ⟨l1,l2⟩:=hat.lens
   obtain ⟨⟨j1,j2⟩,j3⟩:=hI2
   refine Sat.ob ?_ (Sat.ob (decide_eq_true j1) (Sat.br (fun heq=>?_) (fun hne=>?_)))
   ·simp only [D.le,D.gY,D.lt,D.gZ,D.eq,D.ib,D.not,D.eu,D.and,D.eB,D.or,D.ig,D.inr,D.var,D.lit,D.di,D.beq,D.eD,D.eF,D.eG,D.add,D.sub,D.mul,D.min,D.max,D.dm,D.bR,D.bS]
    cases h:q.bv 4
    ·rfl
    ·have:=hpre.2.2.1.1 h
     simp only [Nat.reduceAdd] at this
     omega
   ·replace heq:Az q (q.iv 16).toNat (q.iv 17).toNat:=by simp only [D.le,D.gY,D.lt,D.gZ,D.eq,D.ib,D.not,D.eu,D.and,D.eB,D.or,D.ig,D.inr,D.var,D.lit,D.di,D.beq,D.eD,D.eF,D.eG,D.add,D.sub,D.mul,D.min,D.max,D.dm,D.bR,D.bS] at heq;exact heq
    have hk:nz (lC q 4) (bD q 3 (q.iv 16).toNat)=true:=by
     refine List.any_eq_true.2 ⟨_,List.mem_map.2 ⟨(q.iv 17).toNat,List.mem_range.2 (by simp only [Nat.reduceAdd];omega),rfl⟩,decide_eq_true heq⟩
    obtain ⟨⟨o1,o2,o3,o4⟩,n1⟩:=hat.2.1.2.1
    obtain ⟨⟨p1,p2,p3,p4⟩,n2⟩:=hat.2.1.2.2
    have htk:=hat.take
    obtain ⟨_,a5,_,b5⟩:=hpre
    simp only [Nat.reduceAdd] at *
    refine Sat.ob ?_ (Sat.ob (decide_eq_true p2) (Sat.ob (decide_eq_true p3) (Sat.ob (decide_eq_true p4) (Sat.ob (aR hat.2.1.2.2.1) (Sat.new fun e3 hf=>Sat.ob ?_ (Sat.back rfl ⟨?_,?_⟩))))))
    ·simp only [D.le,D.gY,D.lt,D.gZ,D.eq,D.ib,D.not,D.eu,D.and,D.eB,D.or,D.ig,D.inr,D.var,D.lit,D.di,D.beq,D.eD,D.eF,D.eG,D.add,D.sub,D.mul,D.min,D.max,D.dm,D.bR,D.bS];omega
    ·simp only [D.le,D.gY,D.lt,D.gZ,D.eq,D.ib,D.not,D.eu,D.and,D.eB,D.or,D.ig,D.inr,D.var,D.lit,D.di,D.beq,D.eD,D.eF,D.eG,D.add,D.sub,D.mul,D.min,D.max,D.dm,D.bR,D.bS];simp [Env.join];omega
    ·have hf:=hf _ (List.mem_singleton.2 rfl)
     simp only [D.be,D.le,D.gY,D.lt,D.gZ,D.eq,D.ib,D.not,D.eu,D.and,D.eB,D.or,D.ig,D.inr,D.var,D.lit,D.di,D.beq,D.eD,D.eF,D.eG,D.add,D.sub,D.mul,D.min,D.max,D.dm,D.bR,D.bS] at hf
     simp [Env.join] at hf
     refine ⟨⟨by simp [Sub.af,assoc,CV.I,CV.B,ah,ai,aa.I,aa.B,SC.I,SC.B,IE.den,BE.den,Env.join];omega,by simp [Sub.af,assoc,CV.I,CV.B,ah,ai,aa.I,aa.B,SC.I,SC.B,IE.den,BE.den,Env.join];omega⟩,⟨⟨o1,o2,o3,o4⟩,?_⟩,⟨?_,?_⟩⟩
     ·refine Eq.trans (b:=notes q 8) (by exact fF rfl fun i _=>by simp [bD,Sub.af,assoc,CV.I,CV.B,ah,ai,aa.I,aa.B,SC.I,SC.B,IE.den,BE.den,Env.join]) ?_
      show notes q 8=((notes q 0).take (q.iv 16+1).toNat).filter (fun n=>!nz (lC q 4) n)
      rw [htk,List.filter_append,n1]
      simp [hk]
     ·simp [bg,Sub.af,assoc,CV.I,CV.B,ah,ai,aa.I,aa.B,SC.I,SC.B,IE.den,BE.den,Env.join]
      omega
     ·refine (kF (ρ:=q) (b:=12) (x:=bD q 3 (q.iv 16).toNat) p2 rfl (fun i hi=>?_) ?_).trans ?_
      ·have:¬(q.iv 13).toNat=i:=by simp only [Nat.reduceAdd] at hi;omega
       simp [bD,Sub.af,assoc,CV.I,CV.B,ah,ai,aa.I,aa.B,SC.I,SC.B,IE.den,BE.den,Env.join,this]
      ·simp [bD,Sub.af,assoc,CV.I,CV.B,ah,ai,aa.I,aa.B,SC.I,SC.B,IE.den,BE.den,Env.join]
      ·show notes q 12 ++ _=((notes q 0).take (q.iv 16+1).toNat).filter (nz (lC q 4))
       rw [htk,List.filter_append,n2]
       simp [hk]
    ·show (q.iv 1-(q.iv 16+1)).toNat<(q.iv 1-q.iv 16).toNat
     omega
   ·replace hne:¬Az q (q.iv 16).toNat (q.iv 17).toNat:=fun h=>by
     exact Bool.false_ne_true (hne.symm.trans (by simp only [D.le,D.gY,D.lt,D.gZ,D.eq,D.ib,D.not,D.eu,D.and,D.eB,D.or,D.ig,D.inr,D.var,D.lit,D.di,D.beq,D.eD,D.eF,D.eG,D.add,D.sub,D.mul,D.min,D.max,D.dm,D.bR,D.bS];exact h))
    refine Sat.ob ?_ (Sat.back rfl ⟨⟨⟨?_,?_⟩,fun j hj=>?_⟩,?_⟩)
    ·simp only [D.le,D.gY,D.lt,D.gZ,D.eq,D.ib,D.not,D.eu,D.and,D.eB,D.or,D.ig,D.inr,D.var,D.lit,D.di,D.beq,D.eD,D.eF,D.eG,D.add,D.sub,D.mul,D.min,D.max,D.dm,D.bR,D.bS];have:=hpre.2.2.2;omega
    ·show 0≤q.iv 17+1;omega
    ·show q.iv 17+1≤q.iv 5;omega
    ·replace hj:(j:Int)<q.iv 17+1:=hj
     show ¬Az q (q.iv 16).toNat j
     by_cases h:j=(q.iv 17).toNat
     ·subst h;exact hne
     ·exact j3 j (by omega)
    ·show (q.iv 5-(q.iv 17+1)).toNat<(q.iv 5-q.iv 17).toNat
     omega
  ·replace hI2:JM (r.join 17 e2):=hI2
   replace hat:ug (r.join 17 e2):=hat
   replace zJ:¬(r.join 17 e2).iv 17<(r.join 17 e2).iv 5:=of_decide_eq_false zJ
   rw [show (r.iv 1-r.iv 16).toNat=((r.join 17 e2).iv 1-(r.join 17 e2).iv 16).toNat from rfl]
   clear hpre hlt l1 l2 i1 i2
   generalize r.join 17 e2=q at *
   have hpre:=hat.1
   obtain ⟨⟨i1,i2⟩,-⟩:=hat.2.1
   have hlt:=hat.2.2
   obtain ⟨l1,l2⟩:=hat.lens
   obtain ⟨⟨j1,j2⟩,j3⟩:=hI2
   have hk:nz (lC q 4) (bD q 3 (q.iv 16).toNat)=false:=by
    refine List.any_eq_false.2 fun x hx=>?_
    obtain ⟨j,hj,rfl⟩:=List.mem_map.1 hx
    have hj:=List.mem_range.1 hj
    simp only [Nat.reduceAdd] at hj
    exact ne_true_of_eq_false (decide_eq_false (j3 j (by omega)))
   obtain ⟨⟨o1,o2,o3,o4⟩,n1⟩:=hat.2.1.2.1
   obtain ⟨⟨p1,p2,p3,p4⟩,n2⟩:=hat.2.1.2.2
   have htk:=hat.take
   obtain ⟨_,a5,_,b5⟩:=hpre
   simp only [Nat.reduceAdd] at *
   refine Sat.ob ?_ (Sat.ob (decide_eq_true o2) (Sat.ob (decide_eq_true o3) (Sat.ob (decide_eq_true o4) (Sat.ob (aR hat.2.1.2.1.1) (Sat.new fun e3 hf=>Sat.ob ?_ (Sat.back rfl ⟨?_,?_⟩))))))
   ·simp only [D.le,D.gY,D.lt,D.gZ,D.eq,D.ib,D.not,D.eu,D.and,D.eB,D.or,D.ig,D.inr,D.var,D.lit,D.di,D.beq,D.eD,D.eF,D.eG,D.add,D.sub,D.mul,D.min,D.max,D.dm,D.bR,D.bS];omega
   ·simp only [D.le,D.gY,D.lt,D.gZ,D.eq,D.ib,D.not,D.eu,D.and,D.eB,D.or,D.ig,D.inr,D.var,D.lit,D.di,D.beq,D.eD,D.eF,D.eG,D.add,D.sub,D.mul,D.min,D.max,D.dm,D.bR,D.bS];simp [Env.join];omega
   ·have hf:=hf _ (List.mem_singleton.2 rfl)
    simp only [D.be,D.le,D.gY,D.lt,D.gZ,D.eq,D.ib,D.not,D.eu,D.and,D.eB,D.or,D.ig,D.inr,D.var,D.lit,D.di,D.beq,D.eD,D.eF,D.eG,D.add,D.sub,D.mul,D.min,D.max,D.dm,D.bR,D.bS] at hf
    simp [Env.join] at hf
    refine ⟨⟨by simp [Sub.af,assoc,CV.I,CV.B,ah,ai,aa.I,aa.B,SC.I,SC.B,IE.den,BE.den,Env.join];omega,by simp [Sub.af,assoc,CV.I,CV.B,ah,ai,aa.I,aa.B,SC.I,SC.B,IE.den,BE.den,Env.join];omega⟩,⟨?_,?_⟩,⟨⟨p1,p2,p3,p4⟩,?_⟩⟩
    ·simp [bg,Sub.af,assoc,CV.I,CV.B,ah,ai,aa.I,aa.B,SC.I,SC.B,IE.den,BE.den,Env.join]
     omega
    ·refine (kF (ρ:=q) (b:=8) (x:=bD q 3 (q.iv 16).toNat) o2 rfl (fun i hi=>?_) ?_).trans ?_
     ·have:¬(q.iv 9).toNat=i:=by simp only [Nat.reduceAdd] at hi;omega
      simp [bD,Sub.af,assoc,CV.I,CV.B,ah,ai,aa.I,aa.B,SC.I,SC.B,IE.den,BE.den,Env.join,this]
     ·simp [bD,Sub.af,assoc,CV.I,CV.B,ah,ai,aa.I,aa.B,SC.I,SC.B,IE.den,BE.den,Env.join]
     ·show notes q 8 ++ _=((notes q 0).take (q.iv 16+1).toNat).filter (fun n=>!nz (lC q 4) n)
      rw [htk,List.filter_append,n1]
      simp [hk]
    ·refine Eq.trans (b:=notes q 12) (by exact fF rfl fun i _=>by simp [bD,Sub.af,assoc,CV.I,CV.B,ah,ai,aa.I,aa.B,SC.I,SC.B,IE.den,BE.den,Env.join]) ?_
     show notes q 12=((notes q 0).take (q.iv 16+1).toNat).filter (nz (lC q 4))
     rw [htk,List.filter_append,n2]
     simp [hk]
   ·show (q.iv 1-(q.iv 16+1)).toNat<(q.iv 1-q.iv 16).toNat
    omega
 ·replace hpre:oN (ρ.join 8 e):=hpre
  replace hI:wB (ρ.join 8 e):=hI
  replace hge:¬(ρ.join 8 e).iv 16<(ρ.join 8 e).iv 1:=of_decide_eq_false hge
  generalize ρ.join 8 e=q at *
  obtain ⟨⟨i1,i2⟩,⟨o,n1⟩,⟨p,n2⟩⟩:=hI
  rw [rZ _ _ (by simp only [Nat.zero_add];omega)] at n1 n2
  refine Sat.fin ⟨o,?_,p,?_⟩
  ·exact Eq.trans (b:=notes q 8) (by exact fF rfl fun i _=>by simp [bD,Sub.af,assoc,CV.I,CV.B,ah,ai,aa.I,aa.B,SC.I,SC.B,IE.den,BE.den,Env.join]) n1
  ·exact Eq.trans (b:=notes q 12) (by exact fF rfl fun i _=>by simp [bD,Sub.af,assoc,CV.I,CV.B,ah,ai,aa.I,aa.B,SC.I,SC.B,IE.den,BE.den,Env.join]) n2
theorem RJ:bF Tryd.prog ni oN JL :=
 dH eQ (E:=Um) (cs:=[]) rfl (fun k pre post h=>by cases h) cK rfl RH (by kernel_rfl) (fun ρ _ p hp=>by cases hp) RI
noncomputable def Pp:Ex:={sched:=sched,loops:=[Nf,Ve],fin:=lN}
def Ck:Out :=
 .ob (.or (.not (.var 0)) (.aC (.var 1) (.lit 0))) <|
 .ob (.aA (.lit 0) (.var 1)) <|
 .loop 8 {lo:=8,az:=3,iv:=[(16,.lit 0),(14,.lit 0),(13,.lit 0),(10,.lit 0),(9,.lit 0)],bv:=[(12,.lit true),(8,.lit true)],nb:=[4,3]} <|
 .br (.bT (.var 16) (.var 1))
 (.ob (.not (.var 0)) <|
  .ob (.aA (.lit 0) (.var 16)) <|
  .ob (.or (.not (.var 4)) (.aC (.var 5) (.lit 0))) <|
  .ob (.aA (.lit 0) (.var 5)) <|
  .loop 17 {lo:=17,az:=7,iv:=[(17,.lit 0)]} <|
  .br (.bT (.var 17) (.var 5))
  (.ob (.not (.var 4)) <|
   .ob (.aA (.lit 0) (.var 17)) <|
   .br (.and (.and (.cell 7 (.var 17) (.lit 0) 0) (.aA (.cell 7 (.var 17) (.lit 0) 1) (.cell 3 (.var 16) (.lit 0) 6))) (.aA (.cell 3 (.var 16) (.lit 0) 5) (.cell 7 (.var 17) (.lit 0) 2)))
   (.ob (.aA (.mul (.add (.var 13) (.lit 1)) (.lit 56)) (.lit 140737488355328)) <|
    .ob (.aA (.lit 0) (.var 13)) <|
    .ob (.aA (.var 13) (.var 14)) <|
    .ob (.aA (.var 14) (.lit 9223372036854775807)) <|
    .ob (.or (.not (.var 12)) (.aC (.var 13) (.lit 0))) <|
    .new 18 [.be (.and (.aA (.add (.var 13) (.lit 1)) (.var 18)) (.aA (.var 18) (.lit 9223372036854775807)))] <|
    .ob (.inr .i64 (.add (.var 16) (.lit 1))) <|
    .back 1 {lo:=8,az:=3,iv:=[(16,.add (.var 16) (.lit 1)),(14,yv 18),(13,.add (.var 13) (.lit 1)),(10,yv 10),(9,yv 9)],bv:=[(12,.lit false),(8,yw 8)],ct:=[(15,.up {r:=15,n1:=.add (.var 13) (.lit 1),s1:=7,ks:=yN} 0 [⟨0,(.var 13),(.lit 0),0,.int .i64 (.cell 3 (.var 16) (.lit 0) 0)⟩,⟨0,(.var 13),(.lit 0),1,.int .i64 (.cell 3 (.var 16) (.lit 0) 1)⟩,⟨0,(.var 13),(.lit 0),2,.int .i64 (.cell 3 (.var 16) (.lit 0) 2)⟩,⟨0,(.var 13),(.lit 0),3,.int .i64 (.cell 3 (.var 16) (.lit 0) 3)⟩,⟨0,(.var 13),(.lit 0),4,.bool (.cell 3 (.var 16) (.lit 0) 4)⟩,⟨0,(.var 13),(.lit 0),5,.int .i64 (.cell 3 (.var 16) (.lit 0) 5)⟩,⟨0,(.var 13),(.lit 0),6,.int .i64 (.cell 3 (.var 16) (.lit 0) 6)⟩] (.lit 0)),(11,yu 11 9 7 yN 0)],bk:=[(4,yc 9 7),(3,yc 3 7)]})
   (.ob (.inr .i64 (.add (.var 17) (.lit 1))) <|
    .back 0 {lo:=17,az:=7,iv:=[(17,.add (.var 17) (.lit 1))]}))
  (.ob (.aA (.mul (.add (.var 9) (.lit 1)) (.lit 56)) (.lit 140737488355328)) <|
   .ob (.aA (.lit 0) (.var 9)) <|
   .ob (.aA (.var 9) (.var 10)) <|
   .ob (.aA (.var 10) (.lit 9223372036854775807)) <|
   .ob (.or (.not (.var 8)) (.aC (.var 9) (.lit 0))) <|
   .new 18 [.be (.and (.aA (.add (.var 9) (.lit 1)) (.var 18)) (.aA (.var 18) (.lit 9223372036854775807)))] <|
   .ob (.inr .i64 (.add (.var 16) (.lit 1))) <|
   .back 1 {lo:=8,az:=3,iv:=[(16,.add (.var 16) (.lit 1)),(14,yv 14),(13,yv 13),(10,yv 18),(9,.add (.var 9) (.lit 1))],bv:=[(12,yw 12),(8,.lit false)],ct:=[(15,yu 15 13 7 yN 0),(11,.up {r:=11,n1:=.add (.var 9) (.lit 1),s1:=7,ks:=yN} 0 [⟨0,(.var 9),(.lit 0),0,.int .i64 (.cell 3 (.var 16) (.lit 0) 0)⟩,⟨0,(.var 9),(.lit 0),1,.int .i64 (.cell 3 (.var 16) (.lit 0) 1)⟩,⟨0,(.var 9),(.lit 0),2,.int .i64 (.cell 3 (.var 16) (.lit 0) 2)⟩,⟨0,(.var 9),(.lit 0),3,.int .i64 (.cell 3 (.var 16) (.lit 0) 3)⟩,⟨0,(.var 9),(.lit 0),4,.bool (.cell 3 (.var 16) (.lit 0) 4)⟩,⟨0,(.var 9),(.lit 0),5,.int .i64 (.cell 3 (.var 16) (.lit 0) 5)⟩,⟨0,(.var 9),(.lit 0),6,.int .i64 (.cell 3 (.var 16) (.lit 0) 6)⟩] (.lit 0))],bk:=[(4,yc 4 7),(3,yc 8 7)]}))
 (.fin {lo:=8,az:=2,iv:=[(14,yv 14),(13,yv 13),(10,yv 10),(9,yv 9)],bv:=[(12,yw 12),(8,yw 8)],ct:=[(15,yu 15 13 7 yN 0),(11,yu 11 9 7 yN 0)],bk:=[(3,yc 4 7),(2,yc 3 7)]})
theorem Pq:exec tab Pp 4000 [] (fT lN.f 8 [] [] lN.hp lN.args)=Ck:=by kernel_rfl
def xM (ρ:Env) (i j:Nat):Prop:=(ρ.bc 7 j 0 0=true∧ρ.ic 7 j 0 1≤ρ.ic 3 i 0 6)∧ρ.ic 3 i 0 5≤ρ.ic 7 j 0 2
def mM (ρ:Env):Prop:=bg ρ 0∧ρ.iv 1≤1000000∧bg ρ 4∧ρ.iv 5≤1000000
def Gz (ρ:Env):Prop:=bg ρ 8∧notes ρ 8=(notes ρ 0).filter (fun n=>!qO (vC ρ 4) n)∧bg ρ 12∧notes ρ 12=(notes ρ 0).filter (qO (vC ρ 4))
def uh (ρ:Env):Prop:=(0≤ρ.iv 16∧ρ.iv 16≤ρ.iv 1)∧(bg ρ 8∧notes ρ 8=((notes ρ 0).take (ρ.iv 16).toNat).filter (fun n=>!qO (vC ρ 4) n))∧bg ρ 12∧notes ρ 12=((notes ρ 0).take (ρ.iv 16).toNat).filter (qO (vC ρ 4))
def Ff (ρ:Env):Prop:=(0≤ρ.iv 17∧ρ.iv 17≤ρ.iv 5)∧∀j:Nat,(j:Int)<ρ.iv 17→¬xM ρ (ρ.iv 16).toNat j
def qC (ρ:Env):Prop:=mM ρ∧uh ρ∧ρ.iv 16<ρ.iv 1
theorem qC.lens {ρ:Env} (h:qC ρ):ρ.iv 9≤ρ.iv 16∧ρ.iv 13≤ρ.iv 16:=by
 obtain ⟨⟨a1,a5,b1,b5⟩,⟨⟨i1,i2⟩,⟨⟨o1,o2,o3,o4⟩,n1⟩,⟨⟨p1,p2,p3,p4⟩,n2⟩⟩,hlt⟩:=h
 have l1:(notes ρ 8).length≤(ρ.iv 16).toNat:=by
  rw [n1];refine Nat.le_trans (List.length_filter_le _ _) ?_;rw [List.length_take];omega
 have l2:(notes ρ 12).length≤(ρ.iv 16).toNat:=by
  rw [n2];refine Nat.le_trans (List.length_filter_le _ _) ?_;rw [List.length_take];omega
 rw [lu] at l1 l2
 simp only [Nat.reduceAdd] at *
 omega
theorem qC.take {ρ:Env} (h:qC ρ):(notes ρ 0).take (ρ.iv 16+1).toNat=(notes ρ 0).take (ρ.iv 16).toNat ++ [bD ρ 3 (ρ.iv 16).toNat]:=by
 obtain ⟨_,⟨⟨i1,i2⟩,_⟩,hlt⟩:=h
 rw [show (ρ.iv 16+1).toNat=(ρ.iv 16).toNat+1 by omega]
 exact rY (b:=0) (by simp only [Nat.zero_add];omega)
theorem Ps (ρ:Env) (hpre:mM ρ.num):Sat Gz [] [] ρ Ck:=by
 replace hpre:mM ρ:=hpre
 unfold Ck
 refine Sat.ob (aR hpre.1) (Sat.ob (decide_eq_true hpre.1.2.1) (Sat.loop uh (fun r=>(r.iv 1-r.iv 16).toNat) ?_ fun e hI=>Sat.br (fun hlt=>?_) (fun hge=>?_)))
 ·have h2:=hpre.1.2.1
  simp [uh,bg,notes,Sub.af,assoc,CV.I,CV.B,ah,ai,aa.I,aa.B,SC.I,SC.B,IE.den,BE.den,h2]
 ·replace hpre:mM (ρ.join 8 e):=hpre
  replace hI:uh (ρ.join 8 e):=hI
  replace hlt:(ρ.join 8 e).iv 16<(ρ.join 8 e).iv 1:=of_decide_eq_true hlt
  have hat:qC (ρ.join 8 e):=⟨hpre,hI,hlt⟩
  clear hpre hI hlt
  have hm:((ρ.join 8 e).num.iv 1-(ρ.join 8 e).num.iv 16).toNat=((ρ.join 8 e).iv 1-(ρ.join 8 e).iv 16).toNat:=rfl
  rw [hm]
  clear hm
  generalize ρ.join 8 e=r at *
  have hpre:=hat.1
  obtain ⟨⟨i1,i2⟩,-⟩:=hat.2.1
  have hlt:=hat.2.2
  obtain ⟨l1,l2⟩:=hat.lens
  refine Sat.ob ?_ (Sat.ob (decide_eq_true i1) (Sat.ob (aR hpre.2.2.1) (Sat.ob (decide_eq_true hpre.2.2.1.2.1) (Sat.loop Ff (fun r=>(r.iv 5-r.iv 17).toNat) ?_ fun e2 hI2=>Sat.br (fun hlt2=>?_) (fun zJ=>?_)))))
  ·simp only [D.le,D.gY,D.lt,D.gZ,D.eq,D.ib,D.not,D.eu,D.and,D.eB,D.or,D.ig,D.inr,D.var,D.lit,D.di,D.beq,D.eD,D.eF,D.eG,D.add,D.sub,D.mul,D.min,D.max,D.dm,D.bR,D.bS]
   cases h:r.bv 0
   ·rfl
   ·have:=hpre.1.1 h
    simp only [Nat.zero_add] at this
    omega
  ·refine ⟨⟨Int.le_refl 0,hpre.2.2.1.2.1⟩,fun j hj=>?_⟩
   have:(j:Int)<0:=hj
   omega
  ·replace hI2:Ff (r.join 17 e2):=hI2
   replace hat:qC (r.join 17 e2):=hat
   replace hlt2:(r.join 17 e2).iv 17<(r.join 17 e2).iv 5:=of_decide_eq_true hlt2
   rw [show (r.iv 1-r.iv 16).toNat=((r.join 17 e2).iv 1-(r.join 17 e2).iv 16).toNat from rfl]
   rw [show ((r.join 17 e2).num.iv 5-(r.join 17 e2).num.iv 17).toNat=((r.join 17 e2).iv 5-(r.join 17 e2).iv 17).toNat from rfl]
   clear hpre hlt l1 l2 i1 i2
   generalize r.join 17 e2=q at *
   have hpre:=hat.1
   obtain ⟨⟨i1,i2⟩,-⟩:=hat.2.1
   have hlt:=hat.2.2
   obtain ⟨l1,l2⟩:=hat.lens
   obtain ⟨⟨j1,j2⟩,j3⟩:=hI2
   refine Sat.ob ?_ (Sat.ob (decide_eq_true j1) (Sat.br (fun heq=>?_) (fun hne=>?_)))
   ·simp only [D.le,D.gY,D.lt,D.gZ,D.eq,D.ib,D.not,D.eu,D.and,D.eB,D.or,D.ig,D.inr,D.var,D.lit,D.di,D.beq,D.eD,D.eF,D.eG,D.add,D.sub,D.mul,D.min,D.max,D.dm,D.bR,D.bS]
    cases h:q.bv 4
    ·rfl
    ·have:=hpre.2.2.1.1 h
     simp only [Nat.reduceAdd] at this
     omega
   ·replace heq:xM q (q.iv 16).toNat (q.iv 17).toNat:=by simp only [D.le,D.gY,D.lt,D.gZ,D.eq,D.ib,D.not,D.eu,D.and,D.eB,D.or,D.ig,D.inr,D.var,D.lit,D.di,D.beq,D.eD,D.eF,D.eG,D.add,D.sub,D.mul,D.min,D.max,D.dm,D.bR,D.bS] at heq;exact heq
    have hk:qO (vC q 4) (bD q 3 (q.iv 16).toNat)=true:=by
     refine List.any_eq_true.2 ⟨_,List.mem_map.2 ⟨(q.iv 17).toNat,List.mem_range.2 (by simp only [Nat.reduceAdd];omega),rfl⟩,decide_eq_true heq⟩
    obtain ⟨⟨o1,o2,o3,o4⟩,n1⟩:=hat.2.1.2.1
    obtain ⟨⟨p1,p2,p3,p4⟩,n2⟩:=hat.2.1.2.2
    have htk:=hat.take
    obtain ⟨_,a5,_,b5⟩:=hpre
    simp only [Nat.reduceAdd] at *
    refine Sat.ob ?_ (Sat.ob (decide_eq_true p2) (Sat.ob (decide_eq_true p3) (Sat.ob (decide_eq_true p4) (Sat.ob (aR hat.2.1.2.2.1) (Sat.new fun e3 hf=>Sat.ob ?_ (Sat.back rfl ⟨?_,?_⟩))))))
    ·simp only [D.le,D.gY,D.lt,D.gZ,D.eq,D.ib,D.not,D.eu,D.and,D.eB,D.or,D.ig,D.inr,D.var,D.lit,D.di,D.beq,D.eD,D.eF,D.eG,D.add,D.sub,D.mul,D.min,D.max,D.dm,D.bR,D.bS];omega
    ·simp only [D.le,D.gY,D.lt,D.gZ,D.eq,D.ib,D.not,D.eu,D.and,D.eB,D.or,D.ig,D.inr,D.var,D.lit,D.di,D.beq,D.eD,D.eF,D.eG,D.add,D.sub,D.mul,D.min,D.max,D.dm,D.bR,D.bS];simp [Env.join];omega
    ·have hf:=hf _ (List.mem_singleton.2 rfl)
     simp only [D.be,D.le,D.gY,D.lt,D.gZ,D.eq,D.ib,D.not,D.eu,D.and,D.eB,D.or,D.ig,D.inr,D.var,D.lit,D.di,D.beq,D.eD,D.eF,D.eG,D.add,D.sub,D.mul,D.min,D.max,D.dm,D.bR,D.bS] at hf
     simp [Env.join] at hf
     refine ⟨⟨by simp [Sub.af,assoc,CV.I,CV.B,ah,ai,aa.I,aa.B,SC.I,SC.B,IE.den,BE.den,Env.join];omega,by simp [Sub.af,assoc,CV.I,CV.B,ah,ai,aa.I,aa.B,SC.I,SC.B,IE.den,BE.den,Env.join];omega⟩,⟨⟨o1,o2,o3,o4⟩,?_⟩,⟨?_,?_⟩⟩
     ·refine Eq.trans (b:=notes q 8) (by exact fF rfl fun i _=>by simp [bD,Sub.af,assoc,CV.I,CV.B,ah,ai,aa.I,aa.B,SC.I,SC.B,IE.den,BE.den,Env.join]) ?_
      show notes q 8=((notes q 0).take (q.iv 16+1).toNat).filter (fun n=>!qO (vC q 4) n)
      rw [htk,List.filter_append,n1]
      simp [hk]
     ·simp [bg,Sub.af,assoc,CV.I,CV.B,ah,ai,aa.I,aa.B,SC.I,SC.B,IE.den,BE.den,Env.join]
      omega
     ·refine (kF (ρ:=q) (b:=12) (x:=bD q 3 (q.iv 16).toNat) p2 rfl (fun i hi=>?_) ?_).trans ?_
      ·have:¬(q.iv 13).toNat=i:=by simp only [Nat.reduceAdd] at hi;omega
       simp [bD,Sub.af,assoc,CV.I,CV.B,ah,ai,aa.I,aa.B,SC.I,SC.B,IE.den,BE.den,Env.join,this]
      ·simp [bD,Sub.af,assoc,CV.I,CV.B,ah,ai,aa.I,aa.B,SC.I,SC.B,IE.den,BE.den,Env.join]
      ·show notes q 12 ++ _=((notes q 0).take (q.iv 16+1).toNat).filter (qO (vC q 4))
       rw [htk,List.filter_append,n2]
       simp [hk]
    ·show (q.iv 1-(q.iv 16+1)).toNat<(q.iv 1-q.iv 16).toNat
     omega
   ·replace hne:¬xM q (q.iv 16).toNat (q.iv 17).toNat:=fun h=>by
     exact Bool.false_ne_true (hne.symm.trans (by simp only [D.le,D.gY,D.lt,D.gZ,D.eq,D.ib,D.not,D.eu,D.and,D.eB,D.or,D.ig,D.inr,D.var,D.lit,D.di,D.beq,D.eD,D.eF,D.eG,D.add,D.sub,D.mul,D.min,D.max,D.dm,D.bR,D.bS];exact h))
    refine Sat.ob ?_ (Sat.back rfl ⟨⟨⟨?_,?_⟩,fun j hj=>?_⟩,?_⟩)
    ·simp only [D.le,D.gY,D.lt,D.gZ,D.eq,D.ib,D.not,D.eu,D.and,D.eB,D.or,D.ig,D.inr,D.var,D.lit,D.di,D.beq,D.eD,D.eF,D.eG,D.add,D.sub,D.mul,D.min,D.max,D.dm,D.bR,D.bS];have:=hpre.2.2.2;omega
    ·show 0≤q.iv 17+1;omega
    ·show q.iv 17+1≤q.iv 5;omega
    ·replace hj:(j:Int)<q.iv 17+1:=hj
     show ¬xM q (q.iv 16).toNat j
     by_cases h:j=(q.iv 17).toNat
     ·subst h;exact hne
     ·exact j3 j (by omega)
    ·show (q.iv 5-(q.iv 17+1)).toNat<(q.iv 5-q.iv 17).toNat
     omega
  ·replace hI2:Ff (r.join 17 e2):=hI2
   replace hat:qC (r.join 17 e2):=hat
   replace zJ:¬(r.join 17 e2).iv 17<(r.join 17 e2).iv 5:=of_decide_eq_false zJ
   rw [show (r.iv 1-r.iv 16).toNat=((r.join 17 e2).iv 1-(r.join 17 e2).iv 16).toNat from rfl]
   clear hpre hlt l1 l2 i1 i2
   generalize r.join 17 e2=q at *
   have hpre:=hat.1
   obtain ⟨⟨i1,i2⟩,-⟩:=hat.2.1
   have hlt:=hat.2.2
   obtain ⟨l1,l2⟩:=hat.lens
   obtain ⟨⟨j1,j2⟩,j3⟩:=hI2
   have hk:qO (vC q 4) (bD q 3 (q.iv 16).toNat)=false:=by
    refine List.any_eq_false.2 fun x hx=>?_
    obtain ⟨j,hj,rfl⟩:=List.mem_map.1 hx
    have hj:=List.mem_range.1 hj
    simp only [Nat.reduceAdd] at hj
    exact ne_true_of_eq_false (decide_eq_false (j3 j (by omega)))
   obtain ⟨⟨o1,o2,o3,o4⟩,n1⟩:=hat.2.1.2.1
   obtain ⟨⟨p1,p2,p3,p4⟩,n2⟩:=hat.2.1.2.2
   have htk:=hat.take
   obtain ⟨_,a5,_,b5⟩:=hpre
   simp only [Nat.reduceAdd] at *
   refine Sat.ob ?_ (Sat.ob (decide_eq_true o2) (Sat.ob (decide_eq_true o3) (Sat.ob (decide_eq_true o4) (Sat.ob (aR hat.2.1.2.1.1) (Sat.new fun e3 hf=>Sat.ob ?_ (Sat.back rfl ⟨?_,?_⟩))))))
   ·simp only [D.le,D.gY,D.lt,D.gZ,D.eq,D.ib,D.not,D.eu,D.and,D.eB,D.or,D.ig,D.inr,D.var,D.lit,D.di,D.beq,D.eD,D.eF,D.eG,D.add,D.sub,D.mul,D.min,D.max,D.dm,D.bR,D.bS];omega
   ·simp only [D.le,D.gY,D.lt,D.gZ,D.eq,D.ib,D.not,D.eu,D.and,D.eB,D.or,D.ig,D.inr,D.var,D.lit,D.di,D.beq,D.eD,D.eF,D.eG,D.add,D.sub,D.mul,D.min,D.max,D.dm,D.bR,D.bS];simp [Env.join];omega
   ·have hf:=hf _ (List.mem_singleton.2 rfl)
    simp only [D.be,D.le,D.gY,D.lt,D.gZ,D.eq,D.ib,D.not,D.eu,D.and,D.eB,D.or,D.ig,D.inr,D.var,D.lit,D.di,D.beq,D.eD,D.eF,D.eG,D.add,D.sub,D.mul,D.min,D.max,D.dm,D.bR,D.bS] at hf
    simp [Env.join] at hf
    refine ⟨⟨by simp [Sub.af,assoc,CV.I,CV.B,ah,ai,aa.I,aa.B,SC.I,SC.B,IE.den,BE.den,Env.join];omega,by simp [Sub.af,assoc,CV.I,CV.B,ah,ai,aa.I,aa.B,SC.I,SC.B,IE.den,BE.den,Env.join];omega⟩,⟨?_,?_⟩,⟨⟨p1,p2,p3,p4⟩,?_⟩⟩
    ·simp [bg,Sub.af,assoc,CV.I,CV.B,ah,ai,aa.I,aa.B,SC.I,SC.B,IE.den,BE.den,Env.join]
     omega
    ·refine (kF (ρ:=q) (b:=8) (x:=bD q 3 (q.iv 16).toNat) o2 rfl (fun i hi=>?_) ?_).trans ?_
     ·have:¬(q.iv 9).toNat=i:=by simp only [Nat.reduceAdd] at hi;omega
      simp [bD,Sub.af,assoc,CV.I,CV.B,ah,ai,aa.I,aa.B,SC.I,SC.B,IE.den,BE.den,Env.join,this]
     ·simp [bD,Sub.af,assoc,CV.I,CV.B,ah,ai,aa.I,aa.B,SC.I,SC.B,IE.den,BE.den,Env.join]
     ·show notes q 8 ++ _=((notes q 0).take (q.iv 16+1).toNat).filter (fun n=>!qO (vC q 4) n)
      rw [htk,List.filter_append,n1]
      simp [hk]
    ·refine Eq.trans (b:=notes q 12) (by exact fF rfl fun i _=>by simp [bD,Sub.af,assoc,CV.I,CV.B,ah,ai,aa.I,aa.B,SC.I,SC.B,IE.den,BE.den,Env.join]) ?_
     show notes q 12=((notes q 0).take (q.iv 16+1).toNat).filter (qO (vC q 4))
     rw [htk,List.filter_append,n2]
     simp [hk]
   ·show (q.iv 1-(q.iv 16+1)).toNat<(q.iv 1-q.iv 16).toNat
    omega
 ·replace hpre:mM (ρ.join 8 e):=hpre
  replace hI:uh (ρ.join 8 e):=hI
  replace hge:¬(ρ.join 8 e).iv 16<(ρ.join 8 e).iv 1:=of_decide_eq_false hge
  generalize ρ.join 8 e=q at *
  obtain ⟨⟨i1,i2⟩,⟨o,n1⟩,⟨p,n2⟩⟩:=hI
  rw [rZ _ _ (by simp only [Nat.zero_add];omega)] at n1 n2
  refine Sat.fin ⟨o,?_,p,?_⟩
  ·exact Eq.trans (b:=notes q 8) (by exact fF rfl fun i _=>by simp [bD,Sub.af,assoc,CV.I,CV.B,ah,ai,aa.I,aa.B,SC.I,SC.B,IE.den,BE.den,Env.join]) n1
  ·exact Eq.trans (b:=notes q 12) (by exact fF rfl fun i _=>by simp [bD,Sub.af,assoc,CV.I,CV.B,ah,ai,aa.I,aa.B,SC.I,SC.B,IE.den,BE.den,Env.join]) n2
theorem Pt:bF Tryd.prog lN mM Gz :=
 dH eQ (E:=Pp) (cs:=[]) rfl (fun k pre post h=>by cases h) cK rfl Pq (by kernel_rfl) (fun ρ _ p hp=>by cases hp) Ps
noncomputable def LB:Ex:={sched:=sched,loops:=[Nf],fin:=kD}
def zK:Out :=
 .ob (.or (.not (.var 0)) (.aC (.var 1) (.lit 0))) <|
 .ob (.aA (.lit 0) (.var 1)) <|
 .loop 8 {lo:=8,az:=2,iv:=[(16,.lit 0),(14,.lit 0),(13,.lit 0),(10,.lit 0),(9,.lit 0)],bv:=[(12,.lit true),(8,.lit true)],nb:=[3,2]} <|
 .br (.bT (.var 16) (.var 1))
 (.ob (.not (.var 0)) <|
  .ob (.aA (.lit 0) (.var 16)) <|
  .ob (.or (.bT (.var 4) (.lit (-9223372036854775806))) (.inr .i64 (.sub (.var 4) (.lit 2)))) <|
  .br (.or (.bT (.var 4) (.lit (-9223372036854775806))) (.bT (.sub (.var 4) (.lit 2)) (.cell 3 (.var 16) (.lit 0) 6)))
  (.ob (.aA (.mul (.add (.var 13) (.lit 1)) (.lit 56)) (.lit 140737488355328)) <|
   .ob (.aA (.lit 0) (.var 13)) <|
   .ob (.aA (.var 13) (.var 14)) <|
   .ob (.aA (.var 14) (.lit 9223372036854775807)) <|
   .ob (.or (.not (.var 12)) (.aC (.var 13) (.lit 0))) <|
   .new 17 [.be (.and (.aA (.add (.var 13) (.lit 1)) (.var 17)) (.aA (.var 17) (.lit 9223372036854775807)))] <|
   .ob (.inr .i64 (.add (.var 16) (.lit 1))) <|
   .back 0 {lo:=8,az:=2,iv:=[(16,.add (.var 16) (.lit 1)),(14,yv 17),(13,.add (.var 13) (.lit 1)),(10,yv 10),(9,yv 9)],bv:=[(12,.lit false),(8,yw 8)],ct:=[(15,.up {r:=15,n1:=.add (.var 13) (.lit 1),s1:=7,ks:=yN} 0 [⟨0,(.var 13),(.lit 0),0,.int .i64 (.cell 3 (.var 16) (.lit 0) 0)⟩,⟨0,(.var 13),(.lit 0),1,.int .i64 (.cell 3 (.var 16) (.lit 0) 1)⟩,⟨0,(.var 13),(.lit 0),2,.int .i64 (.cell 3 (.var 16) (.lit 0) 2)⟩,⟨0,(.var 13),(.lit 0),3,.int .i64 (.cell 3 (.var 16) (.lit 0) 3)⟩,⟨0,(.var 13),(.lit 0),4,.bool (.cell 3 (.var 16) (.lit 0) 4)⟩,⟨0,(.var 13),(.lit 0),5,.int .i64 (.cell 3 (.var 16) (.lit 0) 5)⟩,⟨0,(.var 13),(.lit 0),6,.int .i64 (.cell 3 (.var 16) (.lit 0) 6)⟩] (.lit 0)),(11,yu 11 9 7 yN 0)],bk:=[(3,yc 7 7),(2,yc 2 7)]})
  (.ob (.aA (.mul (.add (.var 9) (.lit 1)) (.lit 56)) (.lit 140737488355328)) <|
   .ob (.aA (.lit 0) (.var 9)) <|
   .ob (.aA (.var 9) (.var 10)) <|
   .ob (.aA (.var 10) (.lit 9223372036854775807)) <|
   .ob (.or (.not (.var 8)) (.aC (.var 9) (.lit 0))) <|
   .new 17 [.be (.and (.aA (.add (.var 9) (.lit 1)) (.var 17)) (.aA (.var 17) (.lit 9223372036854775807)))] <|
   .ob (.inr .i64 (.add (.var 16) (.lit 1))) <|
   .back 0 {lo:=8,az:=2,iv:=[(16,.add (.var 16) (.lit 1)),(14,yv 14),(13,yv 13),(10,yv 17),(9,.add (.var 9) (.lit 1))],bv:=[(12,yw 12),(8,.lit false)],ct:=[(15,yu 15 13 7 yN 0),(11,.up {r:=11,n1:=.add (.var 9) (.lit 1),s1:=7,ks:=yN} 0 [⟨0,(.var 9),(.lit 0),0,.int .i64 (.cell 3 (.var 16) (.lit 0) 0)⟩,⟨0,(.var 9),(.lit 0),1,.int .i64 (.cell 3 (.var 16) (.lit 0) 1)⟩,⟨0,(.var 9),(.lit 0),2,.int .i64 (.cell 3 (.var 16) (.lit 0) 2)⟩,⟨0,(.var 9),(.lit 0),3,.int .i64 (.cell 3 (.var 16) (.lit 0) 3)⟩,⟨0,(.var 9),(.lit 0),4,.bool (.cell 3 (.var 16) (.lit 0) 4)⟩,⟨0,(.var 9),(.lit 0),5,.int .i64 (.cell 3 (.var 16) (.lit 0) 5)⟩,⟨0,(.var 9),(.lit 0),6,.int .i64 (.cell 3 (.var 16) (.lit 0) 6)⟩] (.lit 0))],bk:=[(3,yc 3 7),(2,yc 7 7)]}))
 (.fin {lo:=8,az:=1,iv:=[(14,yv 14),(13,yv 13),(10,yv 10),(9,yv 9)],bv:=[(12,yw 12),(8,yw 8)],ct:=[(15,yu 15 13 7 yN 0),(11,yu 11 9 7 yN 0)],bk:=[(2,yc 3 7),(1,yc 2 7)]})
theorem Nk:exec tab LB 4000 [] (fT kD.f 8 [] [] kD.hp kD.args)=zK:=by kernel_rfl
def lI (ρ:Env):Prop:=bg ρ 0∧ρ.iv 1≤1000000∧-9223372036854775808≤ρ.iv 4∧ρ.iv 4≤9223372036854775807
def Eo (ρ:Env):Prop:=bg ρ 8∧notes ρ 8=(notes ρ 0).filter (fun n=>!qP (ρ.iv 4) n)∧bg ρ 12∧notes ρ 12=(notes ρ 0).filter (qP (ρ.iv 4))
def ry (ρ:Env):Prop:=(0≤ρ.iv 16∧ρ.iv 16≤ρ.iv 1)∧(bg ρ 8∧notes ρ 8=((notes ρ 0).take (ρ.iv 16).toNat).filter (fun n=>!qP (ρ.iv 4) n))∧bg ρ 12∧notes ρ 12=((notes ρ 0).take (ρ.iv 16).toNat).filter (qP (ρ.iv 4))
def ui (ρ:Env):Prop:=lI ρ∧ry ρ∧ρ.iv 16<ρ.iv 1
theorem ui.lens {ρ:Env} (h:ui ρ):ρ.iv 9≤ρ.iv 16∧ρ.iv 13≤ρ.iv 16:=by
 obtain ⟨⟨a1,a5,b1⟩,⟨⟨i1,i2⟩,⟨⟨o1,o2,o3,o4⟩,n1⟩,⟨⟨p1,p2,p3,p4⟩,n2⟩⟩,hlt⟩:=h
 have l1:(notes ρ 8).length≤(ρ.iv 16).toNat:=by
  rw [n1];refine Nat.le_trans (List.length_filter_le _ _) ?_;rw [List.length_take];omega
 have l2:(notes ρ 12).length≤(ρ.iv 16).toNat:=by
  rw [n2];refine Nat.le_trans (List.length_filter_le _ _) ?_;rw [List.length_take];omega
 rw [lu] at l1 l2
 simp only [Nat.reduceAdd] at *
 omega
theorem ui.take {ρ:Env} (h:ui ρ):(notes ρ 0).take (ρ.iv 16+1).toNat=(notes ρ 0).take (ρ.iv 16).toNat ++ [bD ρ 3 (ρ.iv 16).toNat]:=by
 obtain ⟨_,⟨⟨i1,i2⟩,_⟩,hlt⟩:=h
 rw [show (ρ.iv 16+1).toNat=(ρ.iv 16).toNat+1 by omega]
 exact rY (b:=0) (by simp only [Nat.zero_add];omega)
theorem Nl (ρ:Env) (hpre:lI ρ.num):Sat Eo [] [] ρ zK:=by
 replace hpre:lI ρ:=hpre
 unfold zK
 refine Sat.ob (aR hpre.1) (Sat.ob (decide_eq_true hpre.1.2.1) (Sat.loop ry (fun r=>(r.iv 1-r.iv 16).toNat) ?_ fun e hI=>Sat.br (fun hlt=>?_) (fun hge=>?_)))
 ·have h2:=hpre.1.2.1
  simp [ry,bg,notes,Sub.af,assoc,CV.I,CV.B,ah,ai,aa.I,aa.B,SC.I,SC.B,IE.den,BE.den,h2]
 ·replace hpre:lI (ρ.join 8 e):=hpre
  replace hI:ry (ρ.join 8 e):=hI
  replace hlt:(ρ.join 8 e).iv 16<(ρ.join 8 e).iv 1:=of_decide_eq_true hlt
  have hat:ui (ρ.join 8 e):=⟨hpre,hI,hlt⟩
  clear hpre hI hlt
  have hm:((ρ.join 8 e).num.iv 1-(ρ.join 8 e).num.iv 16).toNat=((ρ.join 8 e).iv 1-(ρ.join 8 e).iv 16).toNat:=rfl
  rw [hm]
  clear hm
  generalize ρ.join 8 e=r at *
  have hpre:=hat.1
  obtain ⟨⟨i1,i2⟩,-⟩:=hat.2.1
  have hlt:=hat.2.2
  obtain ⟨l1,l2⟩:=hat.lens
  obtain ⟨⟨o1,o2,o3,o4⟩,n1⟩:=hat.2.1.2.1
  obtain ⟨⟨p1,p2,p3,p4⟩,n2⟩:=hat.2.1.2.2
  have htk:=hat.take
  have hpre:=hat.1
  obtain ⟨_,a5,b4,b5⟩:=hpre
  simp only [Nat.reduceAdd] at *
  refine Sat.ob ?_ (Sat.ob (decide_eq_true i1) (Sat.ob ?_ (Sat.br (fun heq=>?_) (fun hne=>?_))))
  ·simp only [D.le,D.gY,D.lt,D.gZ,D.eq,D.ib,D.not,D.eu,D.and,D.eB,D.or,D.ig,D.inr,D.var,D.lit,D.di,D.beq,D.eD,D.eF,D.eG,D.add,D.sub,D.mul,D.min,D.max,D.dm,D.bR,D.bS]
   cases h:r.bv 0
   ·rfl
   ·have:=hat.1.1.1 h
    simp only [Nat.zero_add] at this
    omega
  ·simp only [D.le,D.gY,D.lt,D.gZ,D.eq,D.ib,D.not,D.eu,D.and,D.eB,D.or,D.ig,D.inr,D.var,D.lit,D.di,D.beq,D.eD,D.eF,D.eG,D.add,D.sub,D.mul,D.min,D.max,D.dm,D.bR,D.bS]
   omega
  ·have hk:qP (r.iv 4) (bD r 3 (r.iv 16).toNat)=true:=by
    simp only [D.le,D.gY,D.lt,D.gZ,D.eq,D.ib,D.not,D.eu,D.and,D.eB,D.or,D.ig,D.inr,D.var,D.lit,D.di,D.beq,D.eD,D.eF,D.eG,D.add,D.sub,D.mul,D.min,D.max,D.dm,D.bR,D.bS] at heq
    exact decide_eq_true heq
   refine Sat.ob ?_ (Sat.ob (decide_eq_true p2) (Sat.ob (decide_eq_true p3) (Sat.ob (decide_eq_true p4) (Sat.ob (aR hat.2.1.2.2.1) (Sat.new fun e3 hf=>Sat.ob ?_ (Sat.back rfl ⟨?_,?_⟩))))))
   ·simp only [D.le,D.gY,D.lt,D.gZ,D.eq,D.ib,D.not,D.eu,D.and,D.eB,D.or,D.ig,D.inr,D.var,D.lit,D.di,D.beq,D.eD,D.eF,D.eG,D.add,D.sub,D.mul,D.min,D.max,D.dm,D.bR,D.bS];omega
   ·simp only [D.le,D.gY,D.lt,D.gZ,D.eq,D.ib,D.not,D.eu,D.and,D.eB,D.or,D.ig,D.inr,D.var,D.lit,D.di,D.beq,D.eD,D.eF,D.eG,D.add,D.sub,D.mul,D.min,D.max,D.dm,D.bR,D.bS];simp [Env.join];omega
   ·have hf:=hf _ (List.mem_singleton.2 rfl)
    simp only [D.be,D.le,D.gY,D.lt,D.gZ,D.eq,D.ib,D.not,D.eu,D.and,D.eB,D.or,D.ig,D.inr,D.var,D.lit,D.di,D.beq,D.eD,D.eF,D.eG,D.add,D.sub,D.mul,D.min,D.max,D.dm,D.bR,D.bS] at hf
    simp [Env.join] at hf
    refine ⟨⟨by simp [Sub.af,assoc,CV.I,CV.B,ah,ai,aa.I,aa.B,SC.I,SC.B,IE.den,BE.den,Env.join];omega,by simp [Sub.af,assoc,CV.I,CV.B,ah,ai,aa.I,aa.B,SC.I,SC.B,IE.den,BE.den,Env.join];omega⟩,⟨⟨o1,o2,o3,o4⟩,?_⟩,⟨?_,?_⟩⟩
    ·refine Eq.trans (b:=notes r 8) (by exact fF rfl fun i _=>by simp [bD,Sub.af,assoc,CV.I,CV.B,ah,ai,aa.I,aa.B,SC.I,SC.B,IE.den,BE.den,Env.join]) ?_
     show notes r 8=((notes r 0).take (r.iv 16+1).toNat).filter (fun n=>!qP (r.iv 4) n)
     rw [htk,List.filter_append,n1]
     simp [hk]
    ·simp [bg,Sub.af,assoc,CV.I,CV.B,ah,ai,aa.I,aa.B,SC.I,SC.B,IE.den,BE.den,Env.join]
     omega
    ·refine (kF (ρ:=r) (b:=12) (x:=bD r 3 (r.iv 16).toNat) p2 rfl (fun i hi=>?_) ?_).trans ?_
     ·have:¬(r.iv 13).toNat=i:=by simp only [Nat.reduceAdd] at hi;omega
      simp [bD,Sub.af,assoc,CV.I,CV.B,ah,ai,aa.I,aa.B,SC.I,SC.B,IE.den,BE.den,Env.join,this]
     ·simp [bD,Sub.af,assoc,CV.I,CV.B,ah,ai,aa.I,aa.B,SC.I,SC.B,IE.den,BE.den,Env.join]
     ·show notes r 12 ++ _=((notes r 0).take (r.iv 16+1).toNat).filter (qP (r.iv 4))
      rw [htk,List.filter_append,n2]
      simp [hk]
   ·show (r.iv 1-(r.iv 16+1)).toNat<(r.iv 1-r.iv 16).toNat
    omega
  ·have hk:qP (r.iv 4) (bD r 3 (r.iv 16).toNat)=false:=by
    refine decide_eq_false fun h=>Bool.false_ne_true (hne.symm.trans ?_)
    simp only [D.le,D.gY,D.lt,D.gZ,D.eq,D.ib,D.not,D.eu,D.and,D.eB,D.or,D.ig,D.inr,D.var,D.lit,D.di,D.beq,D.eD,D.eF,D.eG,D.add,D.sub,D.mul,D.min,D.max,D.dm,D.bR,D.bS];exact h
   refine Sat.ob ?_ (Sat.ob (decide_eq_true o2) (Sat.ob (decide_eq_true o3) (Sat.ob (decide_eq_true o4) (Sat.ob (aR hat.2.1.2.1.1) (Sat.new fun e3 hf=>Sat.ob ?_ (Sat.back rfl ⟨?_,?_⟩))))))
   ·simp only [D.le,D.gY,D.lt,D.gZ,D.eq,D.ib,D.not,D.eu,D.and,D.eB,D.or,D.ig,D.inr,D.var,D.lit,D.di,D.beq,D.eD,D.eF,D.eG,D.add,D.sub,D.mul,D.min,D.max,D.dm,D.bR,D.bS];omega
   ·simp only [D.le,D.gY,D.lt,D.gZ,D.eq,D.ib,D.not,D.eu,D.and,D.eB,D.or,D.ig,D.inr,D.var,D.lit,D.di,D.beq,D.eD,D.eF,D.eG,D.add,D.sub,D.mul,D.min,D.max,D.dm,D.bR,D.bS];simp [Env.join];omega
   ·have hf:=hf _ (List.mem_singleton.2 rfl)
    simp only [D.be,D.le,D.gY,D.lt,D.gZ,D.eq,D.ib,D.not,D.eu,D.and,D.eB,D.or,D.ig,D.inr,D.var,D.lit,D.di,D.beq,D.eD,D.eF,D.eG,D.add,D.sub,D.mul,D.min,D.max,D.dm,D.bR,D.bS] at hf
    simp [Env.join] at hf
    refine ⟨⟨by simp [Sub.af,assoc,CV.I,CV.B,ah,ai,aa.I,aa.B,SC.I,SC.B,IE.den,BE.den,Env.join];omega,by simp [Sub.af,assoc,CV.I,CV.B,ah,ai,aa.I,aa.B,SC.I,SC.B,IE.den,BE.den,Env.join];omega⟩,⟨?_,?_⟩,⟨⟨p1,p2,p3,p4⟩,?_⟩⟩
    ·simp [bg,Sub.af,assoc,CV.I,CV.B,ah,ai,aa.I,aa.B,SC.I,SC.B,IE.den,BE.den,Env.join]
     omega
    ·refine (kF (ρ:=r) (b:=8) (x:=bD r 3 (r.iv 16).toNat) o2 rfl (fun i hi=>?_) ?_).trans ?_
     ·have:¬(r.iv 9).toNat=i:=by simp only [Nat.reduceAdd] at hi;omega
      simp [bD,Sub.af,assoc,CV.I,CV.B,ah,ai,aa.I,aa.B,SC.I,SC.B,IE.den,BE.den,Env.join,this]
     ·simp [bD,Sub.af,assoc,CV.I,CV.B,ah,ai,aa.I,aa.B,SC.I,SC.B,IE.den,BE.den,Env.join]
     ·show notes r 8 ++ _=((notes r 0).take (r.iv 16+1).toNat).filter (fun n=>!qP (r.iv 4) n)
      rw [htk,List.filter_append,n1]
      simp [hk]
    ·refine Eq.trans (b:=notes r 12) (by exact fF rfl fun i _=>by simp [bD,Sub.af,assoc,CV.I,CV.B,ah,ai,aa.I,aa.B,SC.I,SC.B,IE.den,BE.den,Env.join]) ?_
     show notes r 12=((notes r 0).take (r.iv 16+1).toNat).filter (qP (r.iv 4))
     rw [htk,List.filter_append,n2]
     simp [hk]
   ·show (r.iv 1-(r.iv 16+1)).toNat<(r.iv 1-r.iv 16).toNat
    omega
 ·replace hpre:lI (ρ.join 8 e):=hpre
  replace hI:ry (ρ.join 8 e):=hI
  replace hge:¬(ρ.join 8 e).iv 16<(ρ.join 8 e).iv 1:=of_decide_eq_false hge
  generalize ρ.join 8 e=q at *
  obtain ⟨⟨i1,i2⟩,⟨o,n1⟩,⟨p,n2⟩⟩:=hI
  rw [rZ _ _ (by simp only [Nat.zero_add];omega)] at n1 n2
  refine Sat.fin ⟨o,?_,p,?_⟩
  ·exact Eq.trans (b:=notes q 8) (by exact fF rfl fun i _=>by simp [bD,Sub.af,assoc,CV.I,CV.B,ah,ai,aa.I,aa.B,SC.I,SC.B,IE.den,BE.den,Env.join]) n1
  ·exact Eq.trans (b:=notes q 12) (by exact fF rfl fun i _=>by simp [bD,Sub.af,assoc,CV.I,CV.B,ah,ai,aa.I,aa.B,SC.I,SC.B,IE.den,BE.den,Env.join]) n2
theorem Nn:bF Tryd.prog kD lI Eo :=
 dH eQ (E:=LB) (cs:=[]) rfl (fun k pre post h=>by cases h) cK rfl Nk (by kernel_rfl) (fun ρ _ p hp=>by cases hp) Nl
end Go.Proofs.YthomdlajobnmnaaDoor.Sv
namespace Go.Proofs.YthomdlajobnmnaaDoor
open Go.Rex
def YX:Kn:=[(.aA (.lit 0) (.var 0),true),(.bT (.var 0) (.lit 6),true),(.bT (.var 1) (.lit 0),false),(.aA (.lit 9) (.var 1),false)]
noncomputable def nz:Ex:={sched:=sched,loops:=[],fin:=gQ}
def Fg:Out :=
 .ob (.inr .i64 (.mul (.var 0) (.lit 9))) <|
 .ob (.inr .i64 (.add (.lit 25) (.mul (.var 0) (.lit 9)))) <|
 .ob (.inr .i64 (.add (.add (.lit 25) (.mul (.var 0) (.lit 9))) (.var 1))) <|
 .fin {lo:=2,az:=0}
theorem RL:exec tab nz 8000 [] (fT gQ.f gQ.nv YX gQ.gl gQ.hp gQ.args)=Fg:=by kernel_rfl
def wC (ρ:Env):Prop:=(0≤ρ.iv 0∧ρ.iv 0<6)∧0≤ρ.iv 1∧ρ.iv 1<9
def nI (_:Env):Prop:=True
theorem RN (ρ:Env) (hpre:wC ρ.num):Sat nI [] [] ρ Fg:=by
 replace hpre:wC ρ:=hpre
 obtain ⟨⟨a,b⟩,c,d⟩:=hpre
 unfold Fg
 refine Sat.ob ?_ (Sat.ob ?_ (Sat.ob ?_ (Sat.fin trivial)))
 all_goals simp only [Da];omega
theorem JN:bF Tryd.prog gQ wC nI :=
 dH eQ (E:=nz) (cs:=[]) rfl (fun k pre post h=>by cases h) cK rfl RL (by kernel_rfl) (fun ρ h p hp=>by
   obtain ⟨⟨a,b⟩,c,d⟩:=h
   simp only [YX,List.mem_cons,List.not_mem_nil,or_false] at hp
   rcases hp with rfl | rfl | rfl | rfl
   · exact decide_eq_true a
   · exact decide_eq_true b
   · exact decide_eq_false (by simp only [IE.den];omega)
   · exact decide_eq_false (by simp only [IE.den];omega)) RN
def YY:Kn:=[(.aA (.lit 0) (.var 0),true),(.bT (.var 0) (.lit 6),true)]
noncomputable def Un:Ex:={sched:=sched,loops:=[],fin:=il}
def Fh:Out :=
 .ob (.inr .i64 (.add (.lit 79) (.var 0))) <|
 .fin {lo:=1,az:=0}
theorem RO:exec tab Un 8000 [] (fT il.f il.nv YY il.gl il.hp il.args)=Fh:=by kernel_rfl
def wD (ρ:Env):Prop:=0≤ρ.iv 0∧ρ.iv 0<6
theorem RP (ρ:Env) (hpre:wD ρ.num):Sat nI [] [] ρ Fh:=by
 replace hpre:wD ρ:=hpre
 obtain ⟨a,b⟩:=hpre
 unfold Fh
 refine Sat.ob ?_ (Sat.fin trivial)
 simp only [Da];omega
theorem JO:bF Tryd.prog il wD nI :=
 dH eQ (E:=Un) (cs:=[]) rfl (fun k pre post h=>by cases h) cK rfl RO (by kernel_rfl) (fun ρ h p hp=>by
   obtain ⟨a,b⟩:=h
   simp only [YY,List.mem_cons,List.not_mem_nil,or_false] at hp
   rcases hp with rfl | rfl
   · exact decide_eq_true a
   · exact decide_eq_true b) RP
def YZ:Kn:=[(.bT (.var 0) (.lit 0),false),(.aA (.lit 24) (.var 0),false)]
noncomputable def Uo:Ex:={sched:=sched,loops:=[],fin:=qy}
def Fj:Out :=
 .ob (.inr .i64 (.var 0)) <|
 .fin {lo:=1,az:=0}
theorem RQ:exec tab Uo 8000 [] (fT qy.f qy.nv YZ qy.gl qy.hp qy.args)=Fj:=by kernel_rfl
def Fp (ρ:Env):Prop:=0≤ρ.iv 0∧ρ.iv 0<24
theorem RU (ρ:Env) (hpre:Fp ρ.num):Sat nI [] [] ρ Fj:=by
 replace hpre:Fp ρ:=hpre
 obtain ⟨a,b⟩:=hpre
 unfold Fj
 refine Sat.ob ?_ (Sat.fin trivial)
 simp only [Da];omega
theorem RV:bF Tryd.prog qy Fp nI :=
 dH eQ (E:=Uo) (cs:=[]) rfl (fun k pre post h=>by cases h) cK rfl RQ (by kernel_rfl) (fun ρ h p hp=>by
   obtain ⟨a,b⟩:=h
   simp only [YZ,List.mem_cons,List.not_mem_nil,or_false] at hp
   rcases hp with rfl | rfl
   · exact decide_eq_false (by simp only [IE.den];omega)
   · exact decide_eq_false (by simp only [IE.den];omega)) RU
def zL:kM:=[(gQ,wC,nI),(il,wD,nI)]
theorem Fq:∀k pre post,(k,pre,post)∈zL→jF k=true∧bF Tryd.prog k pre post:=by
 intro k pre post h
 simp only [zL,List.mem_cons,List.not_mem_nil,or_false,Prod.mk.injEq] at h
 rcases h with ⟨rfl,rfl,rfl⟩ | ⟨rfl,rfl,rfl⟩
 ·exact ⟨by kernel_rfl,JN⟩
 ·exact ⟨by kernel_rfl,JO⟩
noncomputable def Uq:Ex:={sched:=sched,loops:=[],fin:=gU}
def Fs:Out :=
 .ob (.or (.not (.var 51)) (.aC (.var 52) (.lit 0))) <|
 .ob (.aA (.lit 0) (.var 52)) <|
 .br (.aC (.var 52) (.lit 0))
 (.fin {lo:=71,az:=4,iv:=yo [(132,.lit 0),(131,.lit 0),(130,.lit 0),(129,.lit 0)]<|yr 128 61 3<|[(124,yv 57),(123,yv 56),(120,.lit 0),(119,.lit 0),(117,.lit 0),(116,.lit 0),(114,.lit 0),(112,.lit 0),(111,.lit 0),(110,.lit 0),(109,.lit 0),(107,.lit 0),(106,.lit 0),(105,.lit 0),(104,.lit 0),(102,.lit 0),(101,.lit 0),(100,.lit 0),(99,.lit 0),(97,.lit 0),(96,.lit 0),(95,.lit 0),(94,.lit 0),(93,.lit 0),(92,.lit 0),(91,.lit 0),(90,.lit 0),(89,.lit 0),(88,.lit 0),(87,.lit 0),(86,.lit 0),(85,.lit 0),(83,.lit 0),(82,.lit 0),(81,.lit 0),(80,.lit 0),(78,.lit 0),(77,.lit 0),(76,.lit 0),(75,.lit 0),(74,.lit 0),(73,.lit 0),(72,.lit 0),(71,.lit 0)],bv:=[(134,.lit true),(133,.lit false),(125,yw 58),(122,yw 55),(118,.lit true),(115,.lit true),(113,.lit false),(108,.lit false),(103,.lit false),(98,.lit false),(84,.lit false),(79,.lit false)],ct:=[(137,yu 70 59 7 yN 0),(121,yl 54 9 5 50 yW 0)],bk:=[(6,yc 3 7)],nb:=[5,4,5,4]})
 (.ob (.not (.var 51)) <|
  .ob (.bT (.lit 0) (.var 52)) <|
  .ob (.aA (.lit 0) (.var 69)) <|
  .ob (.bT (.var 69) (.var 70)) <|
  .fin {lo:=71,az:=4,iv:=yo [(137,yv 70)]<|yr 132 65 7<|yo [(124,yv 57),(123,yv 56),(120,yv 53),(119,yv 52),(136,yv 69),(117,yv 50),(116,yv 49),(114,yv 47)]<|yr 112 45 4<|yr 107 40 4<|yo [(102,.lit 0),(101,.lit 0),(100,.lit 0),(99,.lit 0),(97,.cell 69 (.var 69) (.lit 0) 3),(96,.cell 69 (.var 69) (.lit 0) 2),(95,.cell 69 (.var 69) (.lit 0) 1),(94,.cell 69 (.var 69) (.lit 0) 0),(93,.lit 0),(92,.lit 0),(91,.lit 0),(90,.lit 5),(89,.lit 16)]<|yr 88 21 4<|yr 83 16 4<|yr 78 11 8 [],bv:=[(134,yw 67),(133,yw 66),(125,yw 58),(122,yw 55),(118,yw 51),(115,yw 48),(113,yw 46),(108,yw 41),(103,.lit false),(98,.cell 69 (.var 69) (.lit 0) 4),(84,yw 17),(79,yw 12)],ct:=[(137,yu 70 59 7 yN 0),(136,yu 69 70 7 yN 0),(135,yu 68 49 5 yW 0),(121,yl 54 9 5 50 yW 0)],bk:=[(6,yc 3 7),(5,yc 2 7),(4,yc 1 5)]})
theorem RX:exec tab Uq 8000 [] (fT gU.f gU.nv [] gU.gl gU.hp gU.args)=Fs:=by kernel_rfl
def JP (ρ:Env):Prop:=bJ ρ 4
def xN (ρ:Env):Prop:=bJ ρ 71∧ae ρ 0 71=(ae ρ 0 4).fw
theorem RY (ρ:Env) (hpre:JP ρ.num):Sat xN [] [] ρ Fs:=by
 replace hpre:JP ρ:=hpre
 obtain ⟨o1,o2,o3⟩:=hpre
 unfold Fs
 have p2:=o2.1.2.1
 have p3:=o2.2
 simp only [Nat.reduceAdd] at p2 p3
 refine Sat.ob (aR o2.1) (Sat.ob (decide_eq_true p2) (Sat.br (fun c=>?_) (fun c=>?_)))
 ·simp only [Da] at c
  have hd:(ae ρ 0 4).bM=[]:=oM c
  have hm:(ae ρ 0 4).fw=(ae ρ 0 4).done:=by unfold RS.fw;rw [hd]
  exact Sat.fin ⟨⟨(by first | exact o1 | exact o2 | exact o3 | exact ak rfl rfl | assumption),(by first | exact o2 | exact ⟨ak rfl rfl,Int.le_refl 0,.inl rfl⟩ | assumption),(by first | exact o1 | exact o2 | exact o3 | exact ak rfl rfl | assumption)⟩,Eq.trans (b:=(ae ρ 0 4).done) (RS.ext' rfl rfl rfl rfl rfl rfl bB bE rfl rfl rfl rfl bI rfl bC rfl rfl) (Eq.symm (hm))⟩
 ·simp only [Da] at c
  have h1:(ae ρ 0 4).bM=_:=En (ρ:=ρ) (r:=69) (o:=ρ.iv 69) (n:=ρ.iv 52) (by omega) p3.1
  have hm:(ae ρ 0 4).fw=(ae ρ 0 4).ask 16 ⟨5,0,0,0,(bO ρ 69 (ρ.iv 69).toNat).ref,Wd.zero⟩:=by unfold RS.fw;rw [h1]
  refine Sat.ob (bW o2.1 (by simp only [Nat.reduceAdd];omega)) (Sat.ob (by simp only [Da];omega) (Sat.ob (by simp only [Da];omega) (Sat.ob (by simp only [Da];omega) (Sat.fin ⟨⟨(by first | exact o1 | exact o2 | exact o3 | exact ak rfl rfl | assumption),(by first | exact o2 | exact ⟨ak rfl rfl,Int.le_refl 0,.inl rfl⟩ | assumption),(by first | exact o1 | exact o2 | exact o3 | exact ak rfl rfl | assumption)⟩,Eq.trans (b:=(ae ρ 0 4).ask 16 ⟨5,0,0,0,(bO ρ 69 (ρ.iv 69).toNat).ref,Wd.zero⟩) (RS.ext' rfl rfl rfl rfl rfl rfl bB bE rfl rfl rfl rfl bI rfl bC rfl rfl) (Eq.symm (hm))⟩))))
theorem JQ:bF Tryd.prog gU JP xN :=
 dH eQ (E:=Uq) (cs:=[]) rfl (fun k pre post h=>by cases h) cK rfl RX (by kernel_rfl) (fun ρ _ p hp=>by cases hp) RY
def wE (ρ:Env):Prop:=0≤ρ.iv 1∧ρ.iv 1<6∧1≤ρ.iv 2∧ρ.iv 2≤6
theorem jV {σ:Sub} {ρ:Env} (h0:(σ.af ρ).iv 0=ρ.iv 0) (h1:(σ.af ρ).iv 1=ρ.iv 1) (h2:(σ.af ρ).iv 2=ρ.iv 2) (h3:(σ.af ρ).iv 3=ρ.iv 3):∀i,i<4→(σ.af ρ).iv i=ρ.iv i:=by
 intro i hi
 match i with
 | 0=>exact h0
 | 1=>exact h1
 | 2=>exact h2
 | 3=>exact h3
noncomputable def Ur:Ex:={sched:=sched,loops:=[],cons:=[gQ,il],fin:=jl}
def Fu:Out :=
 .br (.or (.aC (.var 0) (.lit 2)) (.aC (.var 0) (.lit 3)))
 (.ob (.inr .i64 (.mul (.var 2) (.lit 9))) <|
  .br (.aA (.mul (.var 2) (.lit 9)) (.var 71))
  (.fin {lo:=72,az:=4,iv:=yo [(138,yv 70)]<|yr 133 65 7<|yo [(125,yv 57),(124,yv 56),(121,yv 53),(120,yv 52),(137,yv 69),(118,yv 50),(117,yv 49),(115,yv 47)]<|yr 113 45 4<|yr 108 40 4<|yr 103 35 4<|yr 98 30 13<|yr 84 16 4<|yr 79 11 8 [],bv:=[(135,yw 67),(134,yw 66),(126,yw 58),(123,yw 55),(119,yw 51),(116,yw 48),(114,yw 46),(109,yw 41),(104,yw 36),(99,yw 31),(85,yw 17),(80,yw 12),(139,.lit false)],ct:=[(138,yu 70 59 7 yN 0),(137,yu 69 70 7 yN 0),(136,yu 68 49 5 yW 0),(122,yl 54 9 5 50 yW 0)],bk:=[(6,yc 3 7),(5,yc 2 7),(4,yc 1 5)]})
  (.ob (.inr .i64 (.div (.var 71) (.lit 9))) <|
   .call 0 {lo:=0,az:=0,iv:=[(1,.mod (.var 71) (.lit 9)),(0,.div (.var 71) (.lit 9))]} 72 <|
   .fin {lo:=72,az:=4,iv:=yo [(138,yv 70)]<|yr 133 65 7<|yo [(125,yv 57),(124,yv 56),(121,yv 53),(120,yv 52),(137,yv 69),(118,yv 50),(117,yv 49),(115,yv 71)]<|yr 113 45 4<|yr 108 40 4<|yo [(103,.lit 0),(102,.lit 0),(101,.lit 0),(100,.lit 0),(98,.lit 0),(97,.lit 0),(96,.lit 0),(95,.lit 0),(94,.add (.add (.lit 25) (.mul (.div (.var 71) (.lit 9)) (.lit 9))) (.mod (.var 71) (.lit 9))),(93,.lit 0),(92,.lit 0),(91,.lit 1),(90,.lit 13)]<|yr 89 21 4<|yr 84 16 4<|yr 79 11 8 [],bv:=[(135,yw 67),(134,yw 66),(126,yw 58),(123,yw 55),(119,yw 51),(116,yw 48),(114,yw 46),(109,yw 41),(104,.lit false),(99,.lit false),(85,yw 17),(80,yw 12),(139,.lit true)],ct:=[(138,yu 70 59 7 yN 0),(137,yu 69 70 7 yN 0),(136,yu 68 49 5 yW 0),(122,yl 54 9 5 50 yW 0)],bk:=[(6,yc 3 7),(5,yc 2 7),(4,yc 1 5)]}))
 (.br (.aA (.var 2) (.var 71))
  (.fin {lo:=72,az:=4,iv:=yo [(138,yv 70)]<|yr 133 65 7<|yo [(125,yv 57),(124,yv 56),(121,yv 53),(120,yv 52),(137,yv 69),(118,yv 50),(117,yv 49),(115,yv 47)]<|yr 113 45 4<|yr 108 40 4<|yr 103 35 4<|yr 98 30 13<|yr 84 16 4<|yr 79 11 8 [],bv:=[(135,yw 67),(134,yw 66),(126,yw 58),(123,yw 55),(119,yw 51),(116,yw 48),(114,yw 46),(109,yw 41),(104,yw 36),(99,yw 31),(85,yw 17),(80,yw 12),(139,.lit false)],ct:=[(138,yu 70 59 7 yN 0),(137,yu 69 70 7 yN 0),(136,yu 68 49 5 yW 0),(122,yl 54 9 5 50 yW 0)],bk:=[(6,yc 3 7),(5,yc 2 7),(4,yc 1 5)]})
  (.call 1 {lo:=0,az:=0,iv:=[(0,yv 71)]} 72 <|
   .fin {lo:=72,az:=4,iv:=yo [(138,yv 70)]<|yr 133 65 7<|yo [(125,yv 57),(124,yv 56),(121,yv 53),(120,yv 52),(137,yv 69),(118,yv 50),(117,yv 49),(115,yv 71)]<|yr 113 45 4<|yr 108 40 4<|yo [(103,.lit 0),(102,.lit 0),(101,.lit 0),(100,.lit 0),(98,.lit 0),(97,.lit 0),(96,.lit 0),(95,.lit 0),(94,.add (.lit 79) (.var 71)),(93,.lit 0),(92,.lit 0),(91,.lit 1),(90,.lit 13)]<|yr 89 21 4<|yr 84 16 4<|yr 79 11 8 [],bv:=[(135,yw 67),(134,yw 66),(126,yw 58),(123,yw 55),(119,yw 51),(116,yw 48),(114,yw 46),(109,yw 41),(104,.lit false),(99,.lit false),(85,yw 17),(80,yw 12),(139,.lit true)],ct:=[(138,yu 70 59 7 yN 0),(137,yu 69 70 7 yN 0),(136,yu 68 49 5 yW 0),(122,yl 54 9 5 50 yW 0)],bk:=[(6,yc 3 7),(5,yc 2 7),(4,yc 1 5)]}))
theorem RZ:exec tab Ur 8000 [] (fT jl.f jl.nv [] jl.gl jl.hp jl.args)=Fu:=by kernel_rfl
def sQ (ρ:Env):Prop:=bJ ρ 4∧wE ρ∧0≤ρ.iv 71∧ρ.iv 71≤1000000
def uj (ρ:Env):Prop:=bJ ρ 72∧ρ.bv 139=((ae ρ 0 4).look (ρ.iv 71)).isSome∧ae ρ 0 72=((ae ρ 0 4).look (ρ.iv 71)).getD (ae ρ 0 4)
theorem GA {r q:RS} {n:Int} (h:r.look n=some q):(r.look n).getD r=q:=by rw [h];rfl
theorem GD {r:RS} {n:Int} (h:r.look n=none):(r.look n).getD r=r:=by rw [h];rfl
theorem Y0 {n:Int} (h:0≤n):n.tdiv 9=n / 9∧n.tmod 9=n % 9:=⟨Int.tdiv_eq_ediv_of_nonneg h,Int.tmod_eq_emod_of_nonneg h⟩
theorem R3 (ρ:Env) (hpre:sQ ρ.num):Sat uj zL [] ρ Fu:=by
 replace hpre:sQ ρ:=hpre
 obtain ⟨⟨o1,o2,o3⟩,⟨s1,s2,s3,s4⟩,n1,n2⟩:=hpre
 unfold Fu
 refine Sat.br (fun c=>?_) (fun c=>?_)
 ·simp only [Da] at c
  have hk:(ae ρ 0 4).bf:=c
  refine Sat.ob (by simp only [Da];omega) (Sat.br (fun c2=>?_) (fun c2=>?_))
  ·simp only [Da] at c2
   have hm:(ae ρ 0 4).look (ρ.iv 71)=none:=by unfold RS.look;rw [if_pos hk];exact if_pos c2
   exact Sat.fin ⟨⟨(by first | exact o1 | exact o2 | exact o3 | exact ak rfl rfl | assumption),(by first | exact o2 | exact ⟨ak rfl rfl,Int.le_refl 0,.inl rfl⟩ | assumption),(by first | exact o1 | exact o2 | exact o3 | exact ak rfl rfl | assumption)⟩,(by show false=_;exact (congrArg Option.isSome hm).symm),Eq.trans (b:=(ae ρ 0 4)) (RS.ext' rfl rfl rfl rfl rfl rfl bB bE rfl rfl rfl rfl bI rfl bC rfl rfl) (Eq.symm (GD hm))⟩
  ·simp only [Da] at c2
   have hm:(ae ρ 0 4).look (ρ.iv 71)=some (({ae ρ 0 4 with index:=ρ.iv 71}:RS).load 13 0 0 (25+ρ.iv 71)):=by unfold RS.look;rw [if_pos hk];exact if_neg (by show ¬ρ.iv 71≥ρ.iv 2 * 9;omega)
   obtain ⟨d1,d2⟩:=Y0 n1
   refine Sat.ob (by simp only [Da];show _∧_;simp only [IE.den,d1];omega) (Sat.iD (c:=gQ) rfl ⟨⟨?_,?_⟩,?_,?_⟩ (fun q=>((bJ q 4)∧0≤q.iv 71)∧(ae q 0 4).look (q.iv 71)=some (({ae q 0 4 with index:=q.iv 71}:RS).load 13 0 0 (25+q.iv 71))) (fun e _=>⟨⟨⟨o1,o2,o3⟩,n1⟩,hm⟩) fun q hq=>?_)
   ·show 0≤(ρ.iv 71).tdiv 9;omega
   ·show (ρ.iv 71).tdiv 9<6;omega
   ·show 0≤(ρ.iv 71).tmod 9;omega
   ·show (ρ.iv 71).tmod 9<9;omega
   obtain ⟨⟨⟨o1,o2,o3⟩,n1⟩,hm⟩:=hq
   obtain ⟨d1,d2⟩:=Y0 n1
   have e:25+(q.iv 71).tdiv 9 * 9+(q.iv 71).tmod 9=25+q.iv 71:=by omega
   exact Sat.fin ⟨⟨(by first | exact o1 | exact o2 | exact o3 | exact ak rfl rfl | assumption),(by first | exact o2 | exact ⟨ak rfl rfl,Int.le_refl 0,.inl rfl⟩ | assumption),(by first | exact o1 | exact o2 | exact o3 | exact ak rfl rfl | assumption)⟩,(by show true=_;exact (congrArg Option.isSome hm).symm),Eq.trans (b:=(({ae q 0 4 with index:=q.iv 71}:RS).load 13 0 0 (25+q.iv 71))) (RS.ext' rfl rfl (congrArg (fun x=>(⟨1,0,0,x,Wd.zero,Wd.zero⟩:Ac)) e) rfl rfl rfl bB bE rfl rfl rfl rfl bI rfl bC rfl rfl) (Eq.symm (GA hm))⟩
 ·simp only [Da] at c
  have hk:¬(ae ρ 0 4).bf:=fun h:ρ.iv 0=2∨ρ.iv 0=3=>by omega
  refine Sat.br (fun c2=>?_) (fun c2=>?_)
  ·simp only [Da] at c2
   have hm:(ae ρ 0 4).look (ρ.iv 71)=none:=by unfold RS.look;rw [if_neg hk];exact if_pos c2
   exact Sat.fin ⟨⟨(by first | exact o1 | exact o2 | exact o3 | exact ak rfl rfl | assumption),(by first | exact o2 | exact ⟨ak rfl rfl,Int.le_refl 0,.inl rfl⟩ | assumption),(by first | exact o1 | exact o2 | exact o3 | exact ak rfl rfl | assumption)⟩,(by show false=_;exact (congrArg Option.isSome hm).symm),Eq.trans (b:=(ae ρ 0 4)) (RS.ext' rfl rfl rfl rfl rfl rfl bB bE rfl rfl rfl rfl bI rfl bC rfl rfl) (Eq.symm (GD hm))⟩
  ·simp only [Da] at c2
   have hm:(ae ρ 0 4).look (ρ.iv 71)=some (({ae ρ 0 4 with index:=ρ.iv 71}:RS).load 13 0 0 (79+ρ.iv 71)):=by unfold RS.look;rw [if_neg hk];exact if_neg (by show ¬ρ.iv 71≥ρ.iv 2;omega)
   refine Sat.iD (c:=il) rfl ⟨n1,?_⟩ (fun q=>((bJ q 4)∧0≤q.iv 71)∧(ae q 0 4).look (q.iv 71)=some (({ae q 0 4 with index:=q.iv 71}:RS).load 13 0 0 (79+q.iv 71))) (fun e _=>⟨⟨⟨o1,o2,o3⟩,n1⟩,hm⟩) fun q hq=>?_
   ·show ρ.iv 71<6;omega
   obtain ⟨⟨⟨o1,o2,o3⟩,n1⟩,hm⟩:=hq
   exact Sat.fin ⟨⟨(by first | exact o1 | exact o2 | exact o3 | exact ak rfl rfl | assumption),(by first | exact o2 | exact ⟨ak rfl rfl,Int.le_refl 0,.inl rfl⟩ | assumption),(by first | exact o1 | exact o2 | exact o3 | exact ak rfl rfl | assumption)⟩,(by show true=_;exact (congrArg Option.isSome hm).symm),Eq.trans (b:=(({ae q 0 4 with index:=q.iv 71}:RS).load 13 0 0 (79+q.iv 71))) (RS.ext' rfl rfl rfl rfl rfl rfl bB bE rfl rfl rfl rfl bI rfl bC rfl rfl) (Eq.symm (GA hm))⟩
theorem JR:bF Tryd.prog jl sQ uj :=
 dH eQ (E:=Ur) (cs:=zL) rfl Fq cK rfl RZ (by kernel_rfl) (fun ρ _ p hp=>by cases hp) R3
end Go.Proofs.YthomdlajobnmnaaDoor
