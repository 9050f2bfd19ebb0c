/- part 20 of the proof -/
import Derived.Test.YthomdlajobnmnaaDoorV10
import Derived.Test.YthomdlajobnmnaaDoorV11
import Derived.Test.YthomdlajobnmnaaDoorV12
import Derived.Test.YthomdlajobnmnaaDoorV17
import Derived.Test.YthomdlajobnmnaaDoorV19
set_option linter.unusedSimpArgs false
set_option linter.unusedVariables false
namespace Go.Proofs.YthomdlajobnmnaaDoor
open Go.Rex
def jr (ρ:Env) (n m:Int) (b:Nat):PS where
 nb:=n
 ns:=m
 nf:=ρ.iv (b+4)
 steps:=ρ.iv (b+7)
 made:=ρ.iv (b+8)
 gV:=ρ.bv (b+9)
 bd:=fun i=>aG (ρ.ic b i 0) (ρ.bc b i 0)
 gen:=fun i=>ρ.ic (b+1) i 0 0
 used:=fun i=>ρ.bc (b+1) i 0 1
 cell:=fun i k=>aG (ρ.ic (b+2) i k) (ρ.bc (b+2) i k)
 fr:=fun i=>ρ.ic (b+6) i 0 0
theorem pX {p q:PS} (h1:p.nb=q.nb:=by exact rfl) (h2:p.ns=q.ns:=by exact rfl) (h3:p.nf=q.nf:=by exact rfl) (h4:p.steps=q.steps:=by exact rfl) (h5:p.made=q.made:=by exact rfl) (h6:p.gV=q.gV:=by exact rfl)
    (h7:∀i,p.bd i=q.bd i:=by intro i;simp [ag,jr,aG,-Int.pred_toNat,Sub.af,assoc,CV.I,CV.B,ah,ai,aa.I,aa.B,SC.I,SC.B,IE.den,BE.den]) (h8:∀i,p.gen i=q.gen i:=by intro i;simp [ag,jr,-Int.pred_toNat,Sub.af,assoc,CV.I,CV.B,ah,ai,aa.I,aa.B,SC.I,SC.B,IE.den,BE.den]) (h9:∀i,p.used i=q.used i:=by intro i;simp [ag,jr,-Int.pred_toNat,Sub.af,assoc,CV.I,CV.B,ah,ai,aa.I,aa.B,SC.I,SC.B,IE.den,BE.den])
    (h10:∀i k,p.cell i k=q.cell i k:=by intro i k;simp [ag,jr,aG,-Int.pred_toNat,Sub.af,assoc,CV.I,CV.B,ah,ai,aa.I,aa.B,SC.I,SC.B,IE.den,BE.den]) (h11:∀i,p.fr i=q.fr i:=by intro i;simp [ag,jr,-Int.pred_toNat,Sub.af,assoc,CV.I,CV.B,ah,ai,aa.I,aa.B,SC.I,SC.B,IE.den,BE.den]):p=q:=PS.ext' h1 h2 h3 h4 h5 h6 h7 h8 h9 h10 h11
structure sD (p:PS) (n m:Int):Prop where
 nb:p.nb=n
 ns:p.ns=m
 nf:p.nf=m
 steps:p.steps=0
 made:p.made=0
 gV:p.gV=true
 bd:∀i,p.bd i=Wd.zero
 gen:∀i,p.gen i=0
 used:∀i,p.used i=false
 cell:∀i k,p.cell i k=Wd.zero
 fr:∀i:Nat,(i:Int)<m→p.fr i=m-i
theorem sD.ok {p:PS} {n m:Int} (h:sD p n m) (h1:0≤m∧m≤1024) (h2:0≤n∧n≤200):p.OK:=by
 have hu:∀k,jH p.used k=0:=fun k=>by
  rw [ny (v:=fun _=>false) fun i _=>h.used i,pI]
 refine ⟨by rw [h.nb];exact h2,by rw [h.ns];exact h1,by rw [h.nf];exact h1.1,by rw [h.made,h.steps];exact ⟨Int.le_refl 0,Int.le_refl 0⟩,fun i=>by rw [h.gen,h.made];exact ⟨Int.le_refl 0,Int.le_refl 0⟩,fun i hi=>?_,fun i j hi hj=>?_,?_⟩
 ·rw [h.nf] at hi
  rw [h.fr i hi,h.ns]
  exact ⟨by omega,by omega,h.used _⟩
 ·rw [h.nf] at hj
  rw [h.fr i (by omega),h.fr j hj]
  omega
 ·rw [hu,h.nf,h.ns]
  simp
section
variable {post:Env→Prop} {cs:kM} {Γ:List (Env→Prop)} {ρ:Env}
theorem VJ {g nv:Nat} {σ:Sub} {k:Out} (hg:cs[g]?=some (ng,El,rq)) (p:PS) (a:Ac) {n m:Int} (hn:(σ.af ρ).iv 14=n) (hm:(σ.af ρ).iv 15=m) (hp:ag (σ.af ρ) n m 16=p) (ha:ay (σ.af ρ) 0=a) (ho:bg (σ.af ρ) 16)
  (hok:p.OK) (hst:p.steps≤1000000) (K:Env→Prop)
  (hK:∀e,bg (ρ.join nv e) (nv+7)→ag (ρ.join nv e) n m (nv+7)=(p.act a).1→(ρ.join nv e).bv (nv+6)=(p.act a).2.isSome→aL (ρ.join nv e) nv=(p.act a).2.getD Rp.no→K (ρ.join nv e)) (h:∀q,K q→Sat post cs Γ q k) :
  Sat post cs Γ ρ (.call g σ nv k):=by
 subst hn hm
 refine Sat.iD (c:=ng) hg ⟨ho,by rw [hp];exact hok,by rw [←hp] at hst;exact hst⟩ K (fun e hq=>?_) h
 have hq:rq (aJ σ 26 nv ρ (ρ.join nv e)):=hq
 obtain ⟨q1,q2,q3⟩:=hq
 have e1:ag (aJ σ 26 nv ρ (ρ.join nv e)) ((aJ σ 26 nv ρ (ρ.join nv e)).iv 14) ((aJ σ 26 nv ρ (ρ.join nv e)).iv 15) 16=p:=hp
 have e2:ay (aJ σ 26 nv ρ (ρ.join nv e)) 0=a:=ha
 have e3:ag (aJ σ 26 nv ρ (ρ.join nv e)) ((aJ σ 26 nv ρ (ρ.join nv e)).iv 14) ((aJ σ 26 nv ρ (ρ.join nv e)).iv 15) 33=ag (ρ.join nv e) ((σ.af ρ).iv 14) ((σ.af ρ).iv 15) (nv+7):=by
  unfold ag
  rw [show (aJ σ 26 nv ρ (ρ.join nv e)).iv (33+1)=(ρ.join nv e).iv (nv+7+1) from iw 26 8,show (aJ σ 26 nv ρ (ρ.join nv e)).iv (33+3)=(ρ.join nv e).iv (nv+7+3) from iw 26 10,show (aJ σ 26 nv ρ (ρ.join nv e)).iv (33+4)=(ρ.join nv e).iv (nv+7+4) from iw 26 11,
    show (aJ σ 26 nv ρ (ρ.join nv e)).bv (33+5)=(ρ.join nv e).bv (nv+7+5) from kE 26 12,
    show (aJ σ 26 nv ρ (ρ.join nv e)).ic (33+6)=(ρ.join nv e).ic (nv+7+6) from tZ 26 13,show (aJ σ 26 nv ρ (ρ.join nv e)).bc (33+6)=(ρ.join nv e).bc (nv+7+6) from wz 26 13,
    show (aJ σ 26 nv ρ (ρ.join nv e)).ic (33+7)=(ρ.join nv e).ic (nv+7+7) from tZ 26 14,show (aJ σ 26 nv ρ (ρ.join nv e)).bc (33+7)=(ρ.join nv e).bc (nv+7+7) from wz 26 14,
    show (aJ σ 26 nv ρ (ρ.join nv e)).ic (33+8)=(ρ.join nv e).ic (nv+7+8) from tZ 26 15,show (aJ σ 26 nv ρ (ρ.join nv e)).bc (33+8)=(ρ.join nv e).bc (nv+7+8) from wz 26 15,
    show (aJ σ 26 nv ρ (ρ.join nv e)).ic (33+9)=(ρ.join nv e).ic (nv+7+9) from tZ 26 16]
  rfl
 have e4:aL (aJ σ 26 nv ρ (ρ.join nv e)) 26=aL (ρ.join nv e) nv:=by
  unfold aL av
  rw [show (aJ σ 26 nv ρ (ρ.join nv e)).iv 26=(ρ.join nv e).iv nv from iw 26 0,show (aJ σ 26 nv ρ (ρ.join nv e)).iv (26+1)=(ρ.join nv e).iv (nv+1) from iw 26 1,show (aJ σ 26 nv ρ (ρ.join nv e)).iv (26+2)=(ρ.join nv e).iv (nv+2) from iw 26 2,
    show (aJ σ 26 nv ρ (ρ.join nv e)).iv (26+3)=(ρ.join nv e).iv (nv+3) from iw 26 3,show (aJ σ 26 nv ρ (ρ.join nv e)).bv (26+4)=(ρ.join nv e).bv (nv+4) from kE 26 4,show (aJ σ 26 nv ρ (ρ.join nv e)).bv (26+5)=(ρ.join nv e).bv (nv+5) from kE 26 5]
 have e5:(aJ σ 26 nv ρ (ρ.join nv e)).bv 32=(ρ.join nv e).bv (nv+6):=kE 26 6
 have e6:bg (aJ σ 26 nv ρ (ρ.join nv e)) 33=bg (ρ.join nv e) (nv+7):=by
  unfold bg
  rw [show (aJ σ 26 nv ρ (ρ.join nv e)).bv 33=(ρ.join nv e).bv (nv+7) from kE 26 7,show (aJ σ 26 nv ρ (ρ.join nv e)).iv (33+1)=(ρ.join nv e).iv (nv+7+1) from iw 26 8,show (aJ σ 26 nv ρ (ρ.join nv e)).iv (33+2)=(ρ.join nv e).iv (nv+7+2) from iw 26 9]
 rw [e1,e2,e3,e4,e5] at q2
 rw [e6] at q1
 rw [e4,e5] at q3
 refine hK e q1 (by rw [q2]) ?_ ?_
 ·rw [q2]
  cases (ρ.join nv e).bv (nv+6) <;> rfl
 ·rw [q2]
  cases hb:(ρ.join nv e).bv (nv+6) with
  | true=>rfl
  | false=>exact q3 hb
end
theorem Zb (x n:Int) (h:0<n) (hx:0≤x):0≤x.tmod n∧x.tmod n<n:=by
 rw [Int.tmod_eq_emod_of_nonneg hx]
 exact ⟨Int.emod_nonneg _ (by omega),Int.emod_lt_of_pos _ h⟩
theorem Zc (x:Int):0≤IntKind.u64.wrap x:=by
 rw [IntKind.wrap_u64]
 omega
theorem Zd {x:Int} (h0:0≤x) (h1:x<100000):IntKind.u64.wrap x=x:=by
 rw [IntKind.wrap_u64]
 omega
theorem Mn.ext' {a b:Mn} (h1:a.r=b.r) (h2:a.pc=b.pc) (h3:a.old=b.old) (h4:a.node=b.node) (h5:a.bad=b.bad) (h6:a.stop=b.stop):a=b:=by
 cases a
 cases b
 simp only at *
 subst h1 h2 h3 h4 h5 h6
 rfl
theorem nA {m:Mn} (h:m.r.step≠0):∀k,m.go k=(m,none)
 | 0=>rfl
 | k+1=>by rw [Mn.go,if_pos h]
theorem VK {m:Mn} (h:m.r.step=0) (hs:m.stop=true∧m.pc=0) (k:Nat):m.go (k+1)=(m,some true):=by
 rw [Mn.go,if_neg (fun c=>c h),if_pos hs]
theorem XV {m:Mn} (h:m.r.step=0) (hs:¬(m.stop=true∧m.pc=0)) (hb:(m.r.begin m.next.2).2=true) (hn:m.next.1.r=m.r) (k:Nat):m.go (k+1)=Mn.go k {m.next.1 with r:=(m.r.begin m.next.2).1}:=by
 rw [Mn.go,if_neg (fun c=>c h),if_neg hs]
 simp only [hn]
 rw [if_neg (by rw [hb];decide)]
theorem XW (m:Mn) (r':RS) (h:r'.gW=m.r.gW):({m with r:=r'}:Mn).next=({m.next.1 with r:=r'},m.next.2):=by
 unfold Mn.next
 simp only [h]
 repeat' first
  | rfl
  | split
section
variable {σ:Sub} {ρ q:Env} {m d:Nat}
theorem VL (r:RS) (k:Nat):eU (aJ σ m d ρ q) r (m+k)=eU q r (d+k):=by
 unfold eU av
 simp only [Nat.add_assoc,iw,kE]
theorem VM (k:Nat):iK (aJ σ m d ρ q) (m+k)=iK q (d+k):=by
 unfold iK av
 simp only [Nat.add_assoc,iw,kE]
end
section
variable {post:Env→Prop} {cs:kM} {Γ:List (Env→Prop)} {ρ:Env}
theorem Qy {g nv:Nat} {σ:Sub} {k:Out} (hg:cs[g]?=some (jR,uu,mP)) (m:Mn) (hm:eU (σ.af ρ) m.r 0=m) (hr:aL (σ.af ρ) 13=m.r.gW) (hs:Small m) (K:Env→Prop)
  (hK:∀e,eU (ρ.join nv e) m.next.1.r nv=m.next.1→iK (ρ.join nv e) (nv+13)=m.next.2→K (ρ.join nv e)) (h:∀q,K q→Sat post cs Γ q k):Sat post cs Γ ρ (.call g σ nv k):=by
 have e0:eU (σ.af ρ) (kQ (aL (σ.af ρ) 13)) 0={m with r:=kQ m.r.gW}:=by
  rw [hr]
  have:=congrArg (fun x:Mn=>({x with r:=kQ m.r.gW}:Mn)) hm
  exact this
 refine Sat.iD (c:=jR) hg ?_ K (fun e hq=>?_) h
 ·show Mn.GN (eU (σ.af ρ) (kQ (aL (σ.af ρ) 13)) 0)
  rw [e0]
  exact ⟨hs.pc,hs.old,hs.rp⟩
 ·replace hq:mP (aJ σ 20 nv ρ (ρ.join nv e)):=hq
  obtain ⟨q1,q2⟩:=hq
  have c0:eU (aJ σ 20 nv ρ (ρ.join nv e)) (kQ (aL (aJ σ 20 nv ρ (ρ.join nv e)) 13)) 0=eU (σ.af ρ) (kQ (aL (σ.af ρ) 13)) 0:=rfl
  have c1:=VL (σ:=σ) (ρ:=ρ) (q:=ρ.join nv e) (m:=20) (d:=nv) (kQ (aL (aJ σ 20 nv ρ (ρ.join nv e)) 13)) 0
  have c2:=VM (σ:=σ) (ρ:=ρ) (q:=ρ.join nv e) (m:=20) (d:=nv) 13
  rw [c0,e0,XW m (kQ m.r.gW) rfl] at q1 q2
  rw [Nat.add_zero,Nat.add_zero] at c1
  refine hK e ?_ (c2.symm.trans q2)
  have:=c1.symm.trans q1
  have:=congrArg (fun x:Mn=>({x with r:=m.next.1.r}:Mn)) this
  exact this
end
def Ib:kM:=[(jR,uu,mP),(jc,uk,rz),(ng,El,rq),(lq,wF,uq)]
theorem Tu:∀k pre post,(k,pre,post)∈Ib→jF k=true∧bF Tryd.prog k pre post:=by
 intro k pre post h
 simp only [Ib,List.mem_cons,List.not_mem_nil,or_false,Prod.mk.injEq] at h
 rcases h with ⟨rfl,rfl,rfl⟩ | ⟨rfl,rfl,rfl⟩ | ⟨rfl,rfl,rfl⟩ | ⟨rfl,rfl,rfl⟩
 ·exact ⟨by kernel_rfl,Ql⟩
 ·exact ⟨by kernel_rfl,GI⟩
 ·exact ⟨by kernel_rfl,Ph⟩
 ·exact ⟨by kernel_rfl,SE⟩
noncomputable def Qz:Ex:={sched:=sched,loops:=[Yu],cons:=[jR,jc,ng,lq],fin:=jd}
def CO:Out :=
 .loop 96 {lo:=96,az:=18,iv:=yo [(145,yv 70)]<|yr 164 65 5<|yo [(158,yv 60),(157,yv 59),(155,yv 57),(154,yv 56)]<|yr 152 3 4<|yo [(147,yv 53),(146,yv 52),(148,yv 69),(143,yv 50),(142,yv 49),(140,yv 47)]<|yr 138 45 4<|yr 133 40 4<|yr 128 35 4<|yr 123 30 13<|yr 109 16 4<|yr 104 11 8<|yr 177 80 4<|yr 172 75 5<|[(96,.lit 0)],bv:=[(166,yw 67),(165,yw 66),(156,yw 58),(153,yw 55),(145,yw 51),(141,yw 48),(139,yw 46),(134,yw 41),(129,yw 36),(124,yw 31),(110,yw 17),(105,yw 12),(180,yw 83),(179,yw 82),(178,yw 81),(173,yw 76)],ct:=[(159,yu 70 59 7 yN 0),(148,yu 69 70 7 yN 0),(144,yu 68 49 5 yW 0),(167,yl 54 9 5 50 yW 0)],bk:=[(20,yc 12 7),(19,yc 11 7),(18,yc 10 5)]} <|
 .br (.bT (.var 96) (.lit 12))
 (.br (.aC (.var 115) (.lit 0))
  (.br (.and (.var 180) (.aC (.var 168) (.lit 0)))
   (.fin {lo:=96,az:=18,iv:=yo [(162,yv 145)]<|yr 180 90 4<|yr 157 164 5<|yo [(152,yv 158),(151,yv 157),(149,yv 155),(148,yv 154)]<|yr 190 152 4<|yo [(145,yv 147),(144,yv 146),(161,yv 148),(142,yv 143),(141,yv 142),(139,yv 140)]<|yr 137 138 4<|yr 132 133 4<|yr 127 128 4<|yr 122 123 13<|yr 108 109 4<|yr 103 104 8<|yr 172 177 4<|yr 167 172 5 [],bv:=[(181,yw 91),(176,yw 86),(159,yw 166),(158,yw 165),(150,yw 156),(147,yw 153),(143,yw 145),(140,yw 141),(138,yw 139),(133,yw 134),(128,yw 129),(123,yw 124),(109,yw 110),(104,yw 105),(175,yw 180),(174,yw 179),(173,yw 178),(168,yw 173),(186,.lit true)],ct:=[(185,yu 95 87 1 yI 0),(162,yu 159 157 7 yN 0),(161,yu 148 145 7 yN 0),(160,yu 144 142 5 yW 0),(184,.up {r:=94,n1:=.var 85,s1:=52,n2:=10,s2:=5,lo:=2,ks:=yW} 1 [] (.lit 0)),(183,yu 93 85 52 yB 0),(182,yu 92 84 5 yW 0),(146,yl 167 9 5 50 yW 0)],bk:=[(22,yb 17),(21,yc 16 1),(20,yc 20 7),(19,yc 19 7),(18,yc 18 5)]})
   (.call 0 {lo:=0,az:=0,iv:=yr 16 164 4<|yr 9 177 4<|yr 4 172 5 [],bv:=[(18,yw 166),(17,yw 165),(12,yw 180),(11,yw 179),(10,yw 178),(5,yw 173)],ct:=[(19,yl 167 9 5 50 yW 0)],bk:=[(1,yb 9),(0,yb 8)]} 181 <|
    .call 1 {lo:=0,az:=0,iv:=yo [(70,yv 145)]<|yr 65 164 5<|yo [(60,yv 158),(59,yv 157),(57,yv 155),(56,yv 154)]<|yr 3 152 4<|yo [(53,yv 147),(52,yv 146),(69,yv 148),(50,yv 143),(49,yv 142),(47,yv 140)]<|yr 45 138 4<|yr 40 133 4<|yr 35 128 4<|yr 30 123 13<|yr 16 109 4<|yr 11 104 8<|yr 88 211 4<|yr 83 206 4<|yr 78 201 8 [],bv:=[(67,yw 166),(66,yw 165),(58,yw 156),(55,yw 153),(51,yw 145),(48,yw 141),(46,yw 139),(41,yw 134),(36,yw 129),(31,yw 124),(17,yw 110),(12,yw 105),(84,yw 207),(79,yw 202)],ct:=[(70,yu 159 157 7 yN 0),(69,yu 148 145 7 yN 0),(68,yu 144 142 5 yW 0),(54,yl 167 9 5 50 yW 0)],bk:=[(3,yc 20 7),(2,yc 19 7),(1,yc 18 5),(0,yb 9)]} 212 <|
    .ob (.inr .i64 (.add (.var 96) (.lit 1))) <|
    .back 0 {lo:=96,az:=18,iv:=yo [(145,yv 278)]<|yr 164 273 5<|yo [(158,yv 268),(157,yv 267),(155,yv 265),(154,yv 264)]<|yr 152 152 4<|yo [(147,yv 261),(146,yv 260),(148,yv 277),(143,yv 258),(142,yv 257),(140,yv 255)]<|yr 138 253 4<|yr 133 248 4<|yr 128 243 4<|yr 123 238 13<|yr 109 224 4<|yr 104 219 8<|yr 177 190 4<|yr 172 185 5<|[(96,.add (.var 96) (.lit 1))],bv:=[(166,yw 275),(165,yw 274),(156,yw 266),(153,yw 263),(145,yw 259),(141,yw 256),(139,yw 254),(134,yw 249),(129,yw 244),(124,yw 239),(110,yw 225),(105,yw 220),(180,yw 193),(179,yw 192),(178,yw 191),(173,yw 186)],ct:=[(159,yu 278 267 7 yN 0),(148,yu 277 278 7 yN 0),(144,yu 276 257 5 yW 0),(167,yl 262 9 5 50 yW 0)],bk:=[(20,yc 23 7),(19,yc 22 7),(18,yc 21 5)]}))
  (.call 2 {lo:=0,az:=0,iv:=yr 20 90 4<|yo [(15,yv 85),(14,yv 84)]<|yr 12 128 4<|yr 7 123 8 [],bv:=[(21,yw 91),(16,yw 86),(13,yw 129),(8,yw 124)],ct:=[(25,yu 95 87 1 yI 0),(24,.up {r:=94,n1:=.var 85,s1:=52,n2:=10,s2:=5,lo:=2,ks:=yW} 1 [] (.lit 0)),(23,yu 93 85 52 yB 0),(22,yu 92 84 5 yW 0)],bk:=[(12,yb 17),(11,yc 16 1),(10,yc 15 52),(9,yc 14 5),(7,yb 7),(6,yb 6),(5,yb 5),(4,yb 4),(3,yb 3),(2,yb 2),(1,yb 1),(0,yb 0),(8,yb 13)]} 181 <|
   .br (.var 187)
   (.call 3 {lo:=0,az:=0,iv:=yo [(70,yv 145)]<|yr 65 164 5<|yo [(60,yv 158),(59,yv 157),(57,yv 155),(56,yv 154)]<|yr 3 152 4<|yo [(53,yv 147),(52,yv 146),(69,yv 148),(50,yv 143),(49,yv 142),(47,yv 140)]<|yr 45 138 4<|yr 40 133 4<|yr 35 128 4<|yr 30 123 13<|yr 16 109 4<|yr 11 104 8<|yr 74 184 4 [],bv:=[(67,yw 166),(66,yw 165),(58,yw 156),(55,yw 153),(51,yw 145),(48,yw 141),(46,yw 139),(41,yw 134),(36,yw 129),(31,yw 124),(17,yw 110),(12,yw 105),(76,yw 186),(75,yw 185)],ct:=[(70,yu 159 157 7 yN 0),(69,yu 148 145 7 yN 0),(68,yu 144 142 5 yW 0),(54,yl 167 9 5 50 yW 0)],bk:=[(3,yc 20 7),(2,yc 19 7),(1,yc 18 5),(0,yb 9)]} 198 <|
    .fin {lo:=96,az:=18,iv:=yo [(162,yv 264)]<|yr 180 192 4<|yr 157 259 7<|yo [(149,yv 251),(148,yv 250)]<|yr 190 152 4<|yo [(145,yv 247),(144,yv 246),(161,yv 263),(142,yv 244),(141,yv 243),(139,yv 241)]<|yr 137 239 4<|yr 132 234 4<|yr 127 229 4<|yr 122 224 13<|yr 108 210 4<|yr 103 205 8<|yr 172 177 4<|yr 167 172 5 [],bv:=[(181,yw 193),(176,yw 188),(159,yw 261),(158,yw 260),(150,yw 252),(147,yw 249),(143,yw 245),(140,yw 242),(138,yw 240),(133,yw 235),(128,yw 230),(123,yw 225),(109,yw 211),(104,yw 206),(175,yw 180),(174,yw 179),(173,yw 178),(168,yw 173),(186,.lit true)],ct:=[(185,yu 197 189 1 yI 0),(162,yu 264 253 7 yN 0),(161,yu 263 264 7 yN 0),(160,yu 262 243 5 yW 0),(184,.up {r:=196,n1:=.var 85,s1:=52,n2:=10,s2:=5,lo:=2,ks:=yW} 1 [] (.lit 0)),(183,yu 195 85 52 yB 0),(182,yu 194 84 5 yW 0),(146,yl 248 9 5 50 yW 0)],bk:=[(22,yb 24),(21,yc 23 1),(20,yc 28 7),(19,yc 27 7),(18,yc 26 5)]})
   (.fin {lo:=96,az:=18,iv:=yo [(162,yv 145)]<|yr 180 192 4<|yr 157 164 5<|yo [(152,yv 158),(151,yv 157),(149,yv 155),(148,yv 154)]<|yr 190 152 4<|yo [(145,yv 147),(144,yv 146),(161,yv 148),(142,yv 143),(141,yv 142),(139,yv 140)]<|yr 137 138 4<|yr 132 133 4<|yr 127 128 4<|yr 122 123 13<|yr 108 109 4<|yr 103 104 8<|yr 172 177 4<|yr 167 172 5 [],bv:=[(181,yw 193),(176,yw 188),(159,yw 166),(158,yw 165),(150,yw 156),(147,yw 153),(143,yw 145),(140,yw 141),(138,yw 139),(133,yw 134),(128,yw 129),(123,yw 124),(109,yw 110),(104,yw 105),(175,yw 180),(174,yw 179),(173,yw 178),(168,yw 173),(186,.lit false)],ct:=[(185,yu 197 189 1 yI 0),(162,yu 159 157 7 yN 0),(161,yu 148 145 7 yN 0),(160,yu 144 142 5 yW 0),(184,.up {r:=196,n1:=.var 85,s1:=52,n2:=10,s2:=5,lo:=2,ks:=yW} 1 [] (.lit 0)),(183,yu 195 85 52 yB 0),(182,yu 194 84 5 yW 0),(146,yl 167 9 5 50 yW 0)],bk:=[(22,yb 24),(21,yc 23 1),(20,yc 20 7),(19,yc 19 7),(18,yc 18 5)]})))
 (.br (.aC (.var 115) (.lit 0))
  (.fin {lo:=96,az:=18,iv:=yo [(162,yv 145)]<|yr 180 90 4<|yr 157 164 5<|yo [(152,yv 158),(151,yv 157),(149,yv 155),(148,yv 154)]<|yr 190 152 4<|yo [(145,yv 147),(144,yv 146),(161,yv 148),(142,yv 143),(141,yv 142),(139,yv 140)]<|yr 137 138 4<|yr 132 133 4<|yr 127 128 4<|yr 122 123 13<|yr 108 109 4<|yr 103 104 8<|yr 172 177 4<|yr 167 172 5 [],bv:=[(181,yw 91),(176,yw 86),(159,yw 166),(158,yw 165),(150,yw 156),(147,yw 153),(143,yw 145),(140,yw 141),(138,yw 139),(133,yw 134),(128,yw 129),(123,yw 124),(109,yw 110),(104,yw 105),(175,yw 180),(174,yw 179),(173,yw 178),(168,yw 173),(186,.lit false)],ct:=[(185,yu 95 87 1 yI 0),(162,yu 159 157 7 yN 0),(161,yu 148 145 7 yN 0),(160,yu 144 142 5 yW 0),(184,.up {r:=94,n1:=.var 85,s1:=52,n2:=10,s2:=5,lo:=2,ks:=yW} 1 [] (.lit 0)),(183,yu 93 85 52 yB 0),(182,yu 92 84 5 yW 0),(146,yl 167 9 5 50 yW 0)],bk:=[(22,yb 17),(21,yc 16 1),(20,yc 20 7),(19,yc 19 7),(18,yc 18 5)]})
  (.call 2 {lo:=0,az:=0,iv:=yr 20 90 4<|yo [(15,yv 85),(14,yv 84)]<|yr 12 128 4<|yr 7 123 8 [],bv:=[(21,yw 91),(16,yw 86),(13,yw 129),(8,yw 124)],ct:=[(25,yu 95 87 1 yI 0),(24,.up {r:=94,n1:=.var 85,s1:=52,n2:=10,s2:=5,lo:=2,ks:=yW} 1 [] (.lit 0)),(23,yu 93 85 52 yB 0),(22,yu 92 84 5 yW 0)],bk:=[(12,yb 17),(11,yc 16 1),(10,yc 15 52),(9,yc 14 5),(7,yb 7),(6,yb 6),(5,yb 5),(4,yb 4),(3,yb 3),(2,yb 2),(1,yb 1),(0,yb 0),(8,yb 13)]} 181 <|
   .br (.var 187)
   (.call 3 {lo:=0,az:=0,iv:=yo [(70,yv 145)]<|yr 65 164 5<|yo [(60,yv 158),(59,yv 157),(57,yv 155),(56,yv 154)]<|yr 3 152 4<|yo [(53,yv 147),(52,yv 146),(69,yv 148),(50,yv 143),(49,yv 142),(47,yv 140)]<|yr 45 138 4<|yr 40 133 4<|yr 35 128 4<|yr 30 123 13<|yr 16 109 4<|yr 11 104 8<|yr 74 184 4 [],bv:=[(67,yw 166),(66,yw 165),(58,yw 156),(55,yw 153),(51,yw 145),(48,yw 141),(46,yw 139),(41,yw 134),(36,yw 129),(31,yw 124),(17,yw 110),(12,yw 105),(76,yw 186),(75,yw 185)],ct:=[(70,yu 159 157 7 yN 0),(69,yu 148 145 7 yN 0),(68,yu 144 142 5 yW 0),(54,yl 167 9 5 50 yW 0)],bk:=[(3,yc 20 7),(2,yc 19 7),(1,yc 18 5),(0,yb 9)]} 198 <|
    .fin {lo:=96,az:=18,iv:=yo [(162,yv 264)]<|yr 180 192 4<|yr 157 259 7<|yo [(149,yv 251),(148,yv 250)]<|yr 190 152 4<|yo [(145,yv 247),(144,yv 246),(161,yv 263),(142,yv 244),(141,yv 243),(139,yv 241)]<|yr 137 239 4<|yr 132 234 4<|yr 127 229 4<|yr 122 224 13<|yr 108 210 4<|yr 103 205 8<|yr 172 177 4<|yr 167 172 5 [],bv:=[(181,yw 193),(176,yw 188),(159,yw 261),(158,yw 260),(150,yw 252),(147,yw 249),(143,yw 245),(140,yw 242),(138,yw 240),(133,yw 235),(128,yw 230),(123,yw 225),(109,yw 211),(104,yw 206),(175,yw 180),(174,yw 179),(173,yw 178),(168,yw 173),(186,.lit true)],ct:=[(185,yu 197 189 1 yI 0),(162,yu 264 253 7 yN 0),(161,yu 263 264 7 yN 0),(160,yu 262 243 5 yW 0),(184,.up {r:=196,n1:=.var 85,s1:=52,n2:=10,s2:=5,lo:=2,ks:=yW} 1 [] (.lit 0)),(183,yu 195 85 52 yB 0),(182,yu 194 84 5 yW 0),(146,yl 248 9 5 50 yW 0)],bk:=[(22,yb 24),(21,yc 23 1),(20,yc 28 7),(19,yc 27 7),(18,yc 26 5)]})
   (.fin {lo:=96,az:=18,iv:=yo [(162,yv 145)]<|yr 180 192 4<|yr 157 164 5<|yo [(152,yv 158),(151,yv 157),(149,yv 155),(148,yv 154)]<|yr 190 152 4<|yo [(145,yv 147),(144,yv 146),(161,yv 148),(142,yv 143),(141,yv 142),(139,yv 140)]<|yr 137 138 4<|yr 132 133 4<|yr 127 128 4<|yr 122 123 13<|yr 108 109 4<|yr 103 104 8<|yr 172 177 4<|yr 167 172 5 [],bv:=[(181,yw 193),(176,yw 188),(159,yw 166),(158,yw 165),(150,yw 156),(147,yw 153),(143,yw 145),(140,yw 141),(138,yw 139),(133,yw 134),(128,yw 129),(123,yw 124),(109,yw 110),(104,yw 105),(175,yw 180),(174,yw 179),(173,yw 178),(168,yw 173),(186,.lit false)],ct:=[(185,yu 197 189 1 yI 0),(162,yu 159 157 7 yN 0),(161,yu 148 145 7 yN 0),(160,yu 144 142 5 yW 0),(184,.up {r:=196,n1:=.var 85,s1:=52,n2:=10,s2:=5,lo:=2,ks:=yW} 1 [] (.lit 0)),(183,yu 195 85 52 yB 0),(182,yu 194 84 5 yW 0),(146,yl 167 9 5 50 yW 0)],bk:=[(22,yb 24),(21,yc 23 1),(20,yc 20 7),(19,yc 19 7),(18,yc 18 5)]})))
theorem QA:exec tab Qz 8000 [] (fT jd.f jd.nv [] jd.gl jd.hp jd.args)=CO:=by kernel_rfl
def nE (m:Mn) (p:PS):Prop:=∃k n e T own A i,k≤900000∧Good k n e p T own A i m
def M0 (q:Env):Mn:=eU q (ae q 0 4) 71
def P0 (q:Env):PS:=ag q (q.iv 84) (q.iv 85) 86
def Mc (q:Env):Mn:=eU q (vD q 97) 168
def CP (ρ:Env):Prop:=bJ ρ 4∧bg ρ 86∧nE (M0 ρ) (P0 ρ)
def GV (ρ:Env):Prop:=bJ ρ 96∧bg ρ 176∧(eU ρ (ae ρ 187 96) 163,ag ρ (ρ.iv 84) (ρ.iv 85) 176,ρ.bv 186)=(M0 ρ).step (P0 ρ)
def Km (q:Env):Prop:=SN q 97∧bg q 86∧(0≤q.iv 96∧q.iv 96≤12)∧nE (Mc q) (P0 q)∧(M0 q).go 12=(Mc q).go (12-q.iv 96).toNat
theorem VN {m m1:Mn} {p:PS} (hg:m.go 12=(m1,none)) (h0:m1.r.step≠0) {p':PS} {x:Rp} (ha:p.act m1.r.acc=(p',some x)):m.step p=({m1 with r:=(m1.r.aK x).1},p',(m1.r.aK x).2):=by
 unfold Mn.step
 rw [hg]
 simp only
 rw [if_neg h0,ha]
theorem QB {r:RS} {x:Rp} (h0:r.step≠0):(r.aK x).2=true:=by
 unfold RS.aK
 rw [if_neg h0]
 repeat' first
  | rfl
  | split
theorem nE.to {m m':Mn} {p p':PS} (h:nE m p) (e1:m'=m) (e2:p'=p):nE m' p':=by
 subst e1 e2
 exact h
theorem UE {a b:Mn} {j k:Nat} (h:b=a) (hj:j=k):a.go k=b.go j:=by
 subst h hj
 rfl
theorem UF {α β γ:Type} {a a':α} {b b':β} {c c':γ} (h1:a=a') (h2:b=b') (h3:c=c'):(a,b,c)=(a',b',c'):=by
 subst h1 h2 h3
 rfl
theorem XX {ρ:Env} {r r':RS} {v:Nat} {m:Mn} (h:eU ρ r v=m):eU ρ r' v={m with r:=r'}:=by
 subst h
 rfl
def ZP (c:Int) (u:Env):Prop:=(SN u 97∧bg u 86∧(0≤u.iv 96∧u.iv 96<12∧u.iv 96=c))∧nE (Mc u) (P0 u)∧(M0 u).go 12=(Mc u).go (12-u.iv 96).toNat∧¬((Mc u).stop=true∧(Mc u).pc=0)∧(Mc u).r.step=0∧eU u (Mc u).next.1.r 181=(Mc u).next.1∧iK u 194=(Mc u).next.2
def Md (v:Env):Mn:=eU v ((ae v 0 212).at (v.iv 149) (v.iv 150) (v.iv 151) (v.iv 152)) 181
def ZQ (c:Int) (v:Env):Prop:=(bJ v 212∧bg v 86∧(0≤v.iv 96∧v.iv 96<12∧v.iv 96=c))∧nE (Md v) (P0 v)∧(M0 v).go 12=(Md v).go (11-v.iv 96).toNat
def ZR (u:Env):Prop:=(SN u 97∧bg u 188)∧(M0 u).go 12=(Mc u,none)∧(Mc u).r.step≠0∧(ag u (u.iv 84) (u.iv 85) 188=((P0 u).act (Mc u).r.acc).1∧u.bv 187=((P0 u).act (Mc u).r.acc).2.isSome∧aL u 181=((P0 u).act (Mc u).r.acc).2.getD Rp.no)∧∃p' x,(P0 u).act (Mc u).r.acc=(p',some x)∧(Mc u).r.Tk x
def Me (v:Env):Mn:=eU v ((ae v 0 198).at (v.iv 149) (v.iv 150) (v.iv 151) (v.iv 152)) 168
def ZT (v:Env):Prop:=(bJ v 198∧bg v 188)∧(M0 v).step (P0 v)=(Me v,ag v (v.iv 84) (v.iv 85) 188,true)
set_option maxHeartbeats 8000000 in
theorem QC (ρ:Env) (hpre:CP ρ.num):Sat GV Ib [] ρ CO:=by
 replace hpre:CP ρ:=hpre
 obtain ⟨⟨o1,o2,o3⟩,ho,hG⟩:=hpre
 unfold CO
 refine Sat.uL Km (fun q=>(12-q.iv 96).toNat) (fun _=>True) ⟨⟨o1,o2,o3⟩,ho,⟨Int.le_refl 0,by show (0:Int)≤12;decide⟩,hG.to ?_ rfl,UE ?_ rfl⟩ (fun _=>trivial) fun q _ hI=>?_
 ·exact Mn.ext' (RS.ext' rfl rfl rfl rfl rfl rfl bB bE rfl rfl rfl rfl (fun i=>by simp [Mc,M0,Md,Me,eU,RS.at,ae,vD,aG,-Int.pred_toNat,Sub.af,assoc,CV.I,CV.B,ah,ai,aa.I,aa.B,SC.I,SC.B,IE.den,BE.den]) rfl bC rfl rfl) rfl rfl rfl rfl rfl
 ·exact Mn.ext' (RS.ext' rfl rfl rfl rfl rfl rfl bB bE rfl rfl rfl rfl (fun i=>by simp [Mc,M0,Md,Me,eU,RS.at,ae,vD,aG,-Int.pred_toNat,Sub.af,assoc,CV.I,CV.B,ah,ai,aa.I,aa.B,SC.I,SC.B,IE.den,BE.den]) rfl bC rfl rfl) rfl rfl rfl rfl rfl
 replace hI:Km q:=hI
 rw [show (12-q.num.iv 96).toNat=(12-q.iv 96).toNat from rfl]
 obtain ⟨hl,ho,⟨i1,i2⟩,hG,hgo⟩:=hI
 have hG':=hG
 obtain ⟨k,n,e,T,own,A,i,hk,G⟩:=hG'
 have o1:=hl.1
 have o2:=hl.2.1
 have o3:=hl.2.2
 have e40:(Mc q).r.step=q.iv 115:=rfl
 refine Sat.br (fun c1=>Sat.br (fun c2=>?_) (fun c2=>?_)) (fun c1=>Sat.br (fun c2=>?_) (fun c2=>?_))
 ·replace c1:q.iv 96<12:=of_decide_eq_true c1
  replace c2:(Mc q).r.step=0:=beq_iff_eq.1 c2
  obtain ⟨j,hj⟩:∃j,(12-q.iv 96).toNat=j+1:=⟨(12-q.iv 96).toNat-1,by omega⟩
  refine Sat.br (fun c3=>?_) (fun c3=>?_)
  ·replace c3:(Mc q).stop=true∧(Mc q).pc=0:=by
    have h:(q.bv 180 && (q.iv 168 == 0))=true:=c3
    rw [Bool.and_eq_true,beq_iff_eq] at h
    exact h
   have hs:(M0 q).step (P0 q)=(Mc q,P0 q,true):=by
    unfold Mn.step
    rw [hgo,hj,VK c2 c3]
   refine Sat.fin ⟨⟨o1,o2,o3⟩,ho,Eq.trans (UF ?_ ?_ rfl) hs.symm⟩
   ·exact Mn.ext' (RS.ext' rfl rfl rfl rfl rfl rfl bB bE rfl rfl rfl rfl (fun i=>by simp [Mc,M0,Md,Me,eU,RS.at,ae,vD,aG,-Int.pred_toNat,Sub.af,assoc,CV.I,CV.B,ah,ai,aa.I,aa.B,SC.I,SC.B,IE.den,BE.den]) rfl bC rfl rfl) rfl rfl rfl rfl rfl
   ·exact (PS.ext' rfl rfl rfl rfl rfl rfl (fun i=>by simp [P0,ag,jr,aG,-Int.pred_toNat,Sub.af,assoc,CV.I,CV.B,ah,ai,aa.I,aa.B,SC.I,SC.B,IE.den,BE.den]) (fun i=>by simp [P0,ag,jr,-Int.pred_toNat,Sub.af,assoc,CV.I,CV.B,ah,ai,aa.I,aa.B,SC.I,SC.B,IE.den,BE.den]) (fun i=>by simp [P0,ag,jr,-Int.pred_toNat,Sub.af,assoc,CV.I,CV.B,ah,ai,aa.I,aa.B,SC.I,SC.B,IE.den,BE.den]) (fun i k=>by simp [P0,ag,jr,aG,-Int.pred_toNat,Sub.af,assoc,CV.I,CV.B,ah,ai,aa.I,aa.B,SC.I,SC.B,IE.den,BE.den]) (fun i=>by simp [P0,ag,jr,-Int.pred_toNat,Sub.af,assoc,CV.I,CV.B,ah,ai,aa.I,aa.B,SC.I,SC.B,IE.den,BE.den]))
  ·replace c3:¬((Mc q).stop=true∧(Mc q).pc=0):=fun h=>by
    have h':(q.bv 180 && (q.iv 168 == 0))=false:=c3
    have h1:q.bv 180=true:=h.1
    have h2:q.iv 168=0:=h.2
    rw [h1,h2] at h'
    cases h'
   refine Qy rfl (Mc q) rfl rfl (G.small (by omega) c2) (ZP (q.iv 96)) (fun e h1 h2=>⟨⟨hl,ho,i1,c1,rfl⟩,hG,hgo,c3,c2,h1,h2⟩) fun u hu=>?_
   clear hl ho i1 i2 hG G hgo c1 c2 c3 hj o1 o2 o3 e40 hk
   obtain ⟨⟨hl,ho,i1,i2,ic⟩,hG,hgo,c3,c2,hm,hc⟩:=hu
   have o1:=hl.1
   have o2:=hl.2.1
   have o3:=hl.2.2
   obtain ⟨k,n,e,T,own,A,i,hk,G⟩:=hG
   obtain ⟨g1,g2,g3,own',G'⟩:=G.dP c2
   refine NP rfl (Mc u).r (Mc u).next.2 (RS.ext' rfl rfl rfl rfl rfl rfl bB bE rfl rfl rfl rfl (fun i=>by simp [Mc,M0,Md,Me,eU,RS.at,ae,vD,aG,-Int.pred_toNat,Sub.af,assoc,CV.I,CV.B,ah,ai,aa.I,aa.B,SC.I,SC.B,IE.den,BE.den]) rfl bC rfl rfl) hc ⟨o1,o2,o3⟩ G.rs.1 G.rs.2 c2 g1 (ZQ (q.iv 96)) (fun e h1 h2=>?_) fun v hv=>?_
   ·have hmd:Md (u.join 212 e)={(Mc u).next.1 with r:=((Mc u).r.begin (Mc u).next.2).1}:=by
     rw [←h2]
     exact XX hm
    refine ⟨⟨h1,ho,i1,i2,ic⟩,?_,?_⟩
    ·rw [hmd]
     exact ⟨k,n,_,_,_,_,_,hk,G'⟩
    ·rw [hmd]
     refine Eq.trans hgo ?_
     rw [show (12-u.iv 96).toNat=(11-u.iv 96).toNat+1 by omega]
     exact XV c2 c3 g2 g3 _
   ·clear hl ho i1 i2 G G' hgo c2 c3 o1 o2 o3 hm hc g1 g2 g3 hk
    obtain ⟨⟨hl,ho,i1,i2,ic⟩,hG,hgo⟩:=hv
    have o1:=hl.1
    have o2:=hl.2.1
    have o3:=hl.2.2
    refine Sat.ob (by simp only [Da];omega) (Sat.back rfl ⟨⟨⟨o1,o2,o3⟩,ho,⟨by show 0≤v.iv 96+1;omega,by show v.iv 96+1≤12;omega⟩,hG.to ?_ rfl,hgo.trans (UE ?_ ?_)⟩,?_⟩)
    ·exact Mn.ext' (RS.ext' rfl rfl rfl rfl rfl rfl bB bE rfl rfl rfl rfl (fun i=>by simp [Mc,M0,Md,Me,eU,RS.at,ae,vD,aG,-Int.pred_toNat,Sub.af,assoc,CV.I,CV.B,ah,ai,aa.I,aa.B,SC.I,SC.B,IE.den,BE.den]) rfl bC rfl rfl) rfl rfl rfl rfl rfl
    ·exact Mn.ext' (RS.ext' rfl rfl rfl rfl rfl rfl bB bE rfl rfl rfl rfl (fun i=>by simp [Mc,M0,Md,Me,eU,RS.at,ae,vD,aG,-Int.pred_toNat,Sub.af,assoc,CV.I,CV.B,ah,ai,aa.I,aa.B,SC.I,SC.B,IE.den,BE.den]) rfl bC rfl rfl) rfl rfl rfl rfl rfl
    ·show (12-(v.iv 96+1)).toNat=(11-v.iv 96).toNat
     omega
    ·show (12-(v.iv 96+1)).toNat<(12-q.iv 96).toNat
     omega
 rotate_left
 ·replace c1:¬q.iv 96<12:=of_decide_eq_false c1
  replace c2:(Mc q).r.step=0:=beq_iff_eq.1 c2
  have hs:(M0 q).step (P0 q)=(Mc q,P0 q,false):=by
   unfold Mn.step
   rw [hgo,show (12-q.iv 96).toNat=0 by omega,show (Mc q).go 0=(Mc q,none) from rfl]
   simp only
   rw [if_pos c2]
  refine Sat.fin ⟨⟨o1,o2,o3⟩,ho,Eq.trans (UF ?_ ?_ rfl) hs.symm⟩
  ·exact Mn.ext' (RS.ext' rfl rfl rfl rfl rfl rfl bB bE rfl rfl rfl rfl (fun i=>by simp [Mc,M0,Md,Me,eU,RS.at,ae,vD,aG,-Int.pred_toNat,Sub.af,assoc,CV.I,CV.B,ah,ai,aa.I,aa.B,SC.I,SC.B,IE.den,BE.den]) rfl bC rfl rfl) rfl rfl rfl rfl rfl
  ·exact (PS.ext' rfl rfl rfl rfl rfl rfl (fun i=>by simp [P0,ag,jr,aG,-Int.pred_toNat,Sub.af,assoc,CV.I,CV.B,ah,ai,aa.I,aa.B,SC.I,SC.B,IE.den,BE.den]) (fun i=>by simp [P0,ag,jr,-Int.pred_toNat,Sub.af,assoc,CV.I,CV.B,ah,ai,aa.I,aa.B,SC.I,SC.B,IE.den,BE.den]) (fun i=>by simp [P0,ag,jr,-Int.pred_toNat,Sub.af,assoc,CV.I,CV.B,ah,ai,aa.I,aa.B,SC.I,SC.B,IE.den,BE.den]) (fun i k=>by simp [P0,ag,jr,aG,-Int.pred_toNat,Sub.af,assoc,CV.I,CV.B,ah,ai,aa.I,aa.B,SC.I,SC.B,IE.den,BE.den]) (fun i=>by simp [P0,ag,jr,-Int.pred_toNat,Sub.af,assoc,CV.I,CV.B,ah,ai,aa.I,aa.B,SC.I,SC.B,IE.den,BE.den]))
 all_goals
  replace c2:(Mc q).r.step≠0:=beq_eq_false_iff_ne.1 c2
  rw [nA c2] at hgo
  obtain ⟨p',x,ha,htk,hok⟩:=G.acc (by omega) c2
  have hst:=G.st
  refine VJ rfl (P0 q) (Mc q).r.acc (n:=q.iv 84) (m:=q.iv 85) rfl rfl (PS.ext' rfl rfl rfl rfl rfl rfl (fun i=>by simp [P0,ag,jr,aG,-Int.pred_toNat,Sub.af,assoc,CV.I,CV.B,ah,ai,aa.I,aa.B,SC.I,SC.B,IE.den,BE.den]) (fun i=>by simp [P0,ag,jr,-Int.pred_toNat,Sub.af,assoc,CV.I,CV.B,ah,ai,aa.I,aa.B,SC.I,SC.B,IE.den,BE.den]) (fun i=>by simp [P0,ag,jr,-Int.pred_toNat,Sub.af,assoc,CV.I,CV.B,ah,ai,aa.I,aa.B,SC.I,SC.B,IE.den,BE.den]) (fun i k=>by simp [P0,ag,jr,aG,-Int.pred_toNat,Sub.af,assoc,CV.I,CV.B,ah,ai,aa.I,aa.B,SC.I,SC.B,IE.den,BE.den]) (fun i=>by simp [P0,ag,jr,-Int.pred_toNat,Sub.af,assoc,CV.I,CV.B,ah,ai,aa.I,aa.B,SC.I,SC.B,IE.den,BE.den])) rfl ho hok (by omega) ZR (fun e h1 h2 h3 h4=>⟨⟨hl,h1⟩,hgo,c2,⟨h2,h3,h4⟩,p',x,ha,htk⟩) fun u hu=>?_
  clear hl ho i1 i2 hG G hgo c1 c2 o1 o2 o3 e40 hk hst ha htk hok
  obtain ⟨⟨hl,ho⟩,hgo,c2,⟨h1,h2,h3⟩,p',x,ha,htk⟩:=hu
  have o1:=hl.1
  have o2:=hl.2.1
  have o3:=hl.2.2
  rw [ha] at h1 h2 h3
  refine Sat.br (fun c3=>?_) (fun c3=>?_)
  ·refine Qh rfl (Mc u).r x (RS.ext' rfl rfl rfl rfl rfl rfl bB bE rfl rfl rfl rfl (fun i=>by simp [Mc,M0,Md,Me,eU,RS.at,ae,vD,aG,-Int.pred_toNat,Sub.af,assoc,CV.I,CV.B,ah,ai,aa.I,aa.B,SC.I,SC.B,IE.den,BE.den]) rfl bC rfl rfl) h3 ⟨o1,o2,o3⟩ htk ZT (fun e g1 g2=>⟨⟨g1,ho⟩,?_⟩) fun v hv=>?_
   ·refine (VN hgo c2 ha).trans (UF ?_ h1.symm (QB c2))
    rw [←g2]
    rfl
   ·obtain ⟨⟨hl,ho⟩,hs⟩:=hv
    have o1:=hl.1
    have o2:=hl.2.1
    have o3:=hl.2.2
    refine Sat.fin ⟨⟨o1,o2,o3⟩,ho,Eq.trans (UF ?_ ?_ rfl) hs.symm⟩
    ·exact Mn.ext' (RS.ext' rfl rfl rfl rfl rfl rfl bB bE rfl rfl rfl rfl (fun i=>by simp [Mc,M0,Md,Me,eU,RS.at,ae,vD,aG,-Int.pred_toNat,Sub.af,assoc,CV.I,CV.B,ah,ai,aa.I,aa.B,SC.I,SC.B,IE.den,BE.den]) rfl bC rfl rfl) rfl rfl rfl rfl rfl
    ·exact (PS.ext' rfl rfl rfl rfl rfl rfl (fun i=>by simp [P0,ag,jr,aG,-Int.pred_toNat,Sub.af,assoc,CV.I,CV.B,ah,ai,aa.I,aa.B,SC.I,SC.B,IE.den,BE.den]) (fun i=>by simp [P0,ag,jr,-Int.pred_toNat,Sub.af,assoc,CV.I,CV.B,ah,ai,aa.I,aa.B,SC.I,SC.B,IE.den,BE.den]) (fun i=>by simp [P0,ag,jr,-Int.pred_toNat,Sub.af,assoc,CV.I,CV.B,ah,ai,aa.I,aa.B,SC.I,SC.B,IE.den,BE.den]) (fun i k=>by simp [P0,ag,jr,aG,-Int.pred_toNat,Sub.af,assoc,CV.I,CV.B,ah,ai,aa.I,aa.B,SC.I,SC.B,IE.den,BE.den]) (fun i=>by simp [P0,ag,jr,-Int.pred_toNat,Sub.af,assoc,CV.I,CV.B,ah,ai,aa.I,aa.B,SC.I,SC.B,IE.den,BE.den]))
  ·exfalso
   replace c3:u.bv 187=false:=c3
   rw [h2] at c3
   cases c3
theorem QD:bF Tryd.prog jd CP GV :=
 dH eQ (E:=Qz) (cs:=Ib) rfl Tu cK rfl QA (by kernel_rfl) (fun ρ _ p hp=>by cases hp) QC
end Go.Proofs.YthomdlajobnmnaaDoor
namespace Go.Rex
def dJ (ρ:Env) (ν:Nat→Addr) (hp:List SB) (b:Nat):Prop:=∃(k:Nat) (sb:SB),hp[k]?=some sb∧sb.dead ρ=false∧b=(ν k).block
theorem oP {ρ:Env} {ν:Nat→Addr} {hp:List SB} {b:Nat} (h:jX ρ ν hp b):dJ ρ ν hp b:=by
 obtain ⟨k,sb,h1,-,h3,rfl⟩:=h
 exact ⟨k,sb,h1,h3,rfl⟩
theorem QE {ρ:Env} {ν:Nat→Addr} {hp:List SB} (ha:nQ hp=true) {b:Nat} (h:dJ ρ ν hp b):jX ρ ν hp b:=by
 obtain ⟨k,sb,h1,h3,rfl⟩:=h
 exact ⟨k,sb,h1,(q9 ha h1 (SB.dN h3)).1,h3,rfl⟩
theorem uw {ρ:Env} {ν:Nat→Addr} {hp:List SB} {w:World} (h:aN ρ ν hp w) {b:Nat} (hb:dJ ρ ν hp b):b<w.heap.size:=by
 obtain ⟨k,sb,h1,h3,rfl⟩:=hb
 exact h.lt h1 h3
theorem rE {nv n:Nat} {ρ ρ':Env} {ν aO:Nat→Addr} (hA:dL nv n ρ ρ' ν aO) {hp:List SB} (hs:nH nv n hp=true) (hl:hp.length≤n) {b:Nat}:dJ ρ' aO hp b↔dJ ρ ν hp b:=by
 constructor
 ·rintro ⟨k,sb,h1,h3,rfl⟩
  have:=(List.getElem?_eq_some_iff.1 h1).1
  exact ⟨k,sb,h1,by rwa [SB.lh hA (iN hs k sb h1)] at h3,by rw [hA.bl k (by omega)]⟩
 ·rintro ⟨k,sb,h1,h3,rfl⟩
  have:=(List.getElem?_eq_some_iff.1 h1).1
  exact ⟨k,sb,h1,by rwa [SB.lh hA (iN hs k sb h1)],by rw [hA.bl k (by omega)]⟩
theorem aN.join {a b:List SB} {N:Nat} {pV nU:Env} {uy rQ:Nat→Addr} {w:World} (ha:aN pV uy a w) (hb:aN nU rQ b w) (hs:nH N a.length a=true) (hd:∀x,dJ pV uy a x→dJ nU rQ b x→False) :
  aN (pV.cat N nU) (iI a.length uy rQ) (a ++ b.map (SB.aV (N+·) (a.length+·))) w:=by
 have hA:=dL.cat N a.length pV nU uy rQ
 have e1:(pV.cat N nU).pull (N+·)=nU:=Env.Ch N pV nU
 have e2:(fun k=>iI a.length uy rQ (a.length+k))=rQ:=funext fun k=>ko ..
 refine aN.app (ha.ext hA hs (Nat.le_refl _)) (by rw [e1,e2];exact hb) fun i j x y hi hj dx dy _ he=>?_
 rw [e1] at dy
 have hl:=(List.getElem?_eq_some_iff.1 hi).1
 rw [nu _ _ _ hl,ko] at he
 rw [SB.lh hA (iN hs i x hi)] at dx
 exact hd _ ⟨i,x,hi,dx,rfl⟩ ⟨j,y,hj,dy,he⟩
theorem NV {a b:List SB} {N:Nat} {pV nU:Env} {uy rQ:Nat→Addr} (hs:nH N a.length a=true) {x:Nat}:dJ (pV.cat N nU) (iI a.length uy rQ) (a ++ b.map (SB.aV (N+·) (a.length+·))) x↔dJ pV uy a x∨dJ nU rQ b x:=by
 have hA:=dL.cat N a.length pV nU uy rQ
 have e1:(pV.cat N nU).pull (N+·)=nU:=Env.Ch N pV nU
 constructor
 ·rintro ⟨k,sb,h1,h3,rfl⟩
  rw [List.getElem?_append] at h1
  split at h1
  ·rename_i hk
   rw [SB.lh hA (iN hs k sb h1)] at h3
   exact .inl ⟨k,sb,h1,h3,by rw [nu _ _ _ hk]⟩
  ·rename_i hk
   rw [List.getElem?_map,Option.map_eq_some_iff] at h1
   obtain ⟨c,hc,rfl⟩:=h1
   rw [SB.fK,e1] at h3
   refine .inr ⟨k-a.length,c,hc,h3,?_⟩
   have:=ko a.length uy rQ (k-a.length)
   rw [show a.length+(k-a.length)=k by omega] at this
   rw [this]
 ·rintro (⟨k,sb,h1,h3,rfl⟩ | ⟨k,sb,h1,h3,rfl⟩)
  ·have hk:=(List.getElem?_eq_some_iff.1 h1).1
   exact ⟨k,sb,by rw [List.getElem?_append_left hk];exact h1,by rwa [SB.lh hA (iN hs k sb h1)],by rw [nu _ _ _ hk]⟩
  ·refine ⟨a.length+k,sb.aV (N+·) (a.length+·),?_,by rw [SB.fK,e1];exact h3,by rw [ko]⟩
   rw [List.getElem?_append_right (by omega),show a.length+k-a.length=k by omega,List.getElem?_map,h1]
   rfl
theorem zX {a b:List SB} {N:Nat} {pV nU:Env} {uy rQ:Nat→Addr} (hs:nH N a.length a=true) {x:Nat} (h:jX (pV.cat N nU) (iI a.length uy rQ) (a ++ b.map (SB.aV (N+·) (a.length+·))) x):jX pV uy a x∨jX nU rQ b x:=by
 have hA:=dL.cat N a.length pV nU uy rQ
 have e1:(pV.cat N nU).pull (N+·)=nU:=Env.Ch N pV nU
 obtain ⟨k,sb,h1,h2,h3,rfl⟩:=h
 rw [List.getElem?_append] at h1
 split at h1
 ·rename_i hk
  rw [SB.lh hA (iN hs k sb h1)] at h3
  exact .inl ⟨k,sb,h1,h2,h3,by rw [nu _ _ _ hk]⟩
 ·rename_i hk
  rw [List.getElem?_map,Option.map_eq_some_iff] at h1
  obtain ⟨c,hc,rfl⟩:=h1
  rw [SB.fK,e1] at h3
  refine .inr ⟨k-a.length,c,hc,h2,h3,?_⟩
  have:=ko a.length uy rQ (k-a.length)
  rw [show a.length+(k-a.length)=k by omega] at this
  rw [this]
def Yy (hp:List SB):Bool:=hp.all fun b=>!b.own
theorem qG {ρ:Env} {ν:Nat→Addr} {hp:List SB} (h:Yy hp=true) {x:Nat} (hx:jX ρ ν hp x):False:=by
 obtain ⟨k,sb,h1,h2,-,-⟩:=hx
 have:=List.all_eq_true.1 h sb (List.mem_of_getElem? h1)
 rw [h2] at this
 cases this
theorem Ev {H hp:List SB} {f g:Nat→Nat} (hg:(List.range hp.length).map (fun j=>H[g j]?)=hp.map fun sb=>some (sb.aV f g)) {k:Nat} {sb:SB} (hk:hp[k]?=some sb):H[g k]?=some (sb.aV f g):=by
 have hlt:=(List.getElem?_eq_some_iff.1 hk).1
 have:=congrArg (fun l=>l[k]?) hg
 simp only [List.getElem?_map,List.getElem?_range hlt,hk,Option.map_some] at this
 exact Option.some.inj this
theorem QG {ρ:Env} {ν:Nat→Addr} {H hp:List SB} {f g:Nat→Nat} (hg:(List.range hp.length).map (fun j=>H[g j]?)=hp.map fun sb=>some (sb.aV f g)) {x:Nat} (h:dJ (ρ.pull f) (fun k=>ν (g k)) hp x):dJ ρ ν H x:=by
 obtain ⟨k,sb,h1,h3,rfl⟩:=h
 exact ⟨g k,sb.aV f g,Ev hg h1,by rw [SB.fK];exact h3,rfl⟩
theorem QH {ρ:Env} {ν:Nat→Addr} {w:World} {H hp hq:List SB} {f g f' g':Nat→Nat} (h:aN ρ ν H w) (hg:(List.range hp.length).map (fun j=>H[g j]?)=hp.map fun sb=>some (sb.aV f g)) (hg':(List.range hq.length).map (fun j=>H[g' j]?)=hq.map fun sb=>some (sb.aV f' g'))
  (hn:∀i j,i<hp.length→j<hq.length→g i≠g' j) (ho:nQ hp=true) {x:Nat} (h1:dJ (ρ.pull f) (fun k=>ν (g k)) hp x) (h2:dJ (ρ.pull f') (fun k=>ν (g' k)) hq x):False:=by
 obtain ⟨k,sb,a1,a3,rfl⟩:=h1
 obtain ⟨j,sc,b1,b3,he⟩:=h2
 refine hn k j (List.getElem?_eq_some_iff.1 a1).1 (List.getElem?_eq_some_iff.1 b1).1 ?_
 exact h.inj (g k) (g' j) _ _ (Ev hg a1) (Ev hg' b1) (by rw [SB.fK];exact a3) (by rw [SB.fK];exact b3) (q9 ho a1 (SB.dN a3)).2 he
theorem aN.Ew {ρ:Env} {ν:Nat→Addr} {hp:List SB} {w w':World} (ha:nQ hp=true) (h:aN ρ ν hp w) (hk:∀b,dJ ρ ν hp b→w'.heap[b]?=w.heap[b]?):aN ρ ν hp w' :=
 h.frame ha fun b hb=>hk b (oP hb)
theorem kX.aI {z:Nat} {W:Nat→Prop} {ρ:Env} {ν:Nat→Addr} {hp:List SB} (ha:nQ hp=true) (h:kX z W ρ ν hp) {b:Nat} (hb:dJ ρ ν hp b):z≤b∨W b:=Vf h (QE ha hb)
end Go.Rex
namespace Go.Proofs.YthomdlajobnmnaaDoor
open Go.Rex
structure lG (w:World) (a:Addr) (p:PS) (B:Nat→Prop):Prop where
 ex:∃ρ ν,ν 0=a∧aN ρ ν iq w∧ag ρ (ρ.iv 0) (ρ.iv 1) 2=p∧bg ρ 2∧∀b,dJ ρ ν iq b→B b
structure lT (w:World) (a:Addr) (m:Mn) (B:Nat→Prop):Prop where
 ex:∃ρ ν,ν 0=a∧aN ρ ν jB w∧eU ρ (ae ρ 0 4) 71=m∧bJ ρ 4∧∀b,dJ ρ ν jB b→B b
structure qH (w:World) (iF:Nat→Addr):Prop where
 hp:∃ρ,aN ρ iF gF w
 gl:jo iF (gL zF 0)
theorem Ey:nQ iq=true:=by kernel_rfl
theorem NW:nQ jB=true:=by kernel_rfl
section
variable {w w':World} {a:Addr} {p:PS} {m:Mn} {B B':Nat→Prop}
theorem lG.frame (h:lG w a p B) (hk:∀b,B b→w'.heap[b]?=w.heap[b]?):lG w' a p B:=by
 obtain ⟨ρ,ν,h1,h2,h3,h4,h5⟩:=h.ex
 exact ⟨ρ,ν,h1,h2.Ew Ey fun b hb=>hk b (h5 b hb),h3,h4,h5⟩
theorem lT.frame (h:lT w a m B) (hk:∀b,B b→w'.heap[b]?=w.heap[b]?):lT w' a m B:=by
 obtain ⟨ρ,ν,h1,h2,h3,h4,h5⟩:=h.ex
 exact ⟨ρ,ν,h1,h2.Ew NW fun b hb=>hk b (h5 b hb),h3,h4,h5⟩
theorem lG.mono (h:lG w a p B) (hk:∀b,B b→b<w.heap.size→B' b):lG w a p B':=by
 obtain ⟨ρ,ν,h1,h2,h3,h4,h5⟩:=h.ex
 exact ⟨ρ,ν,h1,h2,h3,h4,fun b hb=>hk b (h5 b hb) (uw h2 hb)⟩
theorem lT.mono (h:lT w a m B) (hk:∀b,B b→b<w.heap.size→B' b):lT w a m B':=by
 obtain ⟨ρ,ν,h1,h2,h3,h4,h5⟩:=h.ex
 exact ⟨ρ,ν,h1,h2,h3,h4,fun b hb=>hk b (h5 b hb) (uw h2 hb)⟩
theorem qH.frame {iF:Nat→Addr} (h:qH w iF) (hz:w.heap.size≤w'.heap.size) (hk:∀k,k<8→w'.heap[(iF k).block]?=w.heap[(iF k).block]?):qH w' iF:=by
 obtain ⟨⟨ρ,h1⟩,h2⟩:=h
 exact ⟨⟨ρ,h1.EY hz fun k sb hk' _=>hk k (Nat.lt_of_lt_of_le (List.getElem?_eq_some_iff.1 hk').1 (by decide))⟩,h2⟩
end
def fM (i:Nat):Nat:=if i<4 then i+187 else i+92
def gM:Nat→Nat
 | 0=>8
 | 1=>9
 | k=>k+16
def fP:Nat→Nat
 | 0=>84
 | 1=>85
 | i=>i+174
def gP:Nat→Nat
 | 0=>13
 | 1=>14
 | 2=>15
 | k=>k+18
theorem Tv:(List.range jB.length).map (fun j=>jd.hp'[gM j]?)=jB.map fun sb=>some (sb.aV fM gM):=by kernel_rfl
theorem Tw:(List.range iq.length).map (fun j=>jd.hp'[gP j]?)=iq.map fun sb=>some (sb.aV fP gP):=by kernel_rfl
theorem XY:∀i j,i<jB.length→j<jB.length→gM i=gM j→i=j:=by
 intro i j hi hj h
 replace hi:i<5:=hi
 replace hj:j<5:=hj
 match i,j,hi,hj,h with
 | 0,0,_,_,_=>rfl
 | 1,1,_,_,_=>rfl
 | i+2,j+2,_,_,h =>
  have h:i+2+16=j+2+16:=h
  omega
 | 0,1,_,_,h=>cases h
 | 1,0,_,_,h=>cases h
 | 0,j+2,_,_,h =>
  have h:8=j+2+16:=h
  omega
 | 1,j+2,_,_,h =>
  have h:9=j+2+16:=h
  omega
 | i+2,0,_,_,h =>
  have h:i+2+16=8:=h
  omega
 | i+2,1,_,_,h =>
  have h:i+2+16=9:=h
  omega
theorem XZ:∀i j,i<iq.length→j<iq.length→gP i=gP j→i=j:=by
 have:∀i,i<5→∀j,j<5→gP i=gP j→i=j:=by decide
 intro i j hi hj
 exact this i hi j hj
theorem gMP:∀i j,i<jB.length→j<iq.length→gM i≠gP j:=by
 have:∀i,i<5→∀j,j<5→gM i≠gP j:=by decide
 intro i j hi hj
 exact this i hi j hj
theorem VO {w:World} {a aP:Addr} {m:Mn} {p:PS} {BM BP:Nat→Prop} {iF:Nat→Addr} (hs:qH w iF) (hm:lT w a m BM) (hp:lG w aP p BP) (hd:∀b,BM b→BP b→False) (hz:∀k,k<8→¬BM (iF k).block∧¬BP (iF k).block) (hpre:nE m p) :
  Calls Tryd.prog 22 #[.pointer (some a),.pointer (some aP)] w fun e w'=>e=.returned (.bool (m.step p).2.2)∧∃LX LY,lT w' a (m.step p).1 LX∧lG w' aP (m.step p).2.1 LY∧(∀b,LX b→LY b→False)∧(∀b,LX b∨LY b→w.heap.size≤b∨BM b∨BP b)∧jL w (fun b=>BM b∨BP b) w':=by
 obtain ⟨UG,QI,rfl,hmh,rfl,hmo,hmb⟩:=hm.ex
 obtain ⟨dC,fH,rfl,Ko,rfl,hpo,hpb⟩:=hp.ex
 obtain ⟨⟨GX,hsh⟩,hgl⟩:=hs
 have hsB:∀x,dJ GX iF gF x→∃k,k<8∧x=(iF k).block:=by
  rintro x ⟨k,sb,h1,_,rfl⟩
  exact ⟨k,Nat.lt_of_lt_of_le (List.getElem?_eq_some_iff.1 h1).1 (by decide),rfl⟩
 have hSM:=aN.join (N:=0) hsh hmh (by kernel_rfl) fun x h1 h2=>by
  obtain ⟨k,hk,rfl⟩:=hsB x h1
  exact (hz k hk).1 (hmb _ h2)
 have CQ:=aN.join (N:=84) hSM Ko (by kernel_rfl) fun x h1 h2=>by
  rcases (NV (by kernel_rfl)).1 h1 with h1 | h1
  ·obtain ⟨k,hk,rfl⟩:=hsB x h1
   exact (hz k hk).2 (hpb _ h2)
  ·exact hd x (hmb _ h1) (hpb _ h2)
 have eL:jd.hp=(gF ++ jB.map (SB.aV (0+·) (gF.length+·))) ++ iq.map (SB.aV (84+·) ((gF ++ jB.map (SB.aV (0+·) (gF.length+·))).length+·)):=by kernel_rfl
 rw [←eL] at CQ
 have pR:∀x,jX ((GX.cat 0 UG).cat 84 dC) (iI (gF ++ jB.map (SB.aV (0+·) (gF.length+·))).length (iI gF.length iF QI) fH) jd.hp x→BM x∨BP x:=by
  intro x hx
  rw [eL] at hx
  rcases zX (by kernel_rfl) hx with hb | hb
  ·rcases zX (by kernel_rfl) hb with hb | hb
   ·exact (qG (by kernel_rfl) hb).elim
   ·exact .inl (hmb _ (oP hb))
  ·exact .inr (hpb _ (oP hb))
 obtain ⟨ρ,hρ⟩:∃ρ,ρ=(GX.cat 0 UG).cat 84 dC:=⟨_,rfl⟩
 obtain ⟨ν,kU⟩:∃ν,ν=iI (gF ++ jB.map (SB.aV (0+·) (gF.length+·))).length (iI gF.length iF QI) fH:=⟨_,rfl⟩
 have e8:ν 8=QI 0:=by rw [kU];rfl
 have e13:ν 13=fH 0:=by rw [kU];rfl
 have eM:M0 ρ=eU UG (ae UG 0 4) 71:=by rw [hρ];rfl
 have eP:P0 ρ=ag dC (dC.iv 0) (dC.iv 1) 2:=by rw [hρ];rfl
 have hG:jo ν jd.gl:=by
  refine jo.ext (nv:=0) (n:=8) (ρ:=GX) (ρ':=ρ) (ν:=iF) ⟨fun i h=>absurd h (Nat.not_lt_zero _),fun i h=>absurd h (Nat.not_lt_zero _),fun i h=>absurd h (Nat.not_lt_zero _),fun i h=>absurd h (Nat.not_lt_zero _),fun i h=>absurd h (Nat.not_lt_zero _),fun i h=>absurd h (Nat.not_lt_zero _),fun i h=>?_⟩ (by kernel_rfl) hgl
  rw [kU,nu _ _ _ (Nat.lt_of_lt_of_le h (by decide)),nu _ _ _ (Nat.lt_of_lt_of_le h (by decide))]
 have UH:bJ ρ 4∧bg ρ 86:=by
  rw [hρ]
  exact ⟨hmo,hpo⟩
 rw [←hρ,←kU] at CQ pR
 rw [←eM,←eP] at hpre ⊢
 have hrun:=QD.run ρ ν w CQ hG ⟨UH.1,UH.2,hpre⟩
 rw [show (jd.args.map (·.den ρ ν)).toArray=#[.pointer (some (QI 0)),.pointer (some (fH 0))] by rw [←e8,←e13];rfl] at hrun
 refine hrun.mono ?_
 rintro ev w' ⟨ρ',aO,hA,rfl,jg,hwr,how,q1,q2,q3⟩
 have eM':M0 ρ'=M0 ρ:=by
  unfold M0 eU ae iK ay aL av dX aU gX bO
  simp (disch:=decide) only [hA.iv,hA.bv,hA.ic,hA.bc]
 have X0:P0 ρ'=P0 ρ:=by
  unfold P0 ag
  simp (disch:=decide) only [hA.iv,hA.bv,hA.ic,hA.bc]
 replace q3:(eU ρ' (ae ρ' 187 96) 163,ag ρ' (ρ'.iv 84) (ρ'.iv 85) 176,ρ'.bv 186)=(M0 ρ').step (P0 ρ'):=q3
 rw [eM',X0] at q3
 rw [←q3]
 refine ⟨rfl,dJ (ρ'.pull fM) (fun k=>aO (gM k)) jB,dJ (ρ'.pull fP) (fun k=>aO (gP k)) iq,⟨ρ'.pull fM,fun k=>aO (gM k),?_,jg.sub Tv XY,rfl,q1,fun _ h=>h⟩,⟨ρ'.pull fP,fun k=>aO (gP k),?_,jg.sub Tw XZ,rfl,q2,fun _ h=>h⟩,fun b h1 h2=>QH jg Tv Tw gMP NW h1 h2,?_,?_⟩
 ·show aO 8=QI 0
  rw [hA.bl 8 (by decide),e8]
 ·show aO 13=fH 0
  rw [hA.bl 13 (by decide),e13]
 ·rintro b (h | h)
  ·exact ((how.sub Tv).aI NW h).imp id (pR b)
  ·exact ((how.sub Tw).aI Ey h).imp id (pR b)
 ·exact ⟨hwr.os,hwr.tape,hwr.output,hwr.size,fun k hk hn=>hwr.block k hk fun h=>hn (pR k h)⟩
structure ma (w:World) (aP:Addr) (aM:Nat→Addr) (n:Nat) (p:PS) (M:Nat→Mn) (F:Nat→Prop):Prop where
 ex:∃(BP:Nat→Prop) (BM:Nat→Nat→Prop),lG w aP p BP∧(∀k,k<n→lT w (aM k) (M k) (BM k))∧(∀k,k<n→∀b,BM k b→BP b→False)∧(∀j k,j<n→k<n→j≠k→∀b,BM j b→BM k b→False)∧(∀b,BP b→F b)∧∀k,k<n→∀b,BM k b→F b
section
variable {w w':World} {aP:Addr} {aM:Nat→Addr} {n k:Nat} {p:PS} {M:Nat→Mn} {F F':Nat→Prop}
theorem ma.mono (h:ma w aP aM n p M F) (hF:∀b,F b→b<w.heap.size→F' b):ma w aP aM n p M F':=by
 obtain ⟨BP,BM,h1,h2,h3,h4,h5,h6⟩:=h.ex
 exact ⟨fun b=>BP b∧b<w.heap.size,fun k b=>BM k b∧b<w.heap.size,h1.mono fun b hb hl=>⟨hb,hl⟩,fun k hk=>(h2 k hk).mono fun b hb hl=>⟨hb,hl⟩,fun k hk b x y=>h3 k hk b x.1 y.1,fun j k hj hk hn b x y=>h4 j k hj hk hn b x.1 y.1,fun b hb=>hF b (h5 b hb.1) hb.2,fun k hk b hb=>hF b (h6 k hk b hb.1) hb.2⟩
theorem ma.frame (h:ma w aP aM n p M F) (hk:∀b,b<w.heap.size→F b→w'.heap[b]?=w.heap[b]?):ma w' aP aM n p M F:=by
 obtain ⟨BP,BM,h1,h2,h3,h4,h5,h6⟩:=(h.mono (F':=fun b=>F b∧b<w.heap.size) fun b x y=>⟨x,y⟩).ex
 exact ⟨BP,BM,h1.frame fun b hb=>hk b (h5 b hb).2 (h5 b hb).1,fun k hn=>(h2 k hn).frame fun b hb=>hk b (h6 k hn b hb).2 (h6 k hn b hb).1,h3,h4,fun b hb=>(h5 b hb).1,fun k hk b hb=>(h6 k hk b hb).1⟩
theorem ma.step {iF:Nat→Addr} (h:ma w aP aM n p M F) (hk:k<n) (hs:qH w iF) (hz:∀j,j<8→¬F (iF j).block) (hpre:nE (M k) p) :
  Calls Tryd.prog 22 #[.pointer (some (aM k)),.pointer (some aP)] w fun e w'=>e=.returned (.bool ((M k).step p).2.2)∧ma w' aP aM n ((M k).step p).2.1 (bA M k ((M k).step p).1) (fun b=>F b∨w.heap.size≤b)∧jL w F w':=by
 obtain ⟨BP,BM,h1,h2,h3,h4,h5,h6⟩:=(h.mono (F':=fun b=>F b∧b<w.heap.size) fun b x y=>⟨x,y⟩).ex
 refine (VO hs (h2 k hk) h1 (h3 k hk) (fun j hj=>⟨fun x=>hz j hj (h6 k hk _ x).1,fun x=>hz j hj (h5 _ x).1⟩) hpre).mono ?_
 rintro e w' ⟨rfl,LX,LY,g1,g2,g3,g4,g5⟩
 have hkeep:∀b,b<w.heap.size→¬BM k b→¬BP b→w'.heap[b]?=w.heap[b]?:=fun b hb x y=>g5.block b hb fun z=>z.elim x y
 have hnew:∀b,LX b∨LY b→∀j,j<n→j≠k→BM j b→False:=fun b hb j hj hjk hbj=>by
  rcases g4 b hb with x | x | x
  ·exact absurd (h6 j hj b hbj).2 (Nat.not_lt.2 x)
  ·exact h4 j k hj hk hjk b hbj x
  ·exact h3 j hj b hbj x
 refine ⟨rfl,⟨LY,bA BM k LX,g2,fun j hj=>?_,fun j hj b=>?_,fun i j hi hj hij b=>?_,fun b hb=>?_,fun j hj b=>?_⟩,⟨g5.os,g5.tape,g5.output,g5.size,fun b hb hn=>hkeep b hb (fun x=>hn (h6 k hk b x).1) fun x=>hn (h5 b x).1⟩⟩
 ·by_cases hjk:j=k
  ·rw [hjk,aF,aF]
   exact g1
  ·rw [aY _ _ hjk,aY _ _ hjk]
   exact (h2 j hj).frame fun b hb=>hkeep b (h6 j hj b hb).2 (fun x=>h4 j k hj hk hjk b hb x) fun x=>h3 j hj b hb x
 ·by_cases hjk:j=k
  ·rw [hjk,aF]
   exact g3 b
  ·rw [aY _ _ hjk]
   exact fun x y=>hnew b (.inr y) j hj hjk x
 ·by_cases q1:i=k
  ·have q2:j≠k:=fun e=>hij (q1.trans e.symm)
   rw [q1,aF,aY _ _ q2]
   exact fun x y=>hnew b (.inl x) j hj q2 y
  ·rw [aY _ _ q1]
   by_cases q2:j=k
   ·rw [q2,aF]
    exact fun x y=>hnew b (.inl y) i hi q1 x
   ·rw [aY _ _ q2]
    exact h4 i j hi hj hij b
 ·rcases g4 b (.inr hb) with x | x | x
  ·exact .inr x
  ·exact .inl (h6 k hk b x).1
  ·exact .inl (h5 b x).1
 ·by_cases hjk:j=k
  ·rw [hjk,aF]
   intro hb
   rcases g4 b (.inl hb) with x | x | x
   ·exact .inr x
   ·exact .inl (h6 k hk b x).1
   ·exact .inl (h5 b x).1
  ·rw [aY _ _ hjk]
   exact fun hb=>.inl (h6 j hj b hb).1
end
abbrev Nw (w w':World):Prop:=jL w (fun _=>False) w'
theorem Ic {ρ:Env} {ν:Nat→Addr} {w:World}:aN ρ ν [] w:=⟨fun i j a b h=>by simp at h,fun k sb h=>by simp at h,fun k sb h=>by simp at h⟩
def QJ (f:Nat→Int):Env:=⟨f,fun _=>false,fun _=>undef,fun _ _ _ _=>0,fun _ _ _ _=>false,fun _ _ _ _=>undef⟩
def fN:Nat→Nat
 | 0=>1
 | 1=>0
 | i=>i
theorem X3:(List.range iq.length).map (fun j=>wy.hp'[j]?)=iq.map fun sb=>some (sb.aV fN fun k=>k):=by kernel_rfl
theorem NY (m:Int) (h:0≤m∧m≤1024) (w:World) :
  Calls Tryd.prog 13 #[.int .i64 m,.int .i64 85] w fun e w'=>∃aP p B,e=.returned (.tuple #[.pointer (some aP),.nilIface])∧lG w' aP p B∧sD p 85 m∧(∀b,B b→w.heap.size≤b)∧Nw w w':=by
 have hrun:=VI.run (QJ fun i=>if i=0 then m else 85) (fun _=>⟨0,0,none⟩) w Ic ⟨fun g k _ h=>(by cases h),fun g g' k k' _ _ h=>(by cases h)⟩ ⟨h,by show (0:Int)≤85∧(85:Int)≤200;decide⟩
 refine Calls.mono hrun ?_
 rintro e w' ⟨ρ,ν,hA,rfl,jg,hwr,how,q1,q2⟩
 have e0:ρ.iv 0=m:=(hA.iv 0 (by decide)).trans rfl
 have e1:ρ.iv 1=85:=(hA.iv 1 (by decide)).trans rfl
 have hn:∀b,¬jX (QJ fun i=>if i=0 then m else 85) (fun _=>(⟨0,0,none⟩:Addr)) wy.hp b:=fun b ⟨k,sb,hk,_⟩=>by
  have hk:([]:List SB)[k]?=some sb:=hk
  simp at hk
 obtain ⟨p,h1,h2⟩:=q2
 replace h1:ag ρ (ρ.iv 1) (ρ.iv 0) 2=p:=h1
 refine ⟨ν 0,p,dJ (ρ.pull fN) ν iq,rfl,⟨ρ.pull fN,ν,rfl,jg.sub X3 fun i j _ _ h=>h,h1,q1,fun _ h=>h⟩,?_,fun b hb=>?_,⟨hwr.os,hwr.tape,hwr.output,hwr.size,fun k hk _=>hwr.block k hk (hn k)⟩⟩
 ·obtain ⟨a1,a2,a3,a4,a5,a6,a7,a8,a9,a10,a11⟩:=h2
  exact ⟨a1.trans e1,a2.trans e0,a3.trans e0,a4,a5,a6,a7,a8,a9,a10,fun i hi=>(a11 i (by show (i:Int)<ρ.iv 0;rw [e0];exact hi)).trans (by show ρ.iv 0-i=m-i;rw [e0])⟩
 ·rcases (how.sub X3).aI Ey hb with h | h
  ·exact h
  ·exact absurd h (hn b)
def NZ (a:Ac):Value:=.agg #[.int .i64 a.kind,.int .i64 a.slot,.int .i64 a.gen,.int .i64 a.field,.int .i64 a.old.slot,.int .i64 a.old.gen,.int .i64 a.old.tag,.int .i64 a.old.num,.bool a.old.mark,.int .i64 a.new.slot,.int .i64 a.new.gen,.int .i64 a.new.tag,.int .i64 a.new.num,.bool a.new.mark]
def Ez (w:Wd):Value:=.agg #[.int .i64 w.slot,.int .i64 w.gen,.int .i64 w.tag,.int .i64 w.num,.bool w.mark]
def Yz (x:Rp):Value:=.agg #[.int .i64 x.word.slot,.int .i64 x.word.gen,.int .i64 x.word.tag,.int .i64 x.word.num,.bool x.word.mark,.bool x.ok]
def Ie (a:Ac):Env where
 iv:=fun i=>([a.kind,a.slot,a.gen,a.field,a.old.slot,a.old.gen,a.old.tag,a.old.num,0,a.new.slot,a.new.gen,a.new.tag,a.new.num,0]:List Int).getD i 0
 bv:=fun i=>if i=8 then a.old.mark else a.new.mark
 vv:=fun _=>undef
 ic:=fun _ _ _ _=>0
 bc:=fun _ _ _ _=>false
 vc:=fun _ _ _ _=>undef
def fD:Nat→Nat
 | 0=>14
 | 1=>15
 | i=>i+31
def gD:Nat→Nat
 | 0=>8
 | 1=>9
 | 2=>10
 | k=>k+10
theorem X4:(List.range iq.length).map (fun j=>ng.hp'[gD j]?)=iq.map fun sb=>some (sb.aV fD gD):=by kernel_rfl
theorem X5:∀i j,i<iq.length→j<iq.length→gD i=gD j→i=j:=by
 have:∀i,i<5→∀j,j<5→gD i=gD j→i=j:=by decide
 intro i j hi hj
 exact this i hi j hj
theorem YA {w:World} {aP:Addr} {p p':PS} {B:Nat→Prop} {iF:Nat→Addr} {a:Ac} {x:Rp} (hs:qH w iF) (hp:lG w aP p B) (hz:∀k,k<8→¬B (iF k).block) (hok:p.OK) (hst:p.steps≤1000000) (hx:p.act a=(p',some x)) :
  Calls Tryd.prog 14 #[.pointer (some aP),NZ a] w fun e w'=>e=.returned (.tuple #[Yz x,.nilIface])∧∃B',lG w' aP p' B'∧(∀b,B' b→w.heap.size≤b∨B b)∧jL w B w':=by
 obtain ⟨dC,fH,rfl,Ko,rfl,hpo,hpb⟩:=hp.ex
 obtain ⟨⟨GX,hsh⟩,hgl⟩:=hs
 have hsB:∀x,dJ (Ie a) iF gF x→∃k,k<8∧x=(iF k).block:=by
  rintro x ⟨k,sb,h1,_,rfl⟩
  exact ⟨k,Nat.lt_of_lt_of_le (List.getElem?_eq_some_iff.1 h1).1 (by decide),rfl⟩
 have hsh':aN (Ie a) iF gF w:=aN.ext (nv:=0) (n:=8) ⟨fun i h=>absurd h (Nat.not_lt_zero _),fun i h=>absurd h (Nat.not_lt_zero _),fun i h=>absurd h (Nat.not_lt_zero _),fun i h=>absurd h (Nat.not_lt_zero _),fun i h=>absurd h (Nat.not_lt_zero _),fun i h=>absurd h (Nat.not_lt_zero _),fun i h=>rfl⟩ (by kernel_rfl) (by decide) hsh
 have CQ:=aN.join (N:=14) hsh' Ko (by kernel_rfl) fun x h1 h2=>by
  obtain ⟨k,hk,rfl⟩:=hsB x h1
  exact hz k hk (hpb _ h2)
 have eL:ng.hp=gF ++ iq.map (SB.aV (14+·) (gF.length+·)):=by kernel_rfl
 rw [←eL] at CQ
 have pR:∀x,jX ((Ie a).cat 14 dC) (iI gF.length iF fH) ng.hp x→B x:=by
  intro x hx
  rw [eL] at hx
  rcases zX (by kernel_rfl) hx with hb | hb
  ·exact (qG (by kernel_rfl) hb).elim
  ·exact hpb _ (oP hb)
 obtain ⟨ρ,hρ⟩:∃ρ,ρ=(Ie a).cat 14 dC:=⟨_,rfl⟩
 obtain ⟨ν,kU⟩:∃ν,ν=iI gF.length iF fH:=⟨_,rfl⟩
 have e8:ν 8=fH 0:=by rw [kU];rfl
 have eP:ag ρ (ρ.iv 14) (ρ.iv 15) 16=ag dC (dC.iv 0) (dC.iv 1) 2:=by rw [hρ];rfl
 have eA:ay ρ 0=a:=by rw [hρ];rfl
 have hG:jo ν ng.gl:=by
  refine jo.ext (nv:=0) (n:=8) (ρ:=GX) (ρ':=ρ) (ν:=iF) ⟨fun i h=>absurd h (Nat.not_lt_zero _),fun i h=>absurd h (Nat.not_lt_zero _),fun i h=>absurd h (Nat.not_lt_zero _),fun i h=>absurd h (Nat.not_lt_zero _),fun i h=>absurd h (Nat.not_lt_zero _),fun i h=>absurd h (Nat.not_lt_zero _),fun i h=>?_⟩ (by kernel_rfl) hgl
  rw [kU,nu _ _ _ (Nat.lt_of_lt_of_le h (by decide))]
 have UH:bg ρ 16:=by
  rw [hρ]
  exact hpo
 have hargs:(ng.args.map (·.den ρ ν)).toArray=#[.pointer (some (fH 0)),NZ a]:=by
  rw [←e8,←eA]
  rfl
 rw [←hρ,←kU] at CQ pR
 rw [←eP] at hok hst hx
 have hrun:=Ph.run ρ ν w CQ hG ⟨UH,hok,hst⟩
 rw [hargs] at hrun
 refine Calls.mono hrun ?_
 rintro ev w' ⟨ρ',aO,hA,rfl,jg,hwr,how,q1,q2,q3⟩
 have X0:ag ρ' (ρ'.iv 14) (ρ'.iv 15) 16=ag ρ (ρ.iv 14) (ρ.iv 15) 16:=by
  unfold ag
  simp (disch:=decide) only [hA.iv,hA.bv,hA.ic,hA.bc]
 have eA':ay ρ' 0=a:=by
  rw [←eA]
  unfold ay av
  simp (disch:=decide) only [hA.iv,hA.bv]
 replace q2:(ag ρ' (ρ'.iv 14) (ρ'.iv 15) 16).act (ay ρ' 0)=(ag ρ' (ρ'.iv 14) (ρ'.iv 15) 33,if ρ'.bv 32=true then some (aL ρ' 26) else none):=q2
 rw [X0,eA',hx] at q2
 have hb:ρ'.bv 32=true:=by
  cases h:ρ'.bv 32 with
  | true=>rfl
  | false=>rw [h] at q2;cases q2
 rw [hb,if_pos rfl,Prod.mk.injEq,Option.some.injEq] at q2
 obtain ⟨rfl,rfl⟩:=q2
 refine ⟨?_,dJ (ρ'.pull fD) (fun k=>aO (gD k)) iq,⟨ρ'.pull fD,fun k=>aO (gD k),?_,jg.sub X4 X5,rfl,q1,fun _ h=>h⟩,fun b h=>((how.sub X4).aI Ey h).imp id (pR b),hwr.os,hwr.tape,hwr.output,hwr.size,fun k hk hn=>hwr.block k hk fun h=>hn (pR k h)⟩
 ·show Ending.returned (.tuple #[_,if ρ'.bv 32=true then _ else _])=_
  rw [hb]
  rfl
 ·show aO 8=fH 0
  rw [hA.bl 8 (by decide),e8]
def bP:List SB:=zG 0 4 0
theorem EA:nQ bP=true:=by kernel_rfl
def Ze (E M T N:Int):Env:=QJ fun i=>([E,M,T,N]:List Int).getD i 0
theorem N7 (E M T N:Int) (h1:1≤E∧E≤5) (h2:0≤M∧M<T) (h3:1≤T∧T≤6) (h4:1≤N∧N≤64) (w:World) :
  Calls Tryd.prog 30 #[.int .i64 E,.int .i64 M,.int .i64 T,.int .i64 N] w fun e w'=>∃ρ ν,e=.returned (.tuple #[.pointer (some (ν 0)),.nilIface])∧(aN ρ ν bP w'∧ae ρ 0 4=RS.new E M T N∧bJ ρ 4∧∀b,dJ ρ ν bP b→w.heap.size≤b)∧Nw w w':=by
 have hrun:=SK.run (Ze E M T N) (fun _=>⟨0,0,none⟩) w Ic ⟨fun g k _ h=>(by cases h),fun g g' k k' _ _ h=>(by cases h)⟩ ⟨h1,h2,h3,h4.1,h4.2⟩
 refine Calls.mono hrun ?_
 rintro e w' ⟨ρ,ν,hA,rfl,jg,hwr,how,q1,q2⟩
 have hn:∀b,¬jX (Ze E M T N) (fun _=>(⟨0,0,none⟩:Addr)) oJ.hp b:=fun b ⟨k,sb,hk,_⟩=>by
  have hk:([]:List SB)[k]?=some sb:=hk
  simp at hk
 refine ⟨ρ,ν,rfl,⟨jg,Eq.trans q2 ?_,q1,fun b hb=>(how.aI EA hb).elim id fun h=>absurd h (hn b)⟩,hwr.os,hwr.tape,hwr.output,hwr.size,fun k hk _=>hwr.block k hk (hn k)⟩
 show RS.new (ρ.iv 0) (ρ.iv 1) (ρ.iv 2) (ρ.iv 3)=_
 rw [hA.iv 0 (by decide),hA.iv 1 (by decide),hA.iv 2 (by decide),hA.iv 3 (by decide)]
 rfl
theorem oH {ρ:Env} {ν:Nat→Addr} {sb:SB} (h1:sb.aZ=[]) (h2:sb.ups=[]) (h3:sb.cap=none):sb.has ρ ν (sb.cs.map (·.den ρ ν)).toArray:=by
 refine ⟨fun u hu=>?_,fun _ _=>by simp,fun e n h=>?_,fun p c hp hh=>?_,fun gi g hg=>?_⟩
 ·rw [h2] at hu;cases hu
 ·rw [h3] at h;cases h
 ·simp [hp]
 ·rw [h1] at hg;simp at hg
def Tx:Env:=QJ fun _=>0
theorem VP {w:World} {ρ:Env} {ν:Nat→Addr} {b:Nat} {r:RS} (h:aN ρ ν bP w) (hr:ae ρ 0 4=r) (ho:bJ ρ 4) (hn:¬dJ ρ ν bP b)
  (hb:w.heap[b]?=some (.cells #[.pointer (some (ν 0)),.int .i64 0,.int .i64 0,.int .i64 0,.int .i64 0,.int .i64 0,.bool false,.int .i64 0,.int .i64 0,.int .i64 0,.int .i64 0,.bool false,.bool false,.bool false] 60 (0,0))) :
  lT w ⟨b,0,none⟩ ⟨r,0,Wd.zero,Wd.zero,false,false⟩ fun x=>x=b∨dJ ρ ν bP x:=by
 have hA:dL 71 4 ρ (ρ.cat 71 Tx) ν ν:=⟨fun _ h=>if_pos h,fun _ h=>if_pos h,fun _ h=>if_pos h,fun _ h=>if_pos h,fun _ h=>if_pos h,fun _ h=>if_pos h,fun _ _=>rfl⟩
 have hsc:nH 71 4 bP=true:=by kernel_rfl
 obtain ⟨q,hq⟩:∃q,q=ρ.cat 71 Tx:=⟨_,rfl⟩
 rw [←hq] at hA
 have hh:aN q ν bP w:=h.ext hA hsc (by decide)
 have e1:(fun k=>iI 1 (fun _=>(⟨b,0,none⟩:Addr)) ν (1+k))=ν:=funext fun k=>ko ..
 have hone:aN q (iI 1 (fun _=>(⟨b,0,none⟩:Addr)) ν) [tY 71 1] w:=by
  refine ⟨fun i j x y hi hj _ _ _ _=>?_,fun k sb hk _ _=>?_,fun k sb hk _ hr=>?_⟩
  ·have:=(List.getElem?_eq_some_iff.1 hi).1
   have:=(List.getElem?_eq_some_iff.1 hj).1
   simp at *
   omega
  ·match k,hk with
   | 0,hk =>
    simp at hk
    subst hk
    refine ⟨rfl,_,?_,oH rfl rfl rfl⟩
    rw [show ((iI 1 (fun _=>(⟨b,0,none⟩:Addr)) ν) 0).block=b from rfl,hb,hq]
    exact eZ.kH rfl
   | k+1,hk=>simp at hk
  ·match k,hk with
   | 0,hk=>simp at hk;subst hk;cases hr
   | k+1,hk=>simp at hk
 have hall:=hone.app (f:=id) (hq:=bP) (by rw [show q.pull id=q from rfl,show (fun k=>iI 1 (fun _=>(⟨b,0,none⟩:Addr)) ν (([tY 71 1]:List SB).length+k))=ν from e1];exact hh) fun i j x y hi hj _ dy _ he=>by
  match i,hi with
  | 0,hi =>
   have e2:iI 1 (fun _=>(⟨b,0,none⟩:Addr)) ν (1+j)=ν j:=ko ..
   have he:b=(iI 1 (fun _=>(⟨b,0,none⟩:Addr)) ν (1+j)).block:=he
   rw [e2] at he
   exact hn ((rE hA hsc (by decide)).1 ⟨j,y,hj,dy,he⟩)
  | i+1,hi=>simp at hi
 have eL:jB=[tY 71 1] ++ bP.map (SB.aV id (([tY 71 1]:List SB).length+·)):=by kernel_rfl
 rw [←eL] at hall
 refine ⟨q,_,rfl,hall,?_,?_,fun x hx=>?_⟩
 ·rw [←hr,hq]
  rfl
 ·rw [hq]
  exact ho
 ·obtain ⟨k,sb,h1,h2,rfl⟩:=hx
  match k,h1 with
  | 0,_=>exact .inl rfl
  | k+1,h1 =>
   have e2:iI 1 (fun _=>(⟨b,0,none⟩:Addr)) ν (k+1)=ν k:=by rw [Nat.add_comm];exact ko ..
   rw [eL] at h1
   rw [List.getElem?_append_right (by simp)] at h1
   simp only [List.length_singleton,Nat.add_sub_cancel,List.getElem?_map,Option.map_eq_some_iff] at h1
   obtain ⟨sc,rO,rfl⟩:=h1
   rw [SB.fK] at h2
   rw [e2]
   exact .inr ((rE hA hsc (by decide)).1 ⟨k,sc,rO,h2,rfl⟩)
section
variable {k:Int} {h:Th} {p:PS}
theorem UI (h0:0≤k):∀(j:Nat) {h:Th},h.wb k→(h.go j).1.wb k∧(h.go j).1.l.freed=h.l.freed
 | 0,h,H=>⟨H,rfl⟩
 | j+1,h,H=>by
  by_cases hz:h.t.aW=0
  ·obtain ⟨x,hx⟩:=RT.iP hz
   rw [Th.sU hx]
   by_cases hs:h.stop=true∧h.pc=0
   ·rw [if_pos hs];exact ⟨H,rfl⟩
   ·rw [if_neg hs]
    have hwx:Wb k x.word:=by
     have:=H.t
     rw [hx] at this
     exact this
    obtain ⟨a,b⟩:=UI h0 j (H.dP h0 hwx)
    exact ⟨a,b.trans (h.GU x)⟩
  ·rw [Th.nA hz];exact ⟨H,rfl⟩
theorem VQ (h0:0≤k) (H:h.wb k) (hp:p.wb k) (hok:p.OK) (hs:p.steps≤k):(h.step p).1.wb (k+1)∧(h.step p).2.1.wb (k+1)∧h.l.freed≤(h.step p).1.l.freed∧(h.step p).1.l.freed≤h.l.freed+1:=by
 obtain ⟨a,b⟩:=UI h0 12 H
 unfold Th.step
 generalize h.go 12=g at a b
 obtain ⟨g1,g2⟩:=g
 simp only at a b
 rw [←b]
 cases g2 with
 | some c=>exact ⟨a.mono h0 (by omega),hp.mono (by omega),Int.le_refl _,by show g1.l.freed≤g1.l.freed+1;omega⟩
 | none =>
  simp only
  by_cases hz:g1.t.aW=0
  ·rw [if_pos hz]
   exact ⟨a.mono h0 (by omega),hp.mono (by omega),Int.le_refl _,by show g1.l.freed≤g1.l.freed+1;omega⟩
  ·rw [if_neg hz]
   have hac:=hp.act h0 hok hs (Qw h0 a.t a.l)
   cases hh:p.act (g1.t.acc g1.l) with
   | mk p' xo =>
    rw [hh] at hac
    cases xo with
    | none=>exact ⟨a.mono h0 (by omega),hac.1,Int.le_refl _,by show g1.l.freed≤g1.l.freed+1;omega⟩
    | some x=>exact ⟨a.aK h0 (hac.2 x rfl),hac.1,NU g1.l g1.t x⟩
end
structure Sys (k:Int) (n:Nat) (e:Int) (p:PS) (T:Nat→Th) (own:Int→iy) (A:Nat→Int) (M:Nat→Mn):Prop where
 inv:Inv n e p T own A
 mt:∀i,i<n→MT (M i) (T i)
 wb:∀i,i<n→(T i).wb k
 fr:∀i,i<n→0≤(T i).l.freed∧(T i).l.freed≤k
 bad:∀i,i<n→(T i).bad=false
 pw:p.wb k
 st:p.steps≤k
 k0:0≤k
section
variable {n:Nat} {e k:Int} {p:PS} {T:Nat→Th} {own:Int→iy} {A:Nat→Int} {i:Nat} {M:Nat→Mn}
theorem Sys.gV (S:Sys k n e p T own A M) (hi:i<n):Good k n e p T own A i (M i):=⟨S.inv,hi,S.mt i hi,S.wb i hi,S.fr i hi,S.pw,S.st,S.k0⟩
theorem Sys.step (S:Sys k n e p T own A M) (hi:i<n):((M i).step p).2.2=true∧((M i).step p).2.1=((T i).step p).2.1∧∃own' A',Sys (k+1) n e ((M i).step p).2.1 (bA T i ((T i).step p).1) own' A' (bA M i ((M i).step p).1):=by
 obtain ⟨own',A',hI,h1,h2,h3,h4,h5⟩:=S.inv.step hi (S.bad i hi)
 obtain ⟨m1,m2,m3⟩:=(S.mt i hi).step (p:=p) (S.gV hi).ok h3
 obtain ⟨w1,w2,w3,w4⟩:=VQ S.k0 (S.wb i hi) S.pw S.inv.ok S.st
 have hs:=S.st
 have h0:=S.k0
 refine ⟨m3.trans h1,m2,own',A',?_⟩
 rw [m2]
 refine ⟨hI,fun j hj=>?_,fun j hj=>?_,fun j hj=>?_,fun j hj=>?_,w2,by omega,by omega⟩
 all_goals
  by_cases hji:j=i
  ·rw [hji]
   simp only [aF]
   first
    | exact m1
    | exact w1
    | exact h2
    | (have:=S.fr i hi;omega)
  ·simp only [aY _ _ hji]
   first
    | exact S.mt j hj
    | exact (S.wb j hj).mono h0 (by omega)
    | exact S.bad j hj
    | (have:=S.fr j hj;omega)
theorem Sys.init {most:Int} (hok:p.OK) (hnb:p.nb=85) (hg:p.gV=true) (h6:1≤n∧n≤6) (h5:1≤e∧e≤5) (hm:1≤most) (hbd:∀k,k≠24→p.bd k=Wd.zero) (hck:p.bd 24=dW 1) (hu:∀k,p.used k=false) (hc:∀i j,p.cell i j=Wd.zero) (hs:p.steps≤1) :
  Sys 1 n e p (fun i=>Th.new e i n most) (fun _=>.free) (fun _=>1) (fun i=>Mn.new e i n most):=by
 have hz:Wb 1 Wd.zero:=Wb.zero (by decide)
 refine ⟨Inv.init hok hnb hg h6 h5 hm hbd hck hu,fun i _=>⟨⟨rfl,rfl,rfl,rfl,rfl,rfl,rfl,rfl,rfl,fun h=>absurd rfl h,rfl⟩,rfl,rfl,rfl,rfl,rfl⟩,fun i _=>⟨hz,hz,⟨fun _=>hz,by show -(2000 * 1+3000)≤(0:Int)∧(0:Int)≤2000 * 1+3000;decide,by show -(2000 * 1+3000)≤(0:Int)∧(0:Int)≤2000 * 1+3000;decide⟩,hz⟩,fun i _=>by show (0:Int)≤0∧(0:Int)≤1;decide,fun i _=>rfl,⟨fun i=>?_,fun i j=>by rw [hc];exact hz⟩,hs,by decide⟩
 by_cases h:i=24
 ·rw [h,hck]
  refine ⟨?_,?_,?_,?_⟩ <;> decide
 ·rw [hbd i h];exact hz
end
end Go.Proofs.YthomdlajobnmnaaDoor
