/- part 11 of the proof -/
import Derived.LaidLaws
import Derived.Stop.LaidErr
import Derived.Test.YthomdlajobnmnaaGreatDoorX10
import Derived.Test.YthomdlajobnmnaaGreatDoorX7
import Derived.Test.YthomdlajobnmnaaGreatDoorX8
set_option linter.unusedSimpArgs false
set_option linter.unusedVariables false
namespace Go.Rex
open Go.RowKit Go.ChangeShapes
abbrev pU:=List (String × Nat × List UInt8)
def pU.laid (nm:String) (sl:pU):List (String × DataW Unit):=sl.map fun x=>(x.1,.iface nm (.ptr (.agg [.lit (.string x.2.2)])))
def pU.ss (tp te:TypeId) (sl:pU):List (Nat × TypeId × TypeId):=sl.map fun x=>(x.2.1,tp,te)
def pU.Z7 (P:Program) (ti:TypeId) (sl:pU):Bool:=sl.all fun x=>(P.globalNamed x.1 == some x.2.1) && ((P.globals[x.2.1]?).map (·.type) == some ti)
section
variable {P:Program} {W:World} {ti tp te ts:TypeId} {nm:String} {ms:Array (String × TypeId)} {f:Field}
theorem zW (hi:P.underlying ti=some (.interface ms)) (hrow:∀u,P.typeName? 3 u=some nm→u=tp)
  (hp:P.underlying tp=some (.pointer te)) (he:P.underlying te=some (.struct #[f])) (hft:f.type=ts) (hfo:f.offset=0) (hs:P.underlying ts=some .string) (hc:P.cellsOf te=1) (hcs:P.cellsOf ts=1) :
  ∀{sl:pU} {ps:List MemPlace},DataW.LaidVars P W (sl.laid nm) ps→sl.Z7 P ti=true →
   (∀b off,MemPlace.cell b off∈ps→∀u v,W.cell? ⟨b,off,none⟩=some (.iface u v)→Value.okWide P W .any 0 u v) →
   ∃aS0:List Addr,rC W (sl.ss tp te) aS0∧(∀a∈aS0,MemPlace.cell a.block a.off∈ps)∧(ps.Nodup→aS0.Nodup)
 | [],_,_,_,_=>⟨[],trivial,fun a h=>(List.not_mem_nil h).elim,fun _=>List.nodup_nil⟩
 | (n,g,text) :: r,ps,h,hk,hok=>by
  obtain ⟨g0,t0,cs,fuel,p,q,hg0,ht0,hv,hd,hr,rfl⟩:=h
  simp only [pU.Z7,List.all_cons,Bool.and_eq_true,beq_iff_eq] at hk
  obtain ⟨⟨hg,ht⟩,hk'⟩:=hk
  obtain rfl:=Option.some.inj (hg.symm.trans hg0)
  obtain rfl:=Option.some.inj (ht.symm.trans ht0)
  obtain ⟨l⟩:=cs
  have hok1:∀u v,l=[.iface u v]→Value.okWide P W .any 0 u v:=fun u v e=>by
   subst e
   exact hok g 0 (by simp [MemPlace.row]) u v (by simpa using World.var?_cell hg0 hv 0)
  obtain ⟨a,s,rfl,hca,hs1,hz,rfl⟩:=errorString_of_trod hi hrow hp he hft hfo hs hc hcs hd hok1
  obtain ⟨aS0,h1,h2,h3⟩:=zW hi hrow hp he hft hfo hs hc hcs hr (by simpa [pU.Z7] using hk') fun b off hm=>hok b off (List.mem_append_right _ hm)
  refine ⟨a :: aS0,⟨by simpa using World.var?_cell hg hv 0,⟨_,hca⟩,h1⟩,?_,?_⟩
  ·intro x hx
   rcases List.mem_cons.1 hx with rfl | hx
   ·simp [MemPlace.row]
   ·exact List.mem_append_right _ (h2 x hx)
  ·intro hn
   have hn2:=(List.nodup_append.1 hn)
   refine List.nodup_cons.2 ⟨fun hm=>?_,h3 hn2.2.1⟩
   exact hn2.2.2 (MemPlace.cell a.block a.off) (by simp [MemPlace.row]) (MemPlace.cell a.block a.off) (h2 a hm) rfl
theorem KG (hi:P.underlying ti=some (.interface ms)) (hrow:∀u,P.typeName? 3 u=some nm→u=tp)
  (hp:P.underlying tp=some (.pointer te)) (he:P.underlying te=some (.struct #[f])) (hft:f.type=ts) (hfo:f.offset=0) (hs:P.underlying ts=some .string) (hc:P.cellsOf te=1) (hcs:P.cellsOf ts=1)
  {sl:pU} (hk:sl.Z7 P ti=true) (h:laidMet P (sl.laid nm) W) :
  ∃aS0:List Addr,rC W (sl.ss tp te) aS0∧aS0.Nodup∧∀a∈aS0,∃c t,W.heap[a.block]?=some (.cells c t (0,0)):=by
 obtain ⟨ps,hv,hnd,hrows⟩:=h
 obtain ⟨aS0,h1,h2,h3⟩:=zW hi hrow hp he hft hfo hs hc hcs hv hk fun b off hm=>(hrows b off hm).2
 exact ⟨aS0,h1,h3 hnd,fun a ha=>(hrows _ _ (h2 a ha)).1⟩
end
end Go.Rex
namespace Go.Proofs.YthomdlajobnmnaaGreatDoor
open Go.Rex
def iv (i:Nat):SC:=.int .i64 (.var i)
def kW:List Kd:=[.int .i64,.int .i64,.int .i64,.int .i64,.bool]
def jy (v:Nat):List SC:=[iv v,iv (v+1),iv (v+2),iv (v+3),.bool (.var (v+4))]
def IJ (v:Nat):List SC:=[iv v,iv (v+1),iv (v+2),iv (v+3)] ++ jy (v+4) ++ jy (v+9)
def xq (v:Nat):List SC:=jy v ++ [.bool (.var (v+5))]
def RX (n m:IE) (w b:Nat):SB:={t:=97,cs:=[.sl {aC:=b+1,i1:=.lit 0,s1:=5} n n,.sl {aC:=b+2,i1:=.lit 0,s1:=52} m m,.fw (.var w) {aC:=b+3,i1:=.lit 0,s1:=1} (.var (w+1)) (.var (w+2)),iv (w+3),iv (w+4),.iY (.var (w+5)) (.iface 161 (.ptr {aC:=b+4}))],own:=true}
def Na (n:IE) (w:Nat):SB:={t:=79,aX:=[{r:=w+6,n1:=n,s1:=5,ks:=kW}],own:=true,cap:=some (n,5)}
def Nb (m:IE) (w:Nat):SB:={t:=140,aX:=[{r:=w+7,n1:=m,s1:=52,ks:=[.int .i64,.bool]},{r:=w+8,n1:=m,s1:=52,n2:=10,s2:=5,lo:=2,ks:=kW}],own:=true,cap:=some (m,52)}
def RY (w:Nat):SB:={t:=3,aX:=[{r:=w+9,n1:=.var (w+1),s1:=1,ks:=[.int .i64]}],own:=true,cap:=some (.var (w+2),1),nl:=.var w}
def Nc (v w b:Nat):List SB:=[RX (.var v) (.var (v+1)) w b,Na (.var v) w,Nb (.var (v+1)) w,RY w,ed]
def abE (v w b c:Nat):List SB:=[{RX (.var v) (.var (v+1)) w b with cs:=[.sl {aC:=b+1,i1:=.lit 0,s1:=5} (.var v) (.var v),.sl {aC:=b+2,i1:=.lit 0,s1:=52} (.var (v+1)) (.var (v+1)),.fw (.var w) {aC:=c,i1:=.lit 0,s1:=1} (.var (w+1)) (.var (w+2)),iv (w+3),iv (w+4),.iY (.var (w+5)) (.iface 161 (.ptr {aC:=c+1}))]},Na (.var v) w,Nb (.var (v+1)) w,ed,ed,RY w,ed]
def J4:List (Nat × TypeId × TypeId):=[(0,224,249),(5,224,249),(7,224,249),(6,224,249)]
def oo:dQ:={f:=32,nv:=26,gl:=gK J4 0,args:=[.one (.ptr {aC:=8}),.agg (IJ 0)],hp:=jd 36 J4 0 ++ Nc 14 16 8,jf:=43,ret:=.iF [.agg (xq 26),.one (.iY (.var 32) (.iface 224 (.ptr {aC:=1})))],hp':=List.replicate 8 ed ++ abE 14 33 8 13}
def pV:dQ:={f:=16,nv:=2,args:=[.one (iv 0),.one (iv 1)],hp:=[],jf:=12,ret:=.iF [.one (.ptr {aC:=0}),.one .dI],hp':=[RX (.var 1) (.var 0) 2 0,Na (.var 1) 2,Nb (.var 0) 2,RY 2,ed]}
def L13:iZ:={f:=16,p:=[1,1,1,0,1,0],zR:=[(7,.au)],kill:=[30,31,34,35,36,37,38,39,40,41,42,43,32,33],deep:=[6],ift:=161}
def kN:List Kd:=[.int .i64,.int .i64,.int .i64,.int .i64,.bool,.int .i64,.int .i64]
def Z8 (nl:Nat) (b s:Nat):SC:=.fw (.var nl) {aC:=b,i1:=.lit 0,s1:=s} (.var (nl+1)) (.var (nl+2))
def slO (nl o:Nat) (b s:Nat):SC:=.fw (.var nl) {aC:=b,i1:=.var o,s1:=s} (.var (nl+1)) (.var (nl+2))
def xu (v:Nat):List SC:=[iv v,iv (v+1),iv (v+2),iv (v+3)] ++ jy (v+4) ++ jy (v+9) ++ [iv (v+14),iv (v+15),iv (v+16),iv (v+17)]
def Z9 (s v b:Nat):SB:={t:=151,cs:=xu v ++ [iv (v+18)] ++ IJ (v+19) ++ jy (v+33) ++ jy (v+38) ++ [iv (v+43),Z8 (v+44) b 5,slO (v+47) (v+65) (b+1) 7,iv s,iv (s+1),iv (s+2),iv (s+3)] ++ List.replicate 45 .hole ++ [.bool (.var (v+51)),iv (v+52),iv (v+53),Z8 (v+54) (b+2) 7,iv (v+57)] ++ xq (v+58),aX:=[{r:=v+50,n1:=.lit 9,s1:=5,lo:=50,ks:=kW}],own:=true}
def adx (t:Nat) (ks:List Kd) (nl r:Nat):SB:={t:=t,aX:=[{r:=r,n1:=.var (nl+1),s1:=ks.length,ks:=ks}],own:=true,cap:=some (.var (nl+2),ks.length),nl:=.var nl}
def aaa (v:Nat):SB:=adx 79 kW (v+44) (v+64)
def aab (v:Nat):SB:={t:=207,aX:=[{r:=v+65,n1:=.var (v+66),s1:=7,ks:=kN}],own:=true,nl:=.var (v+47)}
def aac (v:Nat):SB:=adx 207 kN (v+54) (v+66)
def Nf (s v b:Nat):List SB:=[Z9 s v (b+1),aaa v,aab v,aac v]
def abF (s v:Nat) (c:Nat):List SB:=[Z9 s v c,ed,ed,ed,aaa v,aab v,aac v]
def nN (f k:Nat) (args:List SW) (ret:SV):dQ:={f:=f,nv:=71+k,args:=.one (.ptr {aC:=0}) :: args,hp:=Nf 0 4 0,jf:=138+k,ret:=ret,hp':=abF 0 (71+k) 4}
def gN:dQ:={f:=141,nv:=2,args:=[.one (iv 0),.one (iv 1)],hp:=[],jf:=2,ret:=.iF [.agg [.int .i64 (.lit 0),.int .i64 (.lit 0),.int .i64 (.add (.add (.lit 25) (.mul (.var 0) (.lit 9))) (.var 1))],.one .dI],hp':=[]}
def gY:dQ:={f:=113,nv:=1,args:=[.one (iv 0)],hp:=[],jf:=1,ret:=.iF [.agg [.int .i64 (.lit 0),.int .i64 (.lit 0),.int .i64 (.add (.lit 79) (.var 0))],.one .dI],hp':=[]}
def pW:SV:=.iF []
def iU:dQ:=nN 72 1 [.one (iv 71)] pW
def gP:dQ:=nN 124 0 [] pW
def ji:dQ:={nN 118 1 [.one (iv 71)] (.w (.one (.bool (.var 139)))) with jf:=140}
def jI:dQ:=nN 112 0 [] pW
def jF:dQ:=nN 111 0 [] pW
def mi:dQ:=nN 68 0 [] pW
def iV:dQ:=nN 117 0 [] pW
def jX:dQ:=nN 115 2 [.one (iv 71),.one (iv 72)] pW
def KX:SW:=.agg (xq 71)
def jq:dQ:=nN 75 6 [KX] pW
def jY:dQ:=nN 76 6 [KX] pW
def fP:dQ:=nN 77 6 [KX] pW
def jZ:dQ:=nN 119 0 [] pW
def nJ:dQ:=nN 40 6 [KX] (.w (.one .dI))
def lU:dQ:=nN 37 18 [.agg (xu 71)] (.w (.one .dI))
def uk (t:Nat) (ks:List Kd) (v:Nat):SB:={t:=t,aX:=[{r:=v+3,n1:=.var (v+1),s1:=ks.length,ks:=ks}],cap:=some (.var (v+2),ks.length),own:=true,nl:=.var v}
def oQ:dQ:={f:=34,nv:=4,args:=[.one (iv 0),.one (iv 1),.one (iv 2),.one (iv 3)],hp:=[],jf:=71,ret:=.iF [.one (.ptr {aC:=0}),.one .dI],hp':=Nf 0 4 0}
def lV (ks:List Kd) (nl b:Nat):SW:=.one (Z8 nl b ks.length)
def GL (t:Nat) (ks:List Kd) (v:Nat):SB:={t:=t,aX:=[{r:=v+3,n1:=.var (v+1),s1:=ks.length,ks:=ks}],ro:=true,nl:=.var v}
def kI:List Kd:=[.int .i64]
def kS:List Kd:=[.bool,.int .i64,.int .i64]
def lW:dQ:={f:=143,nv:=8,args:=[lV kN 0 0,lV kW 4 1],hp:=[GL 207 kN 0,GL 79 kW 4],jf:=16,ret:=.iF [lV kN 8 2,lV kN 12 3],hp':=[ed,ed,uk 207 kN 8,uk 207 kN 12]}
def nK:dQ:={f:=144,nv:=8,args:=[lV kN 0 0,lV kI 4 1],hp:=[GL 207 kN 0,GL 3 kI 4],jf:=16,ret:=.iF [lV kN 8 2,lV kN 12 3],hp':=[ed,ed,uk 207 kN 8,uk 207 kN 12]}
def lX:dQ:={f:=145,nv:=8,args:=[lV kN 0 0,lV kS 4 1],hp:=[GL 207 kN 0,GL 149 kS 4],jf:=16,ret:=.iF [lV kN 8 2,lV kN 12 3],hp':=[ed,ed,uk 207 kN 8,uk 207 kN 12]}
def ky:dQ:={f:=146,nv:=8,args:=[lV kN 0 0,.one (iv 4)],hp:=[GL 207 kN 0],jf:=16,ret:=.iF [lV kN 8 1,lV kN 12 2],hp':=[ed,uk 207 kN 8,uk 207 kN 12]}
def mV:dQ:={f:=120,nv:=5,args:=[.one (iv 0),lV kS 1 0],hp:=[GL 149 kS 1],jf:=6,ret:=.w (.one (.bool (.var 5))),hp':=[ed]}
def abG (v:Nat):List SC:=jy v ++ [iv (v+5),iv (v+6)]
def jL:dQ:={f:=122,nv:=11,args:=[lV kN 0 0,.agg (abG 4)],hp:=[GL 207 kN 0],jf:=12,ret:=.w (.one (iv 11)),hp':=[ed]}
def eZ:dQ:={f:=123,nv:=6,args:=[lV kN 0 0,.one (iv 4),.one (iv 5)],hp:=[uk 207 kN 0],jf:=7,ret:=.w (.one (.fw (.var 0) {aC:=0,i1:=.lit 0,s1:=7} (.sub (.var 1) (.lit 1)) (.var 2))),hp':=[{t:=207,aX:=[{r:=6,n1:=.sub (.var 1) (.lit 1),s1:=7,ks:=kN}],cap:=some (.var 2,7),own:=true,nl:=.var 0}]}
def ady:iZ:={f:=72,p:=[1,0,1,0,1,0],zR:=[(4,.au)],kill:=[21,22,25,26,27,28,29,30,31,32,33,34,35,36,37,38,39,40,41,23,24]}
def af1:iZ:={f:=119,p:=[0,1,0,1,1,1,0,1,0,1,0],zR:=[(2,.fw 3),(36,.au)],kill:=[37,38,39,4,40,41,42,43,44,45]}
def Vd:iZ:={f:=121,p:=[1,1,0,1,0],zR:=[(3,.fw 149),(12,.au)],kill:=[13,14,15,5,16,17,18,19,20,21]}
def RZ:iZ:={f:=148,p:=[1,0,1,0],zR:=[(4,.fw 207),(5,.fw 207),(10,.au)],kill:=[11,12,13,7,14,15,16,17,18,19,20,21,22,23,24,25]}
def adz:iZ:={f:=149,p:=[1,0,1,0],zR:=[(8,.au)],kill:=[9,10,11,5,12,13,14,15,16,17,3,18]}
def af2:iZ:={f:=150,p:=[1,0,1,0],zR:=[(8,.au)],kill:=[9,10,11,5,12,13,14,15,16,17,18,19,20,21,22,23,24,25,3,26]}
def abH:iZ:={f:=151,p:=[1,0,1,0],zR:=[(8,.au)],kill:=[9,10,11,5,12,13,14,15,16,17,18,19,20,21,22,23,24,25,26,27,3,28]}
def adA:iZ:={f:=122,p:=[1,0,1,0],zR:=[(8,.au)],kill:=[9,10,5,11,12,13,14,15,16,17,4,18]}
def ahO:iZ:={f:=120,p:=[1,0,1,0],zR:=[(9,.au)],kill:=[10,11,12,6,13,14,15,16,17,18,19,20,4,21]}
end Go.Proofs.YthomdlajobnmnaaGreatDoor
namespace Go.Rex
variable {post:Env→Prop} {cs:List (dQ × (Env→Prop) × (Env→Prop))} {Γ:List (Env→Prop)} {ρ:Env}
theorem Sat.BF {nv:Nat} {b:BE} {k:Out} (K:Env→Prop) (hK:∀e,K (ρ.join nv e)) (h:∀q,K q→b.den q=true→Sat post cs Γ q k):Sat post cs Γ ρ (.new nv [.be b] k) :=
 fun e hf=>h _ (hK e) (hf _ (List.mem_singleton.2 rfl))
theorem Sat.zb {nv:Nat} {σ:Sub} {k:Out} (Inv:Env→Prop) (m:Env→Nat) (K:Env→Prop) (h0:Inv (σ.ag ρ)) (hK:∀e,K (ρ.join nv e))
  (h:∀q,K q→Inv q.num→Sat post cs ((fun ρ'=>Inv ρ'∧m ρ'<m q.num) :: Γ) q k):Sat post cs Γ ρ (.loop nv σ k) :=
 ⟨Inv,m,h0,fun e hI=>h _ (hK e) hI⟩
theorem Sat.jk {g:Nat} {σ:Sub} {nv:Nat} {k:Out} {c:dQ} {pre post':Env→Prop} (hg:cs[g]?=some (c,pre,post')) (hp:pre (σ.ag ρ)) (K:Env→Prop)
  (hK:∀e,post' (bf σ c.nv nv ρ (ρ.join nv e))→K (ρ.join nv e)) (h:∀q,K q→Sat post cs Γ q k):Sat post cs Γ ρ (.call g σ nv k) :=
 ⟨c,pre,post',hg,hp,fun e hq=>h _ (hK e hq)⟩
end Go.Rex
namespace Go.Proofs.YthomdlajobnmnaaGreatDoor
open Go.Rex
def aO (f:Nat→Int) (g:Nat→Bool):Wd:=⟨f 0,f 1,f 2,f 3,g 4⟩
def az (ρ:Env) (v:Nat):Wd:=⟨ρ.iv v,ρ.iv (v+1),ρ.iv (v+2),ρ.iv (v+3),ρ.bv (v+4)⟩
def aB (ρ:Env) (v:Nat):Ac:=⟨ρ.iv v,ρ.iv (v+1),ρ.iv (v+2),ρ.iv (v+3),az ρ (v+4),az ρ (v+9)⟩
def aI (ρ:Env) (v:Nat):Rp:=⟨az ρ v,ρ.bv (v+5)⟩
def ay (ρ:Env) (n m:Int) (w:Nat):PS where
 nb:=n
 ns:=m
 nf:=ρ.iv (w+1)
 steps:=ρ.iv (w+3)
 made:=ρ.iv (w+4)
 bT:=ρ.bv (w+5)
 bd:=fun i=>aO (ρ.ic (w+6) i 0) (ρ.bc (w+6) i 0)
 gen:=fun i=>ρ.ic (w+7) i 0 0
 used:=fun i=>ρ.bc (w+7) i 0 1
 cell:=fun i k=>aO (ρ.ic (w+8) i k) (ρ.bc (w+8) i k)
 fr:=fun i=>ρ.ic (w+9) i 0 0
def bz (ρ:Env) (b:Nat):Prop:=(ρ.bv b=true→ρ.iv (b+1)=0)∧0≤ρ.iv (b+1)∧ρ.iv (b+1)≤ρ.iv (b+2)∧ρ.iv (b+2)≤9223372036854775807
theorem df {ρ:Env} {b:Nat} (h:bz ρ b):(BE.or (.not (.var b)) (.aA (.var (b+1)) (.lit 0))).den ρ=true:=by
 have h1:=h.1
 simp only [BE.den,IE.den,Bool.or_eq_true,Bool.not_eq_true',beq_iff_eq]
 cases hb:ρ.bv b
 ·exact .inl rfl
 ·exact .inr (h1 hb)
theorem ve {ρ:Env} {b:Nat} (h:bz ρ b) (h2:0<ρ.iv (b+1)):(BE.not (.var b)).den ρ=true:=by
 have h1:=h.1
 simp only [BE.den,Bool.not_eq_true']
 cases hb:ρ.bv b
 ·rfl
 ·have:=h1 hb
  omega
theorem PS.ext' {p q:PS} (h1:p.nb=q.nb) (h2:p.ns=q.ns) (h3:p.nf=q.nf) (h4:p.steps=q.steps) (h5:p.made=q.made) (h6:p.bT=q.bT) (h7:∀i,p.bd i=q.bd i) (h8:∀i,p.gen i=q.gen i) (h9:∀i,p.used i=q.used i)
  (h10:∀i k,p.cell i k=q.cell i k) (h11:∀i,p.fr i=q.fr i):p=q:=by
 cases p
 cases q
 simp only at *
 subst h1 h2 h3 h4 h5 h6
 obtain rfl:=funext h7
 obtain rfl:=funext h8
 obtain rfl:=funext h9
 obtain rfl:=funext fun i=>funext (h10 i)
 obtain rfl:=funext h11
 rfl
theorem adB {p:PS} {a:Ac} (h:¬p.valid a):p.act a=(p,none):=by simp [PS.act,h]
theorem oU {p:PS} {a:Ac} (h:p.valid a) (h2:¬p.right a):p.act a=({p with steps:=p.steps+1,bT:=false},some (eD a.kind)):=by simp [PS.act,h,h2]
theorem adC {p:PS} {a:Ac} (h:p.valid a) (h2:p.right a):p.act a=((PS.makes {p with steps:=p.steps+1} a).1,some (PS.makes {p with steps:=p.steps+1} a).2):=by simp [PS.act,h,h2]
section
variable {p:PS} {a:Ac}
theorem mW {P:PS} {R:Rp} (h:p.valid a) (h2:p.right a) (hm:PS.makes {p with steps:=p.steps+1} a=(P,R)):p.act a=(P,some R):=by rw [adC h h2,hm]
theorem abI (h:a.kind=1) (h0:a.slot=0):p.makes a=(p,⟨p.bd a.field.toNat,true⟩):=by simp [PS.makes,h,PS.at,h0]
theorem abJ (h:a.kind=1) (h0:¬a.slot=0):p.makes a=(p,⟨p.cell (a.slot-1).toNat a.field.toNat,true⟩):=by simp [PS.makes,h,PS.at,h0]
theorem abK (h:a.kind=2) (h0:a.slot=0):p.makes a=({p with bd:=fun i=>if i=a.field.toNat then a.new else p.bd i},⟨Wd.zero,true⟩):=by simp [PS.makes,h,PS.put,h0]
theorem abL (h:a.kind=2) (h0:¬a.slot=0):p.makes a=({p with cell:=fun i k=>if i=(a.slot-1).toNat∧k=a.field.toNat then a.new else p.cell i k},⟨Wd.zero,true⟩):=by simp [PS.makes,h,PS.put,h0]
theorem abM (h:a.kind=3) (h0:a.slot=0) (hs:gF (p.bd a.field.toNat) a.old):p.makes a=({p with bd:=fun i=>if i=a.field.toNat then a.new else p.bd i},⟨p.bd a.field.toNat,true⟩):=by simp [-Int.pred_toNat,PS.makes,h,PS.put,PS.at,h0,hs]
theorem abN (h:a.kind=3) (h0:¬a.slot=0) (hs:gF (p.cell (a.slot-1).toNat a.field.toNat) a.old):p.makes a=({p with cell:=fun i k=>if i=(a.slot-1).toNat∧k=a.field.toNat then a.new else p.cell i k},⟨p.cell (a.slot-1).toNat a.field.toNat,true⟩):=by simp [-Int.pred_toNat,PS.makes,h,PS.put,PS.at,h0,hs]
theorem X6 (h:a.kind=3) (h0:a.slot=0) (hs:¬gF (p.bd a.field.toNat) a.old):p.makes a=(p,⟨p.bd a.field.toNat,false⟩):=by simp [-Int.pred_toNat,PS.makes,h,PS.at,h0,hs]
theorem X7 (h:a.kind=3) (h0:¬a.slot=0) (hs:¬gF (p.cell (a.slot-1).toNat a.field.toNat) a.old):p.makes a=(p,⟨p.cell (a.slot-1).toNat a.field.toNat,false⟩):=by simp [-Int.pred_toNat,PS.makes,h,PS.at,h0,hs]
theorem abO (h:a.kind=4) (h0:p.nf=0):p.makes a=(p,Rp.no):=by simp [PS.makes,h,PS.alloc,h0]
theorem abP (h:a.kind=4) (h0:¬p.nf=0):p.makes a=({p with nf:=p.nf-1,made:=p.made+1,gen:=fun i=>if i=(p.fr (p.nf-1).toNat-1).toNat then p.gen (p.fr (p.nf-1).toNat-1).toNat+1 else p.gen i,used:=fun i=>if i=(p.fr (p.nf-1).toNat-1).toNat then true else p.used i,cell:=fun i k=>if i=(p.fr (p.nf-1).toNat-1).toNat∧k<10 then iM a.new.num k else p.cell i k},⟨⟨p.fr (p.nf-1).toNat,p.gen (p.fr (p.nf-1).toNat-1).toNat+1,0,0,false⟩,true⟩):=by
 unfold PS.makes PS.alloc
 rw [if_pos h,if_neg h0]
theorem adD (h:a.kind=5):p.makes a=(p.free a.old.slot,⟨Wd.zero,true⟩):=by simp [PS.makes,h]
end
noncomputable def doE:Ex:={sched:=sched,loops:=[],fin:=oo}
abbrev J5:List (Nat × IE):=yr 37 20 4<|[yz 29,yz 28,yz 27,yz 26]
abbrev J6:List (Nat × BE):=[(38,yw 21),(33,yw 16),(32,.lit false),(31,.lit false),(30,.lit false)]
abbrev kz:List (Nat × CV):=[(42,yu 25 17 1 yI 0),(41,.up {r:=24,n1:=.var 15,s1:=52,n2:=10,s2:=5,lo:=2,ks:=yW} 1 [] y0),(40,yu 23 15 52 yB 0),(39,yu 22 14 5 yW 0)]
abbrev lL:List (Nat × SA):=[(14,yb 12),(13,yc 11 1)]
abbrev yT4:List (Nat × IE):=[(37,yv 20),(36,.add (.var 19) y1),(35,yv 18),(34,yv 17),(29,.cell 22 (.var 3) y0 3),(28,.cell 22 (.var 3) y0 2),(27,.cell 22 (.var 3) y0 1),(26,.cell 22 (.var 3) y0 0)]
abbrev yT5:List (Nat × BE):=[(38,yw 21),(33,yw 16),(32,.lit true),(31,.lit true),(30,.cell 22 (.var 3) y0 4)]
abbrev J7:List (Nat × IE):=[(37,yv 20),(36,.add (.var 19) y1),(35,yv 18),(34,yv 17),(29,.lit (-1)),yz 28,yz 27,yz 26]
abbrev J8:List (Nat × BE):=[(38,.lit false),(33,yw 16),(32,.lit true),(31,.lit false),(30,.lit false)]
abbrev Qp:List (Nat × SA):=[(14,yb 18),(13,yc 11 1)]
abbrev GM:List (Nat × BE):=[(38,yw 21),(33,yw 16),(32,.lit true),(31,.lit false),(30,.lit false)]
abbrev X8:List (Nat × IE):=[(37,yv 20),(36,.add (.var 19) y1),(35,yv 18),(34,yv 17),(29,.cell 24 (.sub (.var 1) y1) (.var 3) 3),(28,.cell 24 (.sub (.var 1) y1) (.var 3) 2),(27,.cell 24 (.sub (.var 1) y1) (.var 3) 1),(26,.cell 24 (.sub (.var 1) y1) (.var 3) 0)]
abbrev adF:List (Nat × BE):=[(38,yw 21),(33,yw 16),(32,.lit true),(31,.lit true),(30,.cell 24 (.sub (.var 1) y1) (.var 3) 4)]
abbrev um:List (Nat × IE):=[(37,yv 20),(36,.add (.var 19) y1),(35,yv 18),(34,yv 17),yz 29,yz 28,yz 27,yz 26]
abbrev X9:List (Nat × BE):=[(38,yw 21),(33,yw 16),(32,.lit true),(31,.lit true),(30,.lit false)]
abbrev adG:List (Nat × CV):=[(42,yu 25 17 1 yI 0),(41,.up {r:=24,n1:=.var 15,s1:=52,n2:=10,s2:=5,lo:=2,ks:=yW} 1 [] y0),(40,yu 23 15 52 yB 0),(39,.up {r:=22,n1:=.var 14,s1:=5,ks:=yW} 0 [⟨0,(.var 3),y0,4,.bool (.var 13)⟩,⟨0,(.var 3),y0,3,.int .i64 (.var 12)⟩,⟨0,(.var 3),y0,2,.int .i64 (.var 11)⟩,⟨0,(.var 3),y0,1,.int .i64 (.var 10)⟩,⟨0,(.var 3),y0,0,.int .i64 (.var 9)⟩] y0)]
abbrev adH:List (Nat × CV):=[(42,yu 25 17 1 yI 0),(41,.up {r:=24,n1:=.var 15,s1:=52,n2:=10,s2:=5,lo:=2,ks:=yW} 1 [⟨1,(.sub (.var 1) y1),(.var 3),4,.bool (.var 13)⟩,⟨1,(.sub (.var 1) y1),(.var 3),3,.int .i64 (.var 12)⟩,⟨1,(.sub (.var 1) y1),(.var 3),2,.int .i64 (.var 11)⟩,⟨1,(.sub (.var 1) y1),(.var 3),1,.int .i64 (.var 10)⟩,⟨1,(.sub (.var 1) y1),(.var 3),0,.int .i64 (.var 9)⟩] y0),(40,.up {r:=23,n1:=.var 15,s1:=52,ks:=yB} 0 [⟨1,(.sub (.var 1) y1),(.var 3),4,.bool (.var 13)⟩,⟨1,(.sub (.var 1) y1),(.var 3),3,.int .i64 (.var 12)⟩,⟨1,(.sub (.var 1) y1),(.var 3),2,.int .i64 (.var 11)⟩,⟨1,(.sub (.var 1) y1),(.var 3),1,.int .i64 (.var 10)⟩,⟨1,(.sub (.var 1) y1),(.var 3),0,.int .i64 (.var 9)⟩] y0),(39,yu 22 14 5 yW 0)]
abbrev adI:List (Nat × IE):=[(37,yv 20),(36,.add (.var 19) y1),(35,yv 26),(34,.add (.var 17) y1),yz 29,yz 28,yz 27,yz 26]
abbrev adJ:List (Nat × BE):=[(38,yw 21),(33,.lit false),(32,.lit true),(31,.lit true),(30,.lit false)]
abbrev adK:List (Nat × CV):=[(42,.up {r:=25,n1:=.add (.var 17) y1,s1:=1,ks:=yI} 0 [⟨0,(.var 17),y0,0,.int .i64 (.var 4)⟩] y0),(41,.up {r:=24,n1:=.var 15,s1:=52,n2:=10,s2:=5,lo:=2,ks:=yW} 1 [⟨0,(.sub (.var 4) y1),y0,1,.bool (.lit false)⟩] y0),(40,.up {r:=23,n1:=.var 15,s1:=52,ks:=yB} 0 [⟨0,(.sub (.var 4) y1),y0,1,.bool (.lit false)⟩] y0),(39,yu 22 14 5 yW 0)]
def R3:Out :=
 .br (.aA (.var 0) y1)
 (.br (.aA (.var 1) y0)
  (.ob (.or (.not (.and (.aA (.var 2) y0) (.ai y0 (.var 3)))) (.ai y0 (.var 14))) <|
   .br (.not (.and (.and (.aA (.var 2) y0) (.ai y0 (.var 3))) (.bO (.var 3) (.var 14))))
   (.fin {lo:=26,ah:=13,iv:=J5,bv:=J6,ct:=kz,bk:=lL})
   (.ob (.inr .i64 (.add (.var 19) y1)) <|
    .fin {lo:=26,ah:=13,iv:=yT4,bv:=yT5,ct:=kz,bk:=lL,nb:=[1]}))
  (.ob (.or (.not (.ai y1 (.var 1))) (.ai y0 (.var 15))) <|
   .br (.not (.and (.and (.and (.ai y1 (.var 1)) (.ai (.var 1) (.var 15))) (.ai y0 (.var 3))) (.bO (.var 3) (.lit 10))))
   (.fin {lo:=26,ah:=13,iv:=J5,bv:=J6,ct:=kz,bk:=lL})
   (.ob (.inr .i64 (.add (.var 19) y1)) <|
    .ob (.inr .i64 (.sub (.var 1) y1)) <|
    .ob (.ai y0 (.sub (.var 1) y1)) <|
    .ob (.bO (.sub (.var 1) y1) (.var 15)) <|
    .br (.not (.cell 23 (.sub (.var 1) y1) y0 1))
    (.br (.var 21)
     (.fin {lo:=26,ah:=13,iv:=J7,bv:=J8,ct:=kz,bk:=Qp,nb:=[1]})
     (.fin {lo:=26,ah:=13,iv:=J7,bv:=GM,ct:=kz,bk:=lL,nb:=[1]}))
    (.br (.not (.aA (.cell 23 (.sub (.var 1) y1) y0 0) (.var 2)))
     (.br (.var 21)
      (.fin {lo:=26,ah:=13,iv:=J7,bv:=J8,ct:=kz,bk:=Qp,nb:=[1]})
      (.fin {lo:=26,ah:=13,iv:=J7,bv:=GM,ct:=kz,bk:=lL,nb:=[1]}))
     (.fin {lo:=26,ah:=13,iv:=X8,bv:=adF,ct:=kz,bk:=lL,nb:=[1]})))))
 (.br (.aA (.var 0) (.lit 2))
  (.br (.aA (.var 1) y0)
   (.ob (.or (.not (.and (.aA (.var 2) y0) (.ai y0 (.var 3)))) (.ai y0 (.var 14))) <|
    .br (.not (.and (.and (.aA (.var 2) y0) (.ai y0 (.var 3))) (.bO (.var 3) (.var 14))))
    (.fin {lo:=26,ah:=13,iv:=J5,bv:=J6,ct:=kz,bk:=lL})
    (.ob (.inr .i64 (.add (.var 19) y1)) <|
     .fin {lo:=26,ah:=13,iv:=um,bv:=X9,ct:=adG,bk:=lL,nb:=[1]}))
   (.ob (.or (.not (.ai y1 (.var 1))) (.ai y0 (.var 15))) <|
    .br (.not (.and (.and (.and (.ai y1 (.var 1)) (.ai (.var 1) (.var 15))) (.ai y0 (.var 3))) (.bO (.var 3) (.lit 10))))
    (.fin {lo:=26,ah:=13,iv:=J5,bv:=J6,ct:=kz,bk:=lL})
    (.ob (.inr .i64 (.add (.var 19) y1)) <|
     .ob (.inr .i64 (.sub (.var 1) y1)) <|
     .ob (.ai y0 (.sub (.var 1) y1)) <|
     .ob (.bO (.sub (.var 1) y1) (.var 15)) <|
     .br (.not (.cell 23 (.sub (.var 1) y1) y0 1))
     (.br (.var 21)
      (.fin {lo:=26,ah:=13,iv:=um,bv:=J8,ct:=kz,bk:=Qp,nb:=[1]})
      (.fin {lo:=26,ah:=13,iv:=um,bv:=GM,ct:=kz,bk:=lL,nb:=[1]}))
     (.br (.not (.aA (.cell 23 (.sub (.var 1) y1) y0 0) (.var 2)))
      (.br (.var 21)
       (.fin {lo:=26,ah:=13,iv:=um,bv:=J8,ct:=kz,bk:=Qp,nb:=[1]})
       (.fin {lo:=26,ah:=13,iv:=um,bv:=GM,ct:=kz,bk:=lL,nb:=[1]}))
      (.fin {lo:=26,ah:=13,iv:=um,bv:=X9,ct:=adH,bk:=lL,nb:=[1]})))))
  (.br (.aA (.var 0) (.lit 3))
   (.br (.aA (.var 1) y0)
    (.ob (.or (.not (.and (.aA (.var 2) y0) (.ai y0 (.var 3)))) (.ai y0 (.var 14))) <|
     .br (.not (.and (.and (.aA (.var 2) y0) (.ai y0 (.var 3))) (.bO (.var 3) (.var 14))))
     (.fin {lo:=26,ah:=13,iv:=J5,bv:=J6,ct:=kz,bk:=lL})
     (.ob (.inr .i64 (.add (.var 19) y1)) <|
      .br (.not (.and (.aA (.cell 22 (.var 3) y0 0) (.var 4)) (.and (.aA (.cell 22 (.var 3) y0 2) (.var 6)) (.and (.aA (.cell 22 (.var 3) y0 3) (.var 7)) (.beq (.cell 22 (.var 3) y0 4) (.var 8))))))
      (.fin {lo:=26,ah:=13,iv:=yT4,bv:=[(38,yw 21),(33,yw 16),(32,.lit true),(31,.lit false),(30,.cell 22 (.var 3) y0 4)],ct:=kz,bk:=lL,nb:=[1]})
      (.fin {lo:=26,ah:=13,iv:=yT4,bv:=yT5,ct:=adG,bk:=lL,nb:=[1]})))
    (.ob (.or (.not (.ai y1 (.var 1))) (.ai y0 (.var 15))) <|
     .br (.not (.and (.and (.and (.ai y1 (.var 1)) (.ai (.var 1) (.var 15))) (.ai y0 (.var 3))) (.bO (.var 3) (.lit 10))))
     (.fin {lo:=26,ah:=13,iv:=J5,bv:=J6,ct:=kz,bk:=lL})
     (.ob (.inr .i64 (.add (.var 19) y1)) <|
      .ob (.inr .i64 (.sub (.var 1) y1)) <|
      .ob (.ai y0 (.sub (.var 1) y1)) <|
      .ob (.bO (.sub (.var 1) y1) (.var 15)) <|
      .br (.not (.cell 23 (.sub (.var 1) y1) y0 1))
      (.br (.var 21)
       (.fin {lo:=26,ah:=13,iv:=J7,bv:=J8,ct:=kz,bk:=Qp,nb:=[1]})
       (.fin {lo:=26,ah:=13,iv:=J7,bv:=GM,ct:=kz,bk:=lL,nb:=[1]}))
      (.br (.not (.aA (.cell 23 (.sub (.var 1) y1) y0 0) (.var 2)))
       (.br (.var 21)
        (.fin {lo:=26,ah:=13,iv:=J7,bv:=J8,ct:=kz,bk:=Qp,nb:=[1]})
        (.fin {lo:=26,ah:=13,iv:=J7,bv:=GM,ct:=kz,bk:=lL,nb:=[1]}))
       (.br (.not (.and (.aA (.cell 24 (.sub (.var 1) y1) (.var 3) 0) (.var 4)) (.and (.aA (.cell 24 (.sub (.var 1) y1) (.var 3) 2) (.var 6)) (.and (.aA (.cell 24 (.sub (.var 1) y1) (.var 3) 3) (.var 7)) (.beq (.cell 24 (.sub (.var 1) y1) (.var 3) 4) (.var 8))))))
        (.fin {lo:=26,ah:=13,iv:=X8,bv:=[(38,yw 21),(33,yw 16),(32,.lit true),(31,.lit false),(30,.cell 24 (.sub (.var 1) y1) (.var 3) 4)],ct:=kz,bk:=lL,nb:=[1]})
        (.fin {lo:=26,ah:=13,iv:=X8,bv:=adF,ct:=adH,bk:=lL,nb:=[1]}))))))
   (.br (.aA (.var 0) (.lit 4))
    (.ob (.inr .i64 (.add (.var 19) y1)) <|
     .ob (.or (.not (.var 16)) (.aA (.var 17) y0)) <|
     .ob (.ai y0 (.var 17)) <|
     .br (.aA (.var 17) y0)
     (.fin {lo:=26,ah:=13,iv:=um,bv:=GM,ct:=kz,bk:=lL,nb:=[1]})
     (.ob (.inr .i64 yY) <|
      .ob (.not (.var 16)) <|
      .ob (.ai y0 yY) <|
      .ob (.bO yY (.var 17)) <|
      .ob (.ai yY (.var 18)) <|
      .ob (.inr .i64 yX) <|
      .ob (.ai y0 yX) <|
      .ob (.bO yX (.var 15)) <|
      .ob (.inr .i64 (.add (.cell 23 yX y0 0) y1)) <|
      .ob (.inr .i64 (.add (.var 20) y1)) <|
      .ob (.ai yY (.var 17)) <|
      .fin {lo:=26,ah:=13,iv:=[(37,.add (.var 20) y1),(36,.add (.var 19) y1),(35,yv 18),(34,.sub (.var 17) y1),yz 29,yz 28,(27,.add (.cell 23 yX y0 0) y1),(26,.cell 25 yY y0 0)],bv:=X9,ct:=[(42,yu 25 17 1 yI 0),(41,.up {r:=24,n1:=.var 15,s1:=52,n2:=10,s2:=5,lo:=2,ks:=yW} 1 [⟨1,yX,(.lit 9),4,.bool (.lit false)⟩,⟨1,yX,(.lit 9),3,.int .i64 (.var 12)⟩,⟨1,yX,(.lit 9),2,.int .i64 y0⟩,⟨1,yX,(.lit 9),1,.int .i64 y0⟩,⟨1,yX,(.lit 9),0,.int .i64 y0⟩,⟨1,yX,(.lit 8),4,.bool (.lit false)⟩,⟨1,yX,(.lit 8),3,.int .i64 y0⟩,⟨1,yX,(.lit 8),2,.int .i64 y0⟩,⟨1,yX,(.lit 8),1,.int .i64 y0⟩,⟨1,yX,(.lit 8),0,.int .i64 y0⟩,⟨1,yX,(.lit 7),4,.bool (.lit false)⟩,⟨1,yX,(.lit 7),3,.int .i64 y0⟩,⟨1,yX,(.lit 7),2,.int .i64 y0⟩,⟨1,yX,(.lit 7),1,.int .i64 y0⟩,⟨1,yX,(.lit 7),0,.int .i64 y0⟩,⟨1,yX,(.lit 6),4,.bool (.lit false)⟩,⟨1,yX,(.lit 6),3,.int .i64 y0⟩,⟨1,yX,(.lit 6),2,.int .i64 y0⟩,⟨1,yX,(.lit 6),1,.int .i64 y0⟩,⟨1,yX,(.lit 6),0,.int .i64 y0⟩,⟨1,yX,(.lit 5),4,.bool (.lit false)⟩,⟨1,yX,(.lit 5),3,.int .i64 y0⟩,⟨1,yX,(.lit 5),2,.int .i64 y0⟩,⟨1,yX,(.lit 5),1,.int .i64 y0⟩,⟨1,yX,(.lit 5),0,.int .i64 y0⟩,⟨1,yX,(.lit 4),4,.bool (.lit false)⟩,⟨1,yX,(.lit 4),3,.int .i64 y0⟩,⟨1,yX,(.lit 4),2,.int .i64 y0⟩,⟨1,yX,(.lit 4),1,.int .i64 y0⟩,⟨1,yX,(.lit 4),0,.int .i64 y0⟩,⟨1,yX,(.lit 3),4,.bool (.lit false)⟩,⟨1,yX,(.lit 3),3,.int .i64 y0⟩,⟨1,yX,(.lit 3),2,.int .i64 y0⟩,⟨1,yX,(.lit 3),1,.int .i64 y0⟩,⟨1,yX,(.lit 3),0,.int .i64 y0⟩,⟨1,yX,(.lit 2),4,.bool (.lit false)⟩,⟨1,yX,(.lit 2),3,.int .i64 y0⟩,⟨1,yX,(.lit 2),2,.int .i64 y0⟩,⟨1,yX,(.lit 2),1,.int .i64 y0⟩,⟨1,yX,(.lit 2),0,.int .i64 y0⟩,⟨1,yX,y1,4,.bool (.lit false)⟩,⟨1,yX,y1,3,.int .i64 y0⟩,⟨1,yX,y1,2,.int .i64 y0⟩,⟨1,yX,y1,1,.int .i64 y0⟩,⟨1,yX,y1,0,.int .i64 y0⟩,⟨1,yX,y0,4,.bool (.lit false)⟩,⟨1,yX,y0,3,.int .i64 y0⟩,⟨1,yX,y0,2,.int .i64 y0⟩,⟨1,yX,y0,1,.int .i64 y0⟩,⟨1,yX,y0,0,.int .i64 y0⟩,⟨0,yX,y0,1,.bool (.lit true)⟩,⟨0,yX,y0,0,.int .i64 (.add (.cell 23 yX y0 0) y1)⟩] y0),(40,.up {r:=23,n1:=.var 15,s1:=52,ks:=yB} 0 [⟨1,yX,(.lit 9),4,.bool (.lit false)⟩,⟨1,yX,(.lit 9),3,.int .i64 (.var 12)⟩,⟨1,yX,(.lit 9),2,.int .i64 y0⟩,⟨1,yX,(.lit 9),1,.int .i64 y0⟩,⟨1,yX,(.lit 9),0,.int .i64 y0⟩,⟨1,yX,(.lit 8),4,.bool (.lit false)⟩,⟨1,yX,(.lit 8),3,.int .i64 y0⟩,⟨1,yX,(.lit 8),2,.int .i64 y0⟩,⟨1,yX,(.lit 8),1,.int .i64 y0⟩,⟨1,yX,(.lit 8),0,.int .i64 y0⟩,⟨1,yX,(.lit 7),4,.bool (.lit false)⟩,⟨1,yX,(.lit 7),3,.int .i64 y0⟩,⟨1,yX,(.lit 7),2,.int .i64 y0⟩,⟨1,yX,(.lit 7),1,.int .i64 y0⟩,⟨1,yX,(.lit 7),0,.int .i64 y0⟩,⟨1,yX,(.lit 6),4,.bool (.lit false)⟩,⟨1,yX,(.lit 6),3,.int .i64 y0⟩,⟨1,yX,(.lit 6),2,.int .i64 y0⟩,⟨1,yX,(.lit 6),1,.int .i64 y0⟩,⟨1,yX,(.lit 6),0,.int .i64 y0⟩,⟨1,yX,(.lit 5),4,.bool (.lit false)⟩,⟨1,yX,(.lit 5),3,.int .i64 y0⟩,⟨1,yX,(.lit 5),2,.int .i64 y0⟩,⟨1,yX,(.lit 5),1,.int .i64 y0⟩,⟨1,yX,(.lit 5),0,.int .i64 y0⟩,⟨1,yX,(.lit 4),4,.bool (.lit false)⟩,⟨1,yX,(.lit 4),3,.int .i64 y0⟩,⟨1,yX,(.lit 4),2,.int .i64 y0⟩,⟨1,yX,(.lit 4),1,.int .i64 y0⟩,⟨1,yX,(.lit 4),0,.int .i64 y0⟩,⟨1,yX,(.lit 3),4,.bool (.lit false)⟩,⟨1,yX,(.lit 3),3,.int .i64 y0⟩,⟨1,yX,(.lit 3),2,.int .i64 y0⟩,⟨1,yX,(.lit 3),1,.int .i64 y0⟩,⟨1,yX,(.lit 3),0,.int .i64 y0⟩,⟨1,yX,(.lit 2),4,.bool (.lit false)⟩,⟨1,yX,(.lit 2),3,.int .i64 y0⟩,⟨1,yX,(.lit 2),2,.int .i64 y0⟩,⟨1,yX,(.lit 2),1,.int .i64 y0⟩,⟨1,yX,(.lit 2),0,.int .i64 y0⟩,⟨1,yX,y1,4,.bool (.lit false)⟩,⟨1,yX,y1,3,.int .i64 y0⟩,⟨1,yX,y1,2,.int .i64 y0⟩,⟨1,yX,y1,1,.int .i64 y0⟩,⟨1,yX,y1,0,.int .i64 y0⟩,⟨1,yX,y0,4,.bool (.lit false)⟩,⟨1,yX,y0,3,.int .i64 y0⟩,⟨1,yX,y0,2,.int .i64 y0⟩,⟨1,yX,y0,1,.int .i64 y0⟩,⟨1,yX,y0,0,.int .i64 y0⟩,⟨0,yX,y0,1,.bool (.lit true)⟩,⟨0,yX,y0,0,.int .i64 (.add (.cell 23 yX y0 0) y1)⟩] y0),(39,yu 22 14 5 yW 0)],bk:=lL,nb:=[1]}))
    (.br (.aA (.var 0) (.lit 5))
     (.ob (.or (.not (.ai y1 (.var 4))) (.ai y0 (.var 15))) <|
      .br (.not (.and (.ai y1 (.var 4)) (.ai (.var 4) (.var 15))))
      (.fin {lo:=26,ah:=13,iv:=J5,bv:=J6,ct:=kz,bk:=lL})
      (.ob (.inr .i64 (.add (.var 19) y1)) <|
       .br (.aA (.var 4) y0)
       (.ob (.inr .i64 (.sub (.var 4) y1)) <|
        .ob (.ai y0 (.sub (.var 4) y1)) <|
        .ob (.bO (.sub (.var 4) y1) (.var 15)) <|
        .ob (.ai (.mul (.add (.var 17) y1) (.lit 8)) (.lit 140737488355328)) <|
        .ob (.ai y0 (.var 17)) <|
        .ob (.ai (.var 17) (.var 18)) <|
        .ob (.ai (.var 18) (.lit 9223372036854775807)) <|
        .ob (.or (.not (.var 16)) (.aA (.var 17) y0)) <|
        .new 26 [.be (.and (.ai (.add (.var 17) y1) (.var 26)) (.ai (.var 26) (.lit 9223372036854775807)))] <|
        .fin {lo:=26,ah:=13,iv:=adI,bv:=adJ,ct:=adK,bk:=[(14,yb 12),(13,yc 18 1)],nb:=[1]})
       (.ob (.inr .i64 (.sub (.var 4) y1)) <|
        .ob (.ai y0 (.sub (.var 4) y1)) <|
        .ob (.bO (.sub (.var 4) y1) (.var 15)) <|
        .br (.not (.cell 23 (.sub (.var 4) y1) y0 1))
        (.br (.var 21)
         (.fin {lo:=26,ah:=13,iv:=um,bv:=J8,ct:=kz,bk:=[(14,yb 17),(13,yc 11 1)],nb:=[1]})
         (.fin {lo:=26,ah:=13,iv:=um,bv:=GM,ct:=kz,bk:=lL,nb:=[1]}))
        (.br (.not (.aA (.cell 23 (.sub (.var 4) y1) y0 0) (.var 5)))
         (.br (.var 21)
          (.fin {lo:=26,ah:=13,iv:=um,bv:=J8,ct:=kz,bk:=[(14,yb 17),(13,yc 11 1)],nb:=[1]})
          (.fin {lo:=26,ah:=13,iv:=um,bv:=GM,ct:=kz,bk:=lL,nb:=[1]}))
         (.ob (.ai (.mul (.add (.var 17) y1) (.lit 8)) (.lit 140737488355328)) <|
          .ob (.ai y0 (.var 17)) <|
          .ob (.ai (.var 17) (.var 18)) <|
          .ob (.ai (.var 18) (.lit 9223372036854775807)) <|
          .ob (.or (.not (.var 16)) (.aA (.var 17) y0)) <|
          .new 26 [.be (.and (.ai (.add (.var 17) y1) (.var 26)) (.ai (.var 26) (.lit 9223372036854775807)))] <|
          .fin {lo:=26,ah:=13,iv:=adI,bv:=adJ,ct:=adK,bk:=[(14,yb 12),(13,yc 18 1)],nb:=[1]})))))
     (.fin {lo:=26,ah:=13,iv:=J5,bv:=J6,ct:=kz,bk:=lL})))))
theorem adL:exec tab doE 8000 [] (fE oo.f oo.nv [] oo.gl oo.hp oo.args)=R3:=by kernel_rfl
def R4 (ρ:Env):Prop:=bz ρ 16∧(ay ρ (ρ.iv 14) (ρ.iv 15) 16).OK∧ρ.iv 19≤1000000
def l8 (ρ:Env):Prop:=bz ρ 33∧(ay ρ (ρ.iv 14) (ρ.iv 15) 16).act (aB ρ 0)=(ay ρ (ρ.iv 14) (ρ.iv 15) 33,if ρ.bv 32=true then some (aI ρ 26) else none)∧(ρ.bv 32=false→aI ρ 26=Rp.no)
theorem gZ {v:Env} {p:PS} {a:Ac} {P':PS} {R:Option Rp} (hp:ay v (v.iv 14) (v.iv 15) 16=p) (ha:aB v 0=a) (hact:p.act a=(P',R)) (ho:bz v 33) (h1:ay v (v.iv 14) (v.iv 15) 33=P') (h2:v.bv 32=R.isSome) (h3:aI v 26=R.getD Rp.no):l8 v:=by
 refine ⟨ho,?_,fun h=>?_⟩
 ·rw [hp,ha,hact,h1,h2,h3]
  cases R <;> simp
 ·rw [h2] at h
  rw [h3]
  cases R
  ·rfl
  ·cases h
set_option maxHeartbeats 4000000 in
theorem Ya {q:Env} (hv:(ay q (q.iv 14) (q.iv 15) 16).valid (aB q 0)) (hw:(ay q (q.iv 14) (q.iv 15) 16).right (aB q 0)) (c3:q.iv 0=4) (c4:¬q.iv 17=0) (ho:bz q 16) :
  Sat l8 [] [] q (.fin {lo:=26,ah:=13,iv:=[(37,(.add (.var 20) (.lit 1))),(36,(.add (.var 19) (.lit 1))),(35,(.var 18)),(34,(.sub (.var 17) (.lit 1))),(29,(.lit 0)),(28,(.lit 0)),(27,(.add (.cell 23 (.sub (.cell 25 (.sub (.var 17) (.lit 1)) (.lit 0) 0) (.lit 1)) (.lit 0) 0) (.lit 1))),(26,(.cell 25 (.sub (.var 17) (.lit 1)) (.lit 0) 0))],bv:=[(38,(.var 21)),(33,(.var 16)),(32,(.lit true)),(31,(.lit true)),(30,(.lit false))],ct:=[(42,.up {r:=25,n1:=(.var 17),s1:=1,ks:=[.int .i64]} 0 [] (.lit 0)),(41,.up {r:=24,n1:=(.var 15),s1:=52,n2:=10,s2:=5,lo:=2,ks:=[.int .i64,.int .i64,.int .i64,.int .i64,.bool]} 1 [⟨1,(.sub (.cell 25 (.sub (.var 17) (.lit 1)) (.lit 0) 0) (.lit 1)),(.lit 9),4,.bool (.lit false)⟩,⟨1,(.sub (.cell 25 (.sub (.var 17) (.lit 1)) (.lit 0) 0) (.lit 1)),(.lit 9),3,.int .i64 (.var 12)⟩,⟨1,(.sub (.cell 25 (.sub (.var 17) (.lit 1)) (.lit 0) 0) (.lit 1)),(.lit 9),2,.int .i64 (.lit 0)⟩,⟨1,(.sub (.cell 25 (.sub (.var 17) (.lit 1)) (.lit 0) 0) (.lit 1)),(.lit 9),1,.int .i64 (.lit 0)⟩,⟨1,(.sub (.cell 25 (.sub (.var 17) (.lit 1)) (.lit 0) 0) (.lit 1)),(.lit 9),0,.int .i64 (.lit 0)⟩,⟨1,(.sub (.cell 25 (.sub (.var 17) (.lit 1)) (.lit 0) 0) (.lit 1)),(.lit 8),4,.bool (.lit false)⟩,⟨1,(.sub (.cell 25 (.sub (.var 17) (.lit 1)) (.lit 0) 0) (.lit 1)),(.lit 8),3,.int .i64 (.lit 0)⟩,⟨1,(.sub (.cell 25 (.sub (.var 17) (.lit 1)) (.lit 0) 0) (.lit 1)),(.lit 8),2,.int .i64 (.lit 0)⟩,⟨1,(.sub (.cell 25 (.sub (.var 17) (.lit 1)) (.lit 0) 0) (.lit 1)),(.lit 8),1,.int .i64 (.lit 0)⟩,⟨1,(.sub (.cell 25 (.sub (.var 17) (.lit 1)) (.lit 0) 0) (.lit 1)),(.lit 8),0,.int .i64 (.lit 0)⟩,⟨1,(.sub (.cell 25 (.sub (.var 17) (.lit 1)) (.lit 0) 0) (.lit 1)),(.lit 7),4,.bool (.lit false)⟩,⟨1,(.sub (.cell 25 (.sub (.var 17) (.lit 1)) (.lit 0) 0) (.lit 1)),(.lit 7),3,.int .i64 (.lit 0)⟩,⟨1,(.sub (.cell 25 (.sub (.var 17) (.lit 1)) (.lit 0) 0) (.lit 1)),(.lit 7),2,.int .i64 (.lit 0)⟩,⟨1,(.sub (.cell 25 (.sub (.var 17) (.lit 1)) (.lit 0) 0) (.lit 1)),(.lit 7),1,.int .i64 (.lit 0)⟩,⟨1,(.sub (.cell 25 (.sub (.var 17) (.lit 1)) (.lit 0) 0) (.lit 1)),(.lit 7),0,.int .i64 (.lit 0)⟩,⟨1,(.sub (.cell 25 (.sub (.var 17) (.lit 1)) (.lit 0) 0) (.lit 1)),(.lit 6),4,.bool (.lit false)⟩,⟨1,(.sub (.cell 25 (.sub (.var 17) (.lit 1)) (.lit 0) 0) (.lit 1)),(.lit 6),3,.int .i64 (.lit 0)⟩,⟨1,(.sub (.cell 25 (.sub (.var 17) (.lit 1)) (.lit 0) 0) (.lit 1)),(.lit 6),2,.int .i64 (.lit 0)⟩,⟨1,(.sub (.cell 25 (.sub (.var 17) (.lit 1)) (.lit 0) 0) (.lit 1)),(.lit 6),1,.int .i64 (.lit 0)⟩,⟨1,(.sub (.cell 25 (.sub (.var 17) (.lit 1)) (.lit 0) 0) (.lit 1)),(.lit 6),0,.int .i64 (.lit 0)⟩,⟨1,(.sub (.cell 25 (.sub (.var 17) (.lit 1)) (.lit 0) 0) (.lit 1)),(.lit 5),4,.bool (.lit false)⟩,⟨1,(.sub (.cell 25 (.sub (.var 17) (.lit 1)) (.lit 0) 0) (.lit 1)),(.lit 5),3,.int .i64 (.lit 0)⟩,⟨1,(.sub (.cell 25 (.sub (.var 17) (.lit 1)) (.lit 0) 0) (.lit 1)),(.lit 5),2,.int .i64 (.lit 0)⟩,⟨1,(.sub (.cell 25 (.sub (.var 17) (.lit 1)) (.lit 0) 0) (.lit 1)),(.lit 5),1,.int .i64 (.lit 0)⟩,⟨1,(.sub (.cell 25 (.sub (.var 17) (.lit 1)) (.lit 0) 0) (.lit 1)),(.lit 5),0,.int .i64 (.lit 0)⟩,⟨1,(.sub (.cell 25 (.sub (.var 17) (.lit 1)) (.lit 0) 0) (.lit 1)),(.lit 4),4,.bool (.lit false)⟩,⟨1,(.sub (.cell 25 (.sub (.var 17) (.lit 1)) (.lit 0) 0) (.lit 1)),(.lit 4),3,.int .i64 (.lit 0)⟩,⟨1,(.sub (.cell 25 (.sub (.var 17) (.lit 1)) (.lit 0) 0) (.lit 1)),(.lit 4),2,.int .i64 (.lit 0)⟩,⟨1,(.sub (.cell 25 (.sub (.var 17) (.lit 1)) (.lit 0) 0) (.lit 1)),(.lit 4),1,.int .i64 (.lit 0)⟩,⟨1,(.sub (.cell 25 (.sub (.var 17) (.lit 1)) (.lit 0) 0) (.lit 1)),(.lit 4),0,.int .i64 (.lit 0)⟩,⟨1,(.sub (.cell 25 (.sub (.var 17) (.lit 1)) (.lit 0) 0) (.lit 1)),(.lit 3),4,.bool (.lit false)⟩,⟨1,(.sub (.cell 25 (.sub (.var 17) (.lit 1)) (.lit 0) 0) (.lit 1)),(.lit 3),3,.int .i64 (.lit 0)⟩,⟨1,(.sub (.cell 25 (.sub (.var 17) (.lit 1)) (.lit 0) 0) (.lit 1)),(.lit 3),2,.int .i64 (.lit 0)⟩,⟨1,(.sub (.cell 25 (.sub (.var 17) (.lit 1)) (.lit 0) 0) (.lit 1)),(.lit 3),1,.int .i64 (.lit 0)⟩,⟨1,(.sub (.cell 25 (.sub (.var 17) (.lit 1)) (.lit 0) 0) (.lit 1)),(.lit 3),0,.int .i64 (.lit 0)⟩,⟨1,(.sub (.cell 25 (.sub (.var 17) (.lit 1)) (.lit 0) 0) (.lit 1)),(.lit 2),4,.bool (.lit false)⟩,⟨1,(.sub (.cell 25 (.sub (.var 17) (.lit 1)) (.lit 0) 0) (.lit 1)),(.lit 2),3,.int .i64 (.lit 0)⟩,⟨1,(.sub (.cell 25 (.sub (.var 17) (.lit 1)) (.lit 0) 0) (.lit 1)),(.lit 2),2,.int .i64 (.lit 0)⟩,⟨1,(.sub (.cell 25 (.sub (.var 17) (.lit 1)) (.lit 0) 0) (.lit 1)),(.lit 2),1,.int .i64 (.lit 0)⟩,⟨1,(.sub (.cell 25 (.sub (.var 17) (.lit 1)) (.lit 0) 0) (.lit 1)),(.lit 2),0,.int .i64 (.lit 0)⟩,⟨1,(.sub (.cell 25 (.sub (.var 17) (.lit 1)) (.lit 0) 0) (.lit 1)),(.lit 1),4,.bool (.lit false)⟩,⟨1,(.sub (.cell 25 (.sub (.var 17) (.lit 1)) (.lit 0) 0) (.lit 1)),(.lit 1),3,.int .i64 (.lit 0)⟩,⟨1,(.sub (.cell 25 (.sub (.var 17) (.lit 1)) (.lit 0) 0) (.lit 1)),(.lit 1),2,.int .i64 (.lit 0)⟩,⟨1,(.sub (.cell 25 (.sub (.var 17) (.lit 1)) (.lit 0) 0) (.lit 1)),(.lit 1),1,.int .i64 (.lit 0)⟩,⟨1,(.sub (.cell 25 (.sub (.var 17) (.lit 1)) (.lit 0) 0) (.lit 1)),(.lit 1),0,.int .i64 (.lit 0)⟩,⟨1,(.sub (.cell 25 (.sub (.var 17) (.lit 1)) (.lit 0) 0) (.lit 1)),(.lit 0),4,.bool (.lit false)⟩,⟨1,(.sub (.cell 25 (.sub (.var 17) (.lit 1)) (.lit 0) 0) (.lit 1)),(.lit 0),3,.int .i64 (.lit 0)⟩,⟨1,(.sub (.cell 25 (.sub (.var 17) (.lit 1)) (.lit 0) 0) (.lit 1)),(.lit 0),2,.int .i64 (.lit 0)⟩,⟨1,(.sub (.cell 25 (.sub (.var 17) (.lit 1)) (.lit 0) 0) (.lit 1)),(.lit 0),1,.int .i64 (.lit 0)⟩,⟨1,(.sub (.cell 25 (.sub (.var 17) (.lit 1)) (.lit 0) 0) (.lit 1)),(.lit 0),0,.int .i64 (.lit 0)⟩,⟨0,(.sub (.cell 25 (.sub (.var 17) (.lit 1)) (.lit 0) 0) (.lit 1)),(.lit 0),1,.bool (.lit true)⟩,⟨0,(.sub (.cell 25 (.sub (.var 17) (.lit 1)) (.lit 0) 0) (.lit 1)),(.lit 0),0,.int .i64 (.add (.cell 23 (.sub (.cell 25 (.sub (.var 17) (.lit 1)) (.lit 0) 0) (.lit 1)) (.lit 0) 0) (.lit 1))⟩] (.lit 0)),(40,.up {r:=23,n1:=(.var 15),s1:=52,ks:=[.int .i64,.bool]} 0 [⟨1,(.sub (.cell 25 (.sub (.var 17) (.lit 1)) (.lit 0) 0) (.lit 1)),(.lit 9),4,.bool (.lit false)⟩,⟨1,(.sub (.cell 25 (.sub (.var 17) (.lit 1)) (.lit 0) 0) (.lit 1)),(.lit 9),3,.int .i64 (.var 12)⟩,⟨1,(.sub (.cell 25 (.sub (.var 17) (.lit 1)) (.lit 0) 0) (.lit 1)),(.lit 9),2,.int .i64 (.lit 0)⟩,⟨1,(.sub (.cell 25 (.sub (.var 17) (.lit 1)) (.lit 0) 0) (.lit 1)),(.lit 9),1,.int .i64 (.lit 0)⟩,⟨1,(.sub (.cell 25 (.sub (.var 17) (.lit 1)) (.lit 0) 0) (.lit 1)),(.lit 9),0,.int .i64 (.lit 0)⟩,⟨1,(.sub (.cell 25 (.sub (.var 17) (.lit 1)) (.lit 0) 0) (.lit 1)),(.lit 8),4,.bool (.lit false)⟩,⟨1,(.sub (.cell 25 (.sub (.var 17) (.lit 1)) (.lit 0) 0) (.lit 1)),(.lit 8),3,.int .i64 (.lit 0)⟩,⟨1,(.sub (.cell 25 (.sub (.var 17) (.lit 1)) (.lit 0) 0) (.lit 1)),(.lit 8),2,.int .i64 (.lit 0)⟩,⟨1,(.sub (.cell 25 (.sub (.var 17) (.lit 1)) (.lit 0) 0) (.lit 1)),(.lit 8),1,.int .i64 (.lit 0)⟩,⟨1,(.sub (.cell 25 (.sub (.var 17) (.lit 1)) (.lit 0) 0) (.lit 1)),(.lit 8),0,.int .i64 (.lit 0)⟩,⟨1,(.sub (.cell 25 (.sub (.var 17) (.lit 1)) (.lit 0) 0) (.lit 1)),(.lit 7),4,.bool (.lit false)⟩,⟨1,(.sub (.cell 25 (.sub (.var 17) (.lit 1)) (.lit 0) 0) (.lit 1)),(.lit 7),3,.int .i64 (.lit 0)⟩,⟨1,(.sub (.cell 25 (.sub (.var 17) (.lit 1)) (.lit 0) 0) (.lit 1)),(.lit 7),2,.int .i64 (.lit 0)⟩,⟨1,(.sub (.cell 25 (.sub (.var 17) (.lit 1)) (.lit 0) 0) (.lit 1)),(.lit 7),1,.int .i64 (.lit 0)⟩,⟨1,(.sub (.cell 25 (.sub (.var 17) (.lit 1)) (.lit 0) 0) (.lit 1)),(.lit 7),0,.int .i64 (.lit 0)⟩,⟨1,(.sub (.cell 25 (.sub (.var 17) (.lit 1)) (.lit 0) 0) (.lit 1)),(.lit 6),4,.bool (.lit false)⟩,⟨1,(.sub (.cell 25 (.sub (.var 17) (.lit 1)) (.lit 0) 0) (.lit 1)),(.lit 6),3,.int .i64 (.lit 0)⟩,⟨1,(.sub (.cell 25 (.sub (.var 17) (.lit 1)) (.lit 0) 0) (.lit 1)),(.lit 6),2,.int .i64 (.lit 0)⟩,⟨1,(.sub (.cell 25 (.sub (.var 17) (.lit 1)) (.lit 0) 0) (.lit 1)),(.lit 6),1,.int .i64 (.lit 0)⟩,⟨1,(.sub (.cell 25 (.sub (.var 17) (.lit 1)) (.lit 0) 0) (.lit 1)),(.lit 6),0,.int .i64 (.lit 0)⟩,⟨1,(.sub (.cell 25 (.sub (.var 17) (.lit 1)) (.lit 0) 0) (.lit 1)),(.lit 5),4,.bool (.lit false)⟩,⟨1,(.sub (.cell 25 (.sub (.var 17) (.lit 1)) (.lit 0) 0) (.lit 1)),(.lit 5),3,.int .i64 (.lit 0)⟩,⟨1,(.sub (.cell 25 (.sub (.var 17) (.lit 1)) (.lit 0) 0) (.lit 1)),(.lit 5),2,.int .i64 (.lit 0)⟩,⟨1,(.sub (.cell 25 (.sub (.var 17) (.lit 1)) (.lit 0) 0) (.lit 1)),(.lit 5),1,.int .i64 (.lit 0)⟩,⟨1,(.sub (.cell 25 (.sub (.var 17) (.lit 1)) (.lit 0) 0) (.lit 1)),(.lit 5),0,.int .i64 (.lit 0)⟩,⟨1,(.sub (.cell 25 (.sub (.var 17) (.lit 1)) (.lit 0) 0) (.lit 1)),(.lit 4),4,.bool (.lit false)⟩,⟨1,(.sub (.cell 25 (.sub (.var 17) (.lit 1)) (.lit 0) 0) (.lit 1)),(.lit 4),3,.int .i64 (.lit 0)⟩,⟨1,(.sub (.cell 25 (.sub (.var 17) (.lit 1)) (.lit 0) 0) (.lit 1)),(.lit 4),2,.int .i64 (.lit 0)⟩,⟨1,(.sub (.cell 25 (.sub (.var 17) (.lit 1)) (.lit 0) 0) (.lit 1)),(.lit 4),1,.int .i64 (.lit 0)⟩,⟨1,(.sub (.cell 25 (.sub (.var 17) (.lit 1)) (.lit 0) 0) (.lit 1)),(.lit 4),0,.int .i64 (.lit 0)⟩,⟨1,(.sub (.cell 25 (.sub (.var 17) (.lit 1)) (.lit 0) 0) (.lit 1)),(.lit 3),4,.bool (.lit false)⟩,⟨1,(.sub (.cell 25 (.sub (.var 17) (.lit 1)) (.lit 0) 0) (.lit 1)),(.lit 3),3,.int .i64 (.lit 0)⟩,⟨1,(.sub (.cell 25 (.sub (.var 17) (.lit 1)) (.lit 0) 0) (.lit 1)),(.lit 3),2,.int .i64 (.lit 0)⟩,⟨1,(.sub (.cell 25 (.sub (.var 17) (.lit 1)) (.lit 0) 0) (.lit 1)),(.lit 3),1,.int .i64 (.lit 0)⟩,⟨1,(.sub (.cell 25 (.sub (.var 17) (.lit 1)) (.lit 0) 0) (.lit 1)),(.lit 3),0,.int .i64 (.lit 0)⟩,⟨1,(.sub (.cell 25 (.sub (.var 17) (.lit 1)) (.lit 0) 0) (.lit 1)),(.lit 2),4,.bool (.lit false)⟩,⟨1,(.sub (.cell 25 (.sub (.var 17) (.lit 1)) (.lit 0) 0) (.lit 1)),(.lit 2),3,.int .i64 (.lit 0)⟩,⟨1,(.sub (.cell 25 (.sub (.var 17) (.lit 1)) (.lit 0) 0) (.lit 1)),(.lit 2),2,.int .i64 (.lit 0)⟩,⟨1,(.sub (.cell 25 (.sub (.var 17) (.lit 1)) (.lit 0) 0) (.lit 1)),(.lit 2),1,.int .i64 (.lit 0)⟩,⟨1,(.sub (.cell 25 (.sub (.var 17) (.lit 1)) (.lit 0) 0) (.lit 1)),(.lit 2),0,.int .i64 (.lit 0)⟩,⟨1,(.sub (.cell 25 (.sub (.var 17) (.lit 1)) (.lit 0) 0) (.lit 1)),(.lit 1),4,.bool (.lit false)⟩,⟨1,(.sub (.cell 25 (.sub (.var 17) (.lit 1)) (.lit 0) 0) (.lit 1)),(.lit 1),3,.int .i64 (.lit 0)⟩,⟨1,(.sub (.cell 25 (.sub (.var 17) (.lit 1)) (.lit 0) 0) (.lit 1)),(.lit 1),2,.int .i64 (.lit 0)⟩,⟨1,(.sub (.cell 25 (.sub (.var 17) (.lit 1)) (.lit 0) 0) (.lit 1)),(.lit 1),1,.int .i64 (.lit 0)⟩,⟨1,(.sub (.cell 25 (.sub (.var 17) (.lit 1)) (.lit 0) 0) (.lit 1)),(.lit 1),0,.int .i64 (.lit 0)⟩,⟨1,(.sub (.cell 25 (.sub (.var 17) (.lit 1)) (.lit 0) 0) (.lit 1)),(.lit 0),4,.bool (.lit false)⟩,⟨1,(.sub (.cell 25 (.sub (.var 17) (.lit 1)) (.lit 0) 0) (.lit 1)),(.lit 0),3,.int .i64 (.lit 0)⟩,⟨1,(.sub (.cell 25 (.sub (.var 17) (.lit 1)) (.lit 0) 0) (.lit 1)),(.lit 0),2,.int .i64 (.lit 0)⟩,⟨1,(.sub (.cell 25 (.sub (.var 17) (.lit 1)) (.lit 0) 0) (.lit 1)),(.lit 0),1,.int .i64 (.lit 0)⟩,⟨1,(.sub (.cell 25 (.sub (.var 17) (.lit 1)) (.lit 0) 0) (.lit 1)),(.lit 0),0,.int .i64 (.lit 0)⟩,⟨0,(.sub (.cell 25 (.sub (.var 17) (.lit 1)) (.lit 0) 0) (.lit 1)),(.lit 0),1,.bool (.lit true)⟩,⟨0,(.sub (.cell 25 (.sub (.var 17) (.lit 1)) (.lit 0) 0) (.lit 1)),(.lit 0),0,.int .i64 (.add (.cell 23 (.sub (.cell 25 (.sub (.var 17) (.lit 1)) (.lit 0) 0) (.lit 1)) (.lit 0) 0) (.lit 1))⟩] (.lit 0)),(39,.up {r:=22,n1:=(.var 14),s1:=5,ks:=[.int .i64,.int .i64,.int .i64,.int .i64,.bool]} 0 [] (.lit 0))],bk:=[(14,{aC:=12}),(13,{aC:=11,i1:=(.lit 0),s1:=1})],nb:=[1]}):=by
 refine Sat.fin (gZ rfl rfl (mW hv hw (abP c3 c4)) ?_ (PS.ext' rfl rfl rfl rfl rfl rfl (fun i=>by simp [ay,aO,-Int.pred_toNat,Sub.ag,assoc,CV.I,CV.B,aj,ak,ae.I,ae.B,SC.I,SC.B,IE.den,BE.den]) (fun i=>?_) (fun i=>?_) (fun i k=>?_) (fun i=>by simp [ay,-Int.pred_toNat,Sub.ag,assoc,CV.I,CV.B,aj,ak,ae.I,ae.B,SC.I,SC.B,IE.den,BE.den])) rfl ?_)
 ·obtain ⟨o1,o2,o3,o4⟩:=ho
  refine ⟨fun h=>absurd (o1 h) c4,?_,?_,o4⟩
  ·show 0≤q.iv 17-1
   have:0≤q.iv 17:=o2
   omega
  ·show q.iv 17-1≤q.iv 18
   have:q.iv 17≤q.iv 18:=o3
   omega
 ·by_cases h:i=(q.ic 25 (q.iv 17-1).toNat 0 0-1).toNat
  ·subst h
   simp [ay,aB,az,-Int.pred_toNat,Sub.ag,assoc,CV.I,CV.B,aj,ak,ae.I,ae.B,SC.I,SC.B,IE.den,BE.den]
  ·simp [ay,aB,az,-Int.pred_toNat,Sub.ag,assoc,CV.I,CV.B,aj,ak,ae.I,ae.B,SC.I,SC.B,IE.den,BE.den,h,Ne.symm h]
 ·by_cases h:i=(q.ic 25 (q.iv 17-1).toNat 0 0-1).toNat
  ·subst h
   simp [ay,aB,az,-Int.pred_toNat,Sub.ag,assoc,CV.I,CV.B,aj,ak,ae.I,ae.B,SC.I,SC.B,IE.den,BE.den]
  ·simp [ay,aB,az,-Int.pred_toNat,Sub.ag,assoc,CV.I,CV.B,aj,ak,ae.I,ae.B,SC.I,SC.B,IE.den,BE.den,h,Ne.symm h]
 ·by_cases h:i=(q.ic 25 (q.iv 17-1).toNat 0 0-1).toNat
  ·subst h
   by_cases hk:k<10
   ·have:k=0∨k=1∨k=2∨k=3∨k=4∨k=5∨k=6∨k=7∨k=8∨k=9:=by omega
    rcases this with rfl | rfl | rfl | rfl | rfl | rfl | rfl | rfl | rfl | rfl <;> simp [ay,aO,aB,az,iM,Wd.zero,-Int.pred_toNat,Sub.ag,assoc,CV.I,CV.B,aj,ak,ae.I,ae.B,SC.I,SC.B,IE.den,BE.den]
   ·have n0:¬0=k:=by omega
    have n1:¬1=k:=by omega
    have n2:¬2=k:=by omega
    have n3:¬3=k:=by omega
    have n4:¬4=k:=by omega
    have n5:¬5=k:=by omega
    have n6:¬6=k:=by omega
    have n7:¬7=k:=by omega
    have n8:¬8=k:=by omega
    have n9:¬9=k:=by omega
    simp [ay,aO,aB,az,-Int.pred_toNat,Sub.ag,assoc,CV.I,CV.B,aj,ak,ae.I,ae.B,SC.I,SC.B,IE.den,BE.den,hk,n0,n1,n2,n3,n4,n5,n6,n7,n8,n9]
  ·simp [ay,aO,aB,az,-Int.pred_toNat,Sub.ag,assoc,CV.I,CV.B,aj,ak,ae.I,ae.B,SC.I,SC.B,IE.den,BE.den,h,Ne.symm h]
 ·simp [aI,az,ay,aO,aB,Wd.zero,-Int.pred_toNat,Sub.ag,assoc,CV.I,CV.B,aj,ak,ae.I,ae.B,SC.I,SC.B,IE.den,BE.den]
set_option maxHeartbeats 4000000 in
theorem abQ {q:Env} (hv:(ay q (q.iv 14) (q.iv 15) 16).valid (aB q 0)) (hw:(ay q (q.iv 14) (q.iv 15) 16).right (aB q 0)) (c3:q.iv 0=5) (ho:bz q 16) (hf:q.iv 17+1≤q.iv 26∧q.iv 26≤9223372036854775807) :
  Sat l8 [] [] q (.fin {lo:=26,ah:=13,iv:=[(37,(.var 20)),(36,(.add (.var 19) (.lit 1))),(35,(.var 26)),(34,(.add (.var 17) (.lit 1))),(29,(.lit 0)),(28,(.lit 0)),(27,(.lit 0)),(26,(.lit 0))],bv:=[(38,(.var 21)),(33,(.lit false)),(32,(.lit true)),(31,(.lit true)),(30,(.lit false))],ct:=[(42,.up {r:=25,n1:=(.add (.var 17) (.lit 1)),s1:=1,ks:=[.int .i64]} 0 [⟨0,(.var 17),(.lit 0),0,.int .i64 (.var 4)⟩] (.lit 0)),(41,.up {r:=24,n1:=(.var 15),s1:=52,n2:=10,s2:=5,lo:=2,ks:=[.int .i64,.int .i64,.int .i64,.int .i64,.bool]} 1 [⟨0,(.sub (.var 4) (.lit 1)),(.lit 0),1,.bool (.lit false)⟩] (.lit 0)),(40,.up {r:=23,n1:=(.var 15),s1:=52,ks:=[.int .i64,.bool]} 0 [⟨0,(.sub (.var 4) (.lit 1)),(.lit 0),1,.bool (.lit false)⟩] (.lit 0)),(39,.up {r:=22,n1:=(.var 14),s1:=5,ks:=[.int .i64,.int .i64,.int .i64,.int .i64,.bool]} 0 [] (.lit 0))],bk:=[(14,{aC:=12}),(13,{aC:=18,i1:=(.lit 0),s1:=1})],nb:=[1]}):=by
 refine Sat.fin (gZ rfl rfl (mW hv hw (adD c3)) ?_ (PS.ext' rfl rfl rfl rfl rfl rfl (fun i=>by simp [ay,aO,PS.free,-Int.pred_toNat,Sub.ag,assoc,CV.I,CV.B,aj,ak,ae.I,ae.B,SC.I,SC.B,IE.den,BE.den]) (fun i=>by simp [ay,PS.free,-Int.pred_toNat,Sub.ag,assoc,CV.I,CV.B,aj,ak,ae.I,ae.B,SC.I,SC.B,IE.den,BE.den]) (fun i=>?_) (fun i k=>by simp [ay,aO,PS.free,-Int.pred_toNat,Sub.ag,assoc,CV.I,CV.B,aj,ak,ae.I,ae.B,SC.I,SC.B,IE.den,BE.den]) (fun i=>?_)) rfl ?_)
 ·refine ⟨fun h=>(by cases h),?_,hf.1,hf.2⟩
  show 0≤q.iv 17+1
  have:0≤q.iv 17:=ho.2.1
  omega
 ·by_cases h:i=(q.iv 4-1).toNat
  ·subst h
   simp [ay,aB,az,PS.free,-Int.pred_toNat,Sub.ag,assoc,CV.I,CV.B,aj,ak,ae.I,ae.B,SC.I,SC.B,IE.den,BE.den]
  ·simp [ay,aB,az,PS.free,-Int.pred_toNat,Sub.ag,assoc,CV.I,CV.B,aj,ak,ae.I,ae.B,SC.I,SC.B,IE.den,BE.den,h,Ne.symm h]
 ·by_cases h:i=(q.iv 17).toNat
  ·subst h
   simp [ay,aB,az,PS.free,-Int.pred_toNat,Sub.ag,assoc,CV.I,CV.B,aj,ak,ae.I,ae.B,SC.I,SC.B,IE.den,BE.den]
  ·simp [ay,aB,az,PS.free,-Int.pred_toNat,Sub.ag,assoc,CV.I,CV.B,aj,ak,ae.I,ae.B,SC.I,SC.B,IE.den,BE.den,h,Ne.symm h]
 ·simp [aI,az,Wd.zero,-Int.pred_toNat,Sub.ag,assoc,CV.I,CV.B,aj,ak,ae.I,ae.B,SC.I,SC.B,IE.den,BE.den]
theorem iy {p q:PS} (h6:p.bT=q.bT:=by exact rfl) (h1:p.nb=q.nb:=by exact rfl) (h2:p.ns=q.ns:=by exact rfl) (h3:p.nf=q.nf:=by exact rfl) (h4:p.steps=q.steps:=by exact rfl) (h5:p.made=q.made:=by exact rfl) (h7:∀i,p.bd i=q.bd i:=by exact fun i=>by simp [ay,aO,-Int.pred_toNat,Sub.ag,assoc,CV.I,CV.B,aj,ak,ae.I,ae.B,SC.I,SC.B,IE.den,BE.den]) (h8:∀i,p.gen i=q.gen i:=by exact fun i=>by simp [ay,-Int.pred_toNat,Sub.ag,assoc,CV.I,CV.B,aj,ak,ae.I,ae.B,SC.I,SC.B,IE.den,BE.den]) (h9:∀i,p.used i=q.used i:=by exact fun i=>by simp [ay,-Int.pred_toNat,Sub.ag,assoc,CV.I,CV.B,aj,ak,ae.I,ae.B,SC.I,SC.B,IE.den,BE.den]) (h10:∀i k,p.cell i k=q.cell i k:=by exact fun i k=>by simp [ay,aO,-Int.pred_toNat,Sub.ag,assoc,CV.I,CV.B,aj,ak,ae.I,ae.B,SC.I,SC.B,IE.den,BE.den]) (h11:∀i,p.fr i=q.fr i:=by exact fun i=>by simp [ay,-Int.pred_toNat,Sub.ag,assoc,CV.I,CV.B,aj,ak,ae.I,ae.B,SC.I,SC.B,IE.den,BE.den]):p=q:=PS.ext' h1 h2 h3 h4 h5 h6 h7 h8 h9 h10 h11
theorem dm {post:Env→Prop} {cs:mO} {Γ:List (Env→Prop)} {ρ:Env} {b:BE} {k:Out} (h2:Sat post cs Γ ρ k) (h1:b.den ρ=true:=by first | exact df ho | exact ve ho (by simp only [Nat.reduceAdd];omega) | (simp only [Da];omega)):Sat post cs Γ ρ (.ob b k):=Sat.ob h1 h2
theorem ahP {v:Env} (h:(ay v (v.iv 14) (v.iv 15) 16).valid (aB v 0):=by first | (simp [-Int.pred_toNat,PS.valid,PS.has,PS.is,ay,aB,az,c0,c1,c2];done) | (simp [-Int.pred_toNat,PS.valid,PS.has,PS.is,ay,aB,az,c0,c1,c2];omega)):(ay v (v.iv 14) (v.iv 15) 16).valid (aB v 0):=h
theorem ahQ {v:Env} (h:(ay v (v.iv 14) (v.iv 15) 16).valid (aB v 0):=by first | (simp [-Int.pred_toNat,PS.valid,PS.has,PS.is,ay,aB,az,c0,c1,c2,c3];done) | (simp [-Int.pred_toNat,PS.valid,PS.has,PS.is,ay,aB,az,c0,c1,c2,c3];omega)):(ay v (v.iv 14) (v.iv 15) 16).valid (aB v 0):=h
theorem Ng {v:Env} (h:(ay v (v.iv 14) (v.iv 15) 16).valid (aB v 0):=by first | (simp [-Int.pred_toNat,PS.valid,PS.has,PS.is,ay,aB,az,c0,c1,c2,c3,c4];done) | (simp [-Int.pred_toNat,PS.valid,PS.has,PS.is,ay,aB,az,c0,c1,c2,c3,c4];omega)):(ay v (v.iv 14) (v.iv 15) 16).valid (aB v 0):=h
theorem EE {v:Env} (h:(ay v (v.iv 14) (v.iv 15) 16).valid (aB v 0):=by first | (simp [-Int.pred_toNat,PS.valid,PS.has,PS.is,ay,aB,az,c0,c1,c2,c3,c4,c5];done) | (simp [-Int.pred_toNat,PS.valid,PS.has,PS.is,ay,aB,az,c0,c1,c2,c3,c4,c5];omega)):(ay v (v.iv 14) (v.iv 15) 16).valid (aB v 0):=h
theorem R5 {v:Env} (h:(ay v (v.iv 14) (v.iv 15) 16).valid (aB v 0):=by first | (simp [-Int.pred_toNat,PS.valid,PS.has,PS.is,ay,aB,az,c0,c1,c2,c3,c4,c5,c6];done) | (simp [-Int.pred_toNat,PS.valid,PS.has,PS.is,ay,aB,az,c0,c1,c2,c3,c4,c5,c6];omega)):(ay v (v.iv 14) (v.iv 15) 16).valid (aB v 0):=h
theorem R6 {v:Env} (h:(ay v (v.iv 14) (v.iv 15) 16).valid (aB v 0):=by first | (simp [-Int.pred_toNat,PS.valid,PS.has,PS.is,ay,aB,az,c0,c1,c2,c3,c4,c5,c6,c7];done) | (simp [-Int.pred_toNat,PS.valid,PS.has,PS.is,ay,aB,az,c0,c1,c2,c3,c4,c5,c6,c7];omega)):(ay v (v.iv 14) (v.iv 15) 16).valid (aB v 0):=h
theorem Yb {v:Env} (h:(ay v (v.iv 14) (v.iv 15) 16).valid (aB v 0):=by first | (simp [-Int.pred_toNat,PS.valid,PS.has,PS.is,ay,aB,az,c0,c1,c2,c3,c4,c5,c6,c7,c8];done) | (simp [-Int.pred_toNat,PS.valid,PS.has,PS.is,ay,aB,az,c0,c1,c2,c3,c4,c5,c6,c7,c8];omega)):(ay v (v.iv 14) (v.iv 15) 16).valid (aB v 0):=h
theorem ahR {v:Env} (h:(ay v (v.iv 14) (v.iv 15) 16).right (aB v 0):=by first | (simp [-Int.pred_toNat,PS.right,PS.live,ay,aB,az,c0,c1,c2];done) | (simp [-Int.pred_toNat,PS.right,PS.live,ay,aB,az,c0,c1,c2];omega)):(ay v (v.iv 14) (v.iv 15) 16).right (aB v 0):=h
theorem ahS {v:Env} (h:(ay v (v.iv 14) (v.iv 15) 16).right (aB v 0):=by first | (simp [-Int.pred_toNat,PS.right,PS.live,ay,aB,az,c0,c1,c2,c3];done) | (simp [-Int.pred_toNat,PS.right,PS.live,ay,aB,az,c0,c1,c2,c3];omega)):(ay v (v.iv 14) (v.iv 15) 16).right (aB v 0):=h
theorem Yc {v:Env} (h:(ay v (v.iv 14) (v.iv 15) 16).right (aB v 0):=by first | (simp [-Int.pred_toNat,PS.right,PS.live,ay,aB,az,c0,c1,c2,c3,c4];done) | (simp [-Int.pred_toNat,PS.right,PS.live,ay,aB,az,c0,c1,c2,c3,c4];omega)):(ay v (v.iv 14) (v.iv 15) 16).right (aB v 0):=h
theorem Yd {v:Env} (h:(ay v (v.iv 14) (v.iv 15) 16).right (aB v 0):=by first | (simp [-Int.pred_toNat,PS.right,PS.live,ay,aB,az,c0,c1,c2,c3,c4,c5];done) | (simp [-Int.pred_toNat,PS.right,PS.live,ay,aB,az,c0,c1,c2,c3,c4,c5];omega)):(ay v (v.iv 14) (v.iv 15) 16).right (aB v 0):=h
theorem adM {v:Env} (h:(ay v (v.iv 14) (v.iv 15) 16).right (aB v 0):=by first | (simp [-Int.pred_toNat,PS.right,PS.live,ay,aB,az,c0,c1,c2,c3,c4,c5,c6,c7];done) | (simp [-Int.pred_toNat,PS.right,PS.live,ay,aB,az,c0,c1,c2,c3,c4,c5,c6,c7];omega)):(ay v (v.iv 14) (v.iv 15) 16).right (aB v 0):=h
theorem ahT {v:Env} (h:(ay v (v.iv 14) (v.iv 15) 16).right (aB v 0):=by first | (simp [-Int.pred_toNat,PS.right,PS.live,ay,aB,az,c0,c1,c2,c3,c4,c5,c6,c7,c8];done) | (simp [-Int.pred_toNat,PS.right,PS.live,ay,aB,az,c0,c1,c2,c3,c4,c5,c6,c7,c8];omega)):(ay v (v.iv 14) (v.iv 15) 16).right (aB v 0):=h
theorem adN {v:Env} (h:¬(ay v (v.iv 14) (v.iv 15) 16).valid (aB v 0):=by first | (simp [-Int.pred_toNat,PS.valid,PS.has,PS.is,ay,aB,az,c0,c1,c2];done) | (simp [-Int.pred_toNat,PS.valid,PS.has,PS.is,ay,aB,az,c0,c1,c2];omega)):¬(ay v (v.iv 14) (v.iv 15) 16).valid (aB v 0):=h
theorem adO {v:Env} (h:¬(ay v (v.iv 14) (v.iv 15) 16).valid (aB v 0):=by first | (simp [-Int.pred_toNat,PS.valid,PS.has,PS.is,ay,aB,az,c0,c1,c2,c3];done) | (simp [-Int.pred_toNat,PS.valid,PS.has,PS.is,ay,aB,az,c0,c1,c2,c3];omega)):¬(ay v (v.iv 14) (v.iv 15) 16).valid (aB v 0):=h
theorem Ye {v:Env} (h:¬(ay v (v.iv 14) (v.iv 15) 16).valid (aB v 0):=by first | (simp [-Int.pred_toNat,PS.valid,PS.has,PS.is,ay,aB,az,c0,c1,c2,c3,c4];done) | (simp [-Int.pred_toNat,PS.valid,PS.has,PS.is,ay,aB,az,c0,c1,c2,c3,c4];omega)):¬(ay v (v.iv 14) (v.iv 15) 16).valid (aB v 0):=h
theorem ahU {v:Env} (h:¬(ay v (v.iv 14) (v.iv 15) 16).valid (aB v 0):=by first | (simp [-Int.pred_toNat,PS.valid,PS.has,PS.is,ay,aB,az,c0,c1,c2,c3,c4,c5];done) | (simp [-Int.pred_toNat,PS.valid,PS.has,PS.is,ay,aB,az,c0,c1,c2,c3,c4,c5];omega)):¬(ay v (v.iv 14) (v.iv 15) 16).valid (aB v 0):=h
theorem adP {v:Env} (h:¬(ay v (v.iv 14) (v.iv 15) 16).right (aB v 0):=by first | (simp [-Int.pred_toNat,PS.right,PS.live,ay,aB,az,c0,c1,c2,c3,c4];done) | (simp [-Int.pred_toNat,PS.right,PS.live,ay,aB,az,c0,c1,c2,c3,c4];omega)):¬(ay v (v.iv 14) (v.iv 15) 16).right (aB v 0):=h
theorem R7 {v:Env} (h:¬(ay v (v.iv 14) (v.iv 15) 16).right (aB v 0):=by first | (simp [-Int.pred_toNat,PS.right,PS.live,ay,aB,az,c0,c1,c2,c3,c4,c5];done) | (simp [-Int.pred_toNat,PS.right,PS.live,ay,aB,az,c0,c1,c2,c3,c4,c5];omega)):¬(ay v (v.iv 14) (v.iv 15) 16).right (aB v 0):=h
theorem R8 {v:Env} (h:¬(ay v (v.iv 14) (v.iv 15) 16).right (aB v 0):=by first | (simp [-Int.pred_toNat,PS.right,PS.live,ay,aB,az,c0,c1,c2,c3,c4,c5,c6];done) | (simp [-Int.pred_toNat,PS.right,PS.live,ay,aB,az,c0,c1,c2,c3,c4,c5,c6];omega)):¬(ay v (v.iv 14) (v.iv 15) 16).right (aB v 0):=h
theorem adQ {v:Env} (h:¬(ay v (v.iv 14) (v.iv 15) 16).right (aB v 0):=by first | (simp [-Int.pred_toNat,PS.right,PS.live,ay,aB,az,c0,c1,c2,c3,c4,c5,c6,c7];done) | (simp [-Int.pred_toNat,PS.right,PS.live,ay,aB,az,c0,c1,c2,c3,c4,c5,c6,c7];omega)):¬(ay v (v.iv 14) (v.iv 15) 16).right (aB v 0):=h
theorem adR {v:Env} (h:¬(ay v (v.iv 14) (v.iv 15) 16).right (aB v 0):=by first | (simp [-Int.pred_toNat,PS.right,PS.live,ay,aB,az,c0,c1,c2,c3,c4,c5,c6,c7,c8];done) | (simp [-Int.pred_toNat,PS.right,PS.live,ay,aB,az,c0,c1,c2,c3,c4,c5,c6,c7,c8];omega)):¬(ay v (v.iv 14) (v.iv 15) 16).right (aB v 0):=h
theorem Ve {v:Env} {p:PS} {a:Ac} (hv:p.valid a) (hw:¬p.right a) (ho:bz v 33) (h1:ay v (v.iv 14) (v.iv 15) 33={p with steps:=p.steps+1,bT:=false}:=by exact iy) (hp:ay v (v.iv 14) (v.iv 15) 16=p:=by exact rfl) (ha:aB v 0=a:=by exact rfl) (h2:v.bv 32=(some (eD a.kind)).isSome:=by exact rfl) (h3:aI v 26=(some (eD a.kind)).getD Rp.no:=by simp [aI,az,eD,aB,Rp.no,Wd.zero,-Int.pred_toNat,Sub.ag,assoc,CV.I,CV.B,aj,ak,ae.I,ae.B,SC.I,SC.B,IE.den,BE.den,c0,c1,c2,c3,c4]):l8 v:=gZ hp ha (oU hv hw) ho h1 h2 h3
theorem GN {v:Env} {p:PS} {a:Ac} (hv:p.valid a) (hw:¬p.right a) (ho:bz v 33) (h1:ay v (v.iv 14) (v.iv 15) 33={p with steps:=p.steps+1,bT:=false}:=by exact iy) (hp:ay v (v.iv 14) (v.iv 15) 16=p:=by exact rfl) (ha:aB v 0=a:=by exact rfl) (h2:v.bv 32=(some (eD a.kind)).isSome:=by exact rfl) (h3:aI v 26=(some (eD a.kind)).getD Rp.no:=by simp [aI,az,eD,aB,Rp.no,Wd.zero,-Int.pred_toNat,Sub.ag,assoc,CV.I,CV.B,aj,ak,ae.I,ae.B,SC.I,SC.B,IE.den,BE.den,c0,c1,c2,c3,c4,c5]):l8 v:=gZ hp ha (oU hv hw) ho h1 h2 h3
theorem GQ {v:Env} {p:PS} {a:Ac} (hv:p.valid a) (hw:¬p.right a) (ho:bz v 33) (h1:ay v (v.iv 14) (v.iv 15) 33={p with steps:=p.steps+1,bT:=false}:=by exact iy) (hp:ay v (v.iv 14) (v.iv 15) 16=p:=by exact rfl) (ha:aB v 0=a:=by exact rfl) (h2:v.bv 32=(some (eD a.kind)).isSome:=by exact rfl) (h3:aI v 26=(some (eD a.kind)).getD Rp.no:=by simp [aI,az,eD,aB,Rp.no,Wd.zero,-Int.pred_toNat,Sub.ag,assoc,CV.I,CV.B,aj,ak,ae.I,ae.B,SC.I,SC.B,IE.den,BE.den,c0,c1,c2,c3,c4,c5,c6]):l8 v:=gZ hp ha (oU hv hw) ho h1 h2 h3
theorem Vf {v:Env} {p:PS} {a:Ac} (hv:p.valid a) (hw:¬p.right a) (ho:bz v 33) (h1:ay v (v.iv 14) (v.iv 15) 33={p with steps:=p.steps+1,bT:=false}:=by exact iy) (hp:ay v (v.iv 14) (v.iv 15) 16=p:=by exact rfl) (ha:aB v 0=a:=by exact rfl) (h2:v.bv 32=(some (eD a.kind)).isSome:=by exact rfl) (h3:aI v 26=(some (eD a.kind)).getD Rp.no:=by simp [aI,az,eD,aB,Rp.no,Wd.zero,-Int.pred_toNat,Sub.ag,assoc,CV.I,CV.B,aj,ak,ae.I,ae.B,SC.I,SC.B,IE.den,BE.den,c0,c1,c2,c3,c4,c5,c6,c7]):l8 v:=gZ hp ha (oU hv hw) ho h1 h2 h3
theorem Vg {v:Env} {p:PS} {a:Ac} (hv:p.valid a) (hw:¬p.right a) (ho:bz v 33) (h1:ay v (v.iv 14) (v.iv 15) 33={p with steps:=p.steps+1,bT:=false}:=by exact iy) (hp:ay v (v.iv 14) (v.iv 15) 16=p:=by exact rfl) (ha:aB v 0=a:=by exact rfl) (h2:v.bv 32=(some (eD a.kind)).isSome:=by exact rfl) (h3:aI v 26=(some (eD a.kind)).getD Rp.no:=by simp [aI,az,eD,aB,Rp.no,Wd.zero,-Int.pred_toNat,Sub.ag,assoc,CV.I,CV.B,aj,ak,ae.I,ae.B,SC.I,SC.B,IE.den,BE.den,c0,c1,c2,c3,c4,c5,c6,c7,c8]):l8 v:=gZ hp ha (oU hv hw) ho h1 h2 h3
theorem Qq {v:Env} {p:PS} {a:Ac} (hv:p.valid a) (hw:¬p.right a) (ho:bz v 33) (h1:ay v (v.iv 14) (v.iv 15) 33={p with steps:=p.steps+1,bT:=false}:=by exact iy) (hp:ay v (v.iv 14) (v.iv 15) 16=p:=by exact rfl) (ha:aB v 0=a:=by exact rfl) (h2:v.bv 32=(some (eD a.kind)).isSome:=by exact rfl) (h3:aI v 26=(some (eD a.kind)).getD Rp.no:=by simp [aI,az,eD,aB,Rp.no,Wd.zero,-Int.pred_toNat,Sub.ag,assoc,CV.I,CV.B,aj,ak,ae.I,ae.B,SC.I,SC.B,IE.den,BE.den,c0,c1,c2,c3,c4,c5,c6,c7,c8,c9]):l8 v:=gZ hp ha (oU hv hw) ho h1 h2 h3
theorem vg {v:Env} {p:PS} {a:Ac} (hv:¬p.valid a) (ho:bz v 33) (h1:ay v (v.iv 14) (v.iv 15) 33=p:=by exact iy) (hp:ay v (v.iv 14) (v.iv 15) 16=p:=by exact rfl) (ha:aB v 0=a:=by exact rfl) (h2:v.bv 32=(none:Option Rp).isSome:=by exact rfl) (h3:aI v 26=(none:Option Rp).getD Rp.no:=by exact rfl):l8 v:=gZ hp ha (adB hv) ho h1 h2 h3
set_option maxHeartbeats 4000000 in
theorem adS (r:Env) (hpre:R4 r.num):Sat l8 [] [] r R3:=by
 replace hpre:R4 r:=hpre
 obtain ⟨ho,hk,hst⟩:=id hpre
 have ok:=hk
 have b1:0≤r.iv 14∧r.iv 14≤200:=hk.nb
 have b2:0≤r.iv 15∧r.iv 15≤1024:=hk.ns
 have b3:0≤r.iv 17:=hk.nf
 have b4:0≤r.iv 20∧r.iv 20≤r.iv 19:=hk.made
 have b5:r.iv 17≤r.iv 15:=by
  have h:((kv (ay r (r.iv 14) (r.iv 15) 16).used (r.iv 15).toNat:Nat):Int)+r.iv 17=r.iv 15:=hk.DJ
  omega
 have b6:=ho.2.2
 simp only [Nat.reduceAdd] at b6
 unfold R3
 refine Sat.br (fun c0=>?_) (fun c0=>?_)
 ·simp only [Da] at c0
  refine Sat.br (fun c1=>?_) (fun c1=>?_)
  ·simp only [Da] at c1
   refine dm ?_
   refine Sat.br (fun c2=>?_) (fun c2=>?_)
   ·simp only [Da] at c2
    have hv:=adN (v:=r)
    exact Sat.fin (vg hv ho)
   ·simp only [Da] at c2
    refine dm ?_
    have hv:=ahP (v:=r)
    have hw:=ahR (v:=r)
    refine Sat.fin (gZ rfl rfl (mW hv hw (abI c0 c1)) ho iy rfl ?_)
    simp [aI,az,ay,aO,aB,-Int.pred_toNat,Sub.ag,assoc,CV.I,CV.B,aj,ak,ae.I,ae.B,SC.I,SC.B,IE.den,BE.den]
  ·simp only [Da] at c1
   refine dm ?_
   refine Sat.br (fun c2=>?_) (fun c2=>?_)
   ·simp only [Da] at c2
    have hv:=adN (v:=r)
    exact Sat.fin (vg hv ho)
   ·simp only [Da] at c2
    refine dm (dm ?_)
    refine dm (dm ?_)
    refine Sat.br (fun c3=>?_) (fun c3=>?_)
    ·simp only [Da] at c3
     refine Sat.br (fun c4=>?_) (fun c4=>?_)
     ·simp only [Da] at c4
      have hv:=Ng (v:=r)
      have hw:=adP (v:=r)
      exact Sat.fin (Ve hv hw ho)
     ·simp only [Da] at c4
      have hv:=Ng (v:=r)
      have hw:=adP (v:=r)
      exact Sat.fin (Ve hv hw ho (iy (show r.bv 21=false from c4)))
    ·simp only [Da] at c3
     refine Sat.br (fun c4=>?_) (fun c4=>?_)
     ·simp only [Da] at c4
      refine Sat.br (fun c5=>?_) (fun c5=>?_)
      ·simp only [Da] at c5
       have hv:=EE (v:=r)
       have hw:=R7 (v:=r)
       exact Sat.fin (GN hv hw ho)
      ·simp only [Da] at c5
       have hv:=EE (v:=r)
       have hw:=R7 (v:=r)
       exact Sat.fin (GN hv hw ho (iy (show r.bv 21=false from c5)))
     ·simp only [Da] at c4
      have hv:=Ng (v:=r)
      have hw:=Yc (v:=r)
      refine Sat.fin (gZ rfl rfl (mW hv hw (abJ c0 c1)) ho iy rfl ?_)
      simp [aI,az,ay,aO,aB,-Int.pred_toNat,Sub.ag,assoc,CV.I,CV.B,aj,ak,ae.I,ae.B,SC.I,SC.B,IE.den,BE.den]
 ·simp only [Da] at c0
  refine Sat.br (fun c1=>?_) (fun c1=>?_)
  ·simp only [Da] at c1
   refine Sat.br (fun c2=>?_) (fun c2=>?_)
   ·simp only [Da] at c2
    refine dm ?_
    refine Sat.br (fun c3=>?_) (fun c3=>?_)
    ·simp only [Da] at c3
     have hv:=adO (v:=r)
     exact Sat.fin (vg hv ho)
    ·simp only [Da] at c3
     refine dm ?_
     have hv:=ahQ (v:=r)
     have hw:=ahS (v:=r)
     refine Sat.fin (gZ rfl rfl (mW hv hw (abK c1 c2)) ho (PS.ext' rfl rfl rfl rfl rfl rfl (fun i=>by
       by_cases h:i=(r.iv 3).toNat
       · subst h
         simp [ay,aO,aB,az,-Int.pred_toNat,Sub.ag,assoc,CV.I,CV.B,aj,ak,ae.I,ae.B,SC.I,SC.B,IE.den,BE.den]
       · simp [ay,aO,aB,az,-Int.pred_toNat,Sub.ag,assoc,CV.I,CV.B,aj,ak,ae.I,ae.B,SC.I,SC.B,IE.den,BE.den,h,Ne.symm h]) (fun i=>by simp [ay,-Int.pred_toNat,Sub.ag,assoc,CV.I,CV.B,aj,ak,ae.I,ae.B,SC.I,SC.B,IE.den,BE.den]) (fun i=>by simp [ay,-Int.pred_toNat,Sub.ag,assoc,CV.I,CV.B,aj,ak,ae.I,ae.B,SC.I,SC.B,IE.den,BE.den]) (fun i k=>by simp [ay,aO,-Int.pred_toNat,Sub.ag,assoc,CV.I,CV.B,aj,ak,ae.I,ae.B,SC.I,SC.B,IE.den,BE.den]) (fun i=>by simp [ay,-Int.pred_toNat,Sub.ag,assoc,CV.I,CV.B,aj,ak,ae.I,ae.B,SC.I,SC.B,IE.den,BE.den])) rfl ?_)
     simp [aI,az,ay,aO,aB,Wd.zero,-Int.pred_toNat,Sub.ag,assoc,CV.I,CV.B,aj,ak,ae.I,ae.B,SC.I,SC.B,IE.den,BE.den]
   ·simp only [Da] at c2
    refine dm ?_
    refine Sat.br (fun c3=>?_) (fun c3=>?_)
    ·simp only [Da] at c3
     have hv:=adO (v:=r)
     exact Sat.fin (vg hv ho)
    ·simp only [Da] at c3
     refine dm (dm ?_)
     refine dm (dm ?_)
     refine Sat.br (fun c4=>?_) (fun c4=>?_)
     ·simp only [Da] at c4
      refine Sat.br (fun c5=>?_) (fun c5=>?_)
      ·simp only [Da] at c5
       have hv:=EE (v:=r)
       have hw:=R7 (v:=r)
       exact Sat.fin (GN hv hw ho)
      ·simp only [Da] at c5
       have hv:=EE (v:=r)
       have hw:=R7 (v:=r)
       exact Sat.fin (GN hv hw ho (iy (show r.bv 21=false from c5)))
     ·simp only [Da] at c4
      refine Sat.br (fun c5=>?_) (fun c5=>?_)
      ·simp only [Da] at c5
       refine Sat.br (fun c6=>?_) (fun c6=>?_)
       ·simp only [Da] at c6
        have hv:=R5 (v:=r)
        have hw:=R8 (v:=r)
        exact Sat.fin (GQ hv hw ho)
       ·simp only [Da] at c6
        have hv:=R5 (v:=r)
        have hw:=R8 (v:=r)
        exact Sat.fin (GQ hv hw ho (iy (show r.bv 21=false from c6)))
      ·simp only [Da] at c5
       have hv:=EE (v:=r)
       have hw:=Yd (v:=r)
       refine Sat.fin (gZ rfl rfl (mW hv hw (abL c1 c2)) ho (PS.ext' rfl rfl rfl rfl rfl rfl (fun i=>by simp [ay,aO,-Int.pred_toNat,Sub.ag,assoc,CV.I,CV.B,aj,ak,ae.I,ae.B,SC.I,SC.B,IE.den,BE.den]) (fun i=>by simp [ay,-Int.pred_toNat,Sub.ag,assoc,CV.I,CV.B,aj,ak,ae.I,ae.B,SC.I,SC.B,IE.den,BE.den]) (fun i=>by simp [ay,-Int.pred_toNat,Sub.ag,assoc,CV.I,CV.B,aj,ak,ae.I,ae.B,SC.I,SC.B,IE.den,BE.den]) (fun i k=>by
         by_cases h:i=(r.iv 1-1).toNat∧k=(r.iv 3).toNat
         · obtain ⟨h,h'⟩:=h
           subst h h'
           simp [ay,aO,aB,az,-Int.pred_toNat,Sub.ag,assoc,CV.I,CV.B,aj,ak,ae.I,ae.B,SC.I,SC.B,IE.den,BE.den]
         · have h':(r.iv 1-1).toNat=i→(r.iv 3).toNat=k→False:=fun e1 e2=>h ⟨e1.symm,e2.symm⟩
           by_cases h1:i=(r.iv 1-1).toNat
           · have h2:¬k=(r.iv 3).toNat:=fun e=>h ⟨h1,e⟩
             subst h1
             simp [ay,aO,aB,az,-Int.pred_toNat,Sub.ag,assoc,CV.I,CV.B,aj,ak,ae.I,ae.B,SC.I,SC.B,IE.den,BE.den,h2,Ne.symm h2]
           · simp [ay,aO,aB,az,-Int.pred_toNat,Sub.ag,assoc,CV.I,CV.B,aj,ak,ae.I,ae.B,SC.I,SC.B,IE.den,BE.den,h1,Ne.symm h1]) (fun i=>by simp [ay,-Int.pred_toNat,Sub.ag,assoc,CV.I,CV.B,aj,ak,ae.I,ae.B,SC.I,SC.B,IE.den,BE.den])) rfl ?_)
       simp [aI,az,ay,aO,aB,Wd.zero,-Int.pred_toNat,Sub.ag,assoc,CV.I,CV.B,aj,ak,ae.I,ae.B,SC.I,SC.B,IE.den,BE.den]
  ·simp only [Da] at c1
   refine Sat.br (fun c2=>?_) (fun c2=>?_)
   ·simp only [Da] at c2
    refine Sat.br (fun c3=>?_) (fun c3=>?_)
    ·simp only [Da] at c3
     refine dm ?_
     refine Sat.br (fun c4=>?_) (fun c4=>?_)
     ·simp only [Da] at c4
      have hv:=Ye (v:=r)
      exact Sat.fin (vg hv ho)
     ·simp only [Da] at c4
      refine dm ?_
      refine Sat.br (fun c5=>?_) (fun c5=>?_)
      ·simp only [Da] at c5
       have hv:=EE (v:=r)
       have hw:=Yd (v:=r)
       have hs:¬gF (aO (r.ic 22 (r.iv 3).toNat 0) (r.bc 22 (r.iv 3).toNat 0)) (az r 4):=by
        simp only [gF,aO,az]
        rintro ⟨x1,x2,x3,x4⟩
        rcases c5 with h | h | h | h
        ·exact h x1
        ·exact h x2
        ·exact h x3
        ·exact h x4
       refine Sat.fin (gZ rfl rfl (mW hv hw (X6 c2 c3 hs)) ho iy rfl ?_)
       simp [aI,az,ay,aO,aB,-Int.pred_toNat,Sub.ag,assoc,CV.I,CV.B,aj,ak,ae.I,ae.B,SC.I,SC.B,IE.den,BE.den]
      ·simp only [Da] at c5
       have hv:=EE (v:=r)
       have hw:=Yd (v:=r)
       have hs:gF (aO (r.ic 22 (r.iv 3).toNat 0) (r.bc 22 (r.iv 3).toNat 0)) (az r 4):=by
        simp only [gF,aO,az]
        exact c5
       refine Sat.fin (gZ rfl rfl (mW hv hw (abM c2 c3 hs)) ho (PS.ext' rfl rfl rfl rfl rfl rfl (fun i=>by
         by_cases h:i=(r.iv 3).toNat
         · subst h
           simp [ay,aO,aB,az,-Int.pred_toNat,Sub.ag,assoc,CV.I,CV.B,aj,ak,ae.I,ae.B,SC.I,SC.B,IE.den,BE.den]
         · simp [ay,aO,aB,az,-Int.pred_toNat,Sub.ag,assoc,CV.I,CV.B,aj,ak,ae.I,ae.B,SC.I,SC.B,IE.den,BE.den,h,Ne.symm h]) (fun i=>by simp [ay,-Int.pred_toNat,Sub.ag,assoc,CV.I,CV.B,aj,ak,ae.I,ae.B,SC.I,SC.B,IE.den,BE.den]) (fun i=>by simp [ay,-Int.pred_toNat,Sub.ag,assoc,CV.I,CV.B,aj,ak,ae.I,ae.B,SC.I,SC.B,IE.den,BE.den]) (fun i k=>by simp [ay,aO,-Int.pred_toNat,Sub.ag,assoc,CV.I,CV.B,aj,ak,ae.I,ae.B,SC.I,SC.B,IE.den,BE.den]) (fun i=>by simp [ay,-Int.pred_toNat,Sub.ag,assoc,CV.I,CV.B,aj,ak,ae.I,ae.B,SC.I,SC.B,IE.den,BE.den])) rfl ?_)
       simp [aI,az,ay,aO,aB,Wd.zero,-Int.pred_toNat,Sub.ag,assoc,CV.I,CV.B,aj,ak,ae.I,ae.B,SC.I,SC.B,IE.den,BE.den]
    ·simp only [Da] at c3
     refine dm ?_
     refine Sat.br (fun c4=>?_) (fun c4=>?_)
     ·simp only [Da] at c4
      have hv:=Ye (v:=r)
      exact Sat.fin (vg hv ho)
     ·simp only [Da] at c4
      refine dm (dm ?_)
      refine dm (dm ?_)
      refine Sat.br (fun c5=>?_) (fun c5=>?_)
      ·simp only [Da] at c5
       refine Sat.br (fun c6=>?_) (fun c6=>?_)
       ·simp only [Da] at c6
        have hv:=R5 (v:=r)
        have hw:=R8 (v:=r)
        exact Sat.fin (GQ hv hw ho)
       ·simp only [Da] at c6
        have hv:=R5 (v:=r)
        have hw:=R8 (v:=r)
        exact Sat.fin (GQ hv hw ho (iy (show r.bv 21=false from c6)))
      ·simp only [Da] at c5
       refine Sat.br (fun c6=>?_) (fun c6=>?_)
       ·simp only [Da] at c6
        refine Sat.br (fun c7=>?_) (fun c7=>?_)
        ·simp only [Da] at c7
         have hv:=R6 (v:=r)
         have hw:=adQ (v:=r)
         exact Sat.fin (Vf hv hw ho)
        ·simp only [Da] at c7
         have hv:=R6 (v:=r)
         have hw:=adQ (v:=r)
         exact Sat.fin (Vf hv hw ho (iy (show r.bv 21=false from c7)))
       ·simp only [Da] at c6
        refine Sat.br (fun c7=>?_) (fun c7=>?_)
        ·simp only [Da] at c7
         have hv:=R6 (v:=r)
         have hw:=adM (v:=r)
         have hs:¬gF (aO (r.ic 24 (r.iv 1-1).toNat (r.iv 3).toNat) (r.bc 24 (r.iv 1-1).toNat (r.iv 3).toNat)) (az r 4):=by
          simp only [gF,aO,az]
          rintro ⟨x1,x2,x3,x4⟩
          rcases c7 with h | h | h | h
          ·exact h x1
          ·exact h x2
          ·exact h x3
          ·exact h x4
         refine Sat.fin (gZ rfl rfl (mW hv hw (X7 c2 c3 hs)) ho iy rfl ?_)
         simp [aI,az,ay,aO,aB,-Int.pred_toNat,Sub.ag,assoc,CV.I,CV.B,aj,ak,ae.I,ae.B,SC.I,SC.B,IE.den,BE.den]
        ·simp only [Da] at c7
         have hv:=R6 (v:=r)
         have hw:=adM (v:=r)
         have hs:gF (aO (r.ic 24 (r.iv 1-1).toNat (r.iv 3).toNat) (r.bc 24 (r.iv 1-1).toNat (r.iv 3).toNat)) (az r 4):=by
          simp only [gF,aO,az]
          exact c7
         refine Sat.fin (gZ rfl rfl (mW hv hw (abN c2 c3 hs)) ho (PS.ext' rfl rfl rfl rfl rfl rfl (fun i=>by simp [ay,aO,-Int.pred_toNat,Sub.ag,assoc,CV.I,CV.B,aj,ak,ae.I,ae.B,SC.I,SC.B,IE.den,BE.den]) (fun i=>by simp [ay,-Int.pred_toNat,Sub.ag,assoc,CV.I,CV.B,aj,ak,ae.I,ae.B,SC.I,SC.B,IE.den,BE.den]) (fun i=>by simp [ay,-Int.pred_toNat,Sub.ag,assoc,CV.I,CV.B,aj,ak,ae.I,ae.B,SC.I,SC.B,IE.den,BE.den]) (fun i k=>by
           by_cases h:i=(r.iv 1-1).toNat∧k=(r.iv 3).toNat
           · obtain ⟨h,h'⟩:=h
             subst h h'
             simp [ay,aO,aB,az,-Int.pred_toNat,Sub.ag,assoc,CV.I,CV.B,aj,ak,ae.I,ae.B,SC.I,SC.B,IE.den,BE.den]
           · have h':(r.iv 1-1).toNat=i→(r.iv 3).toNat=k→False:=fun e1 e2=>h ⟨e1.symm,e2.symm⟩
             by_cases h1:i=(r.iv 1-1).toNat
             · have h2:¬k=(r.iv 3).toNat:=fun e=>h ⟨h1,e⟩
               subst h1
               simp [ay,aO,aB,az,-Int.pred_toNat,Sub.ag,assoc,CV.I,CV.B,aj,ak,ae.I,ae.B,SC.I,SC.B,IE.den,BE.den,h2,Ne.symm h2]
             · simp [ay,aO,aB,az,-Int.pred_toNat,Sub.ag,assoc,CV.I,CV.B,aj,ak,ae.I,ae.B,SC.I,SC.B,IE.den,BE.den,h1,Ne.symm h1]) (fun i=>by simp [ay,-Int.pred_toNat,Sub.ag,assoc,CV.I,CV.B,aj,ak,ae.I,ae.B,SC.I,SC.B,IE.den,BE.den])) rfl ?_)
         simp [aI,az,ay,aO,aB,Wd.zero,-Int.pred_toNat,Sub.ag,assoc,CV.I,CV.B,aj,ak,ae.I,ae.B,SC.I,SC.B,IE.den,BE.den]
   ·simp only [Da] at c2
    refine Sat.br (fun c3=>?_) (fun c3=>?_)
    ·simp only [Da] at c3
     refine dm (dm (dm ?_))
     refine Sat.br (fun c4=>?_) (fun c4=>?_)
     ·simp only [Da] at c4
      have hv:=Ng (v:=r)
      have hw:=Yc (v:=r)
      refine Sat.fin (gZ rfl rfl (mW hv hw (abO c3 c4)) ho iy rfl rfl)
     ·simp only [Da] at c4
      obtain ⟨f1,f2,f3⟩:=hk.fr (r.iv 17-1).toNat (by show (((r.iv 17-1).toNat:Nat):Int)<r.iv 17;omega)
      replace f1:1≤r.ic 25 (r.iv 17-1).toNat 0 0:=f1
      replace f2:r.ic 25 (r.iv 17-1).toNat 0 0≤r.iv 15:=f2
      have f4:=hk.gen (r.ic 25 (r.iv 17-1).toNat 0 0-1).toNat
      replace f4:0≤r.ic 23 (r.ic 25 (r.iv 17-1).toNat 0 0-1).toNat 0 0∧r.ic 23 (r.ic 25 (r.iv 17-1).toNat 0 0-1).toNat 0 0≤r.iv 20:=f4
      refine dm (dm ?_)
      refine dm (dm ?_)
      refine dm (dm ?_)
      refine dm (dm ?_)
      refine dm (dm (dm ?_))
      have hv:=Ng (v:=r)
      have hw:=Yc (v:=r)
      exact Ya hv hw c3 c4 ho
    ·simp only [Da] at c3
     refine Sat.br (fun c4=>?_) (fun c4=>?_)
     ·simp only [Da] at c4
      refine dm ?_
      refine Sat.br (fun c5=>?_) (fun c5=>?_)
      ·simp only [Da] at c5
       have hv:=ahU (v:=r)
       exact Sat.fin (vg hv ho)
      ·simp only [Da] at c5
       refine dm ?_
       refine Sat.br (fun c6=>?_) (fun c6=>?_)
       ·simp only [Da] at c6
        omega
       ·simp only [Da] at c6
        refine dm (dm (dm ?_))
        refine Sat.br (fun c7=>?_) (fun c7=>?_)
        ·simp only [Da] at c7
         refine Sat.br (fun c8=>?_) (fun c8=>?_)
         ·simp only [Da] at c8
          have hv:=Yb (v:=r)
          have hw:=adR (v:=r)
          exact Sat.fin (Vg hv hw ho)
         ·simp only [Da] at c8
          have hv:=Yb (v:=r)
          have hw:=adR (v:=r)
          exact Sat.fin (Vg hv hw ho (iy (show r.bv 21=false from c8)))
        ·simp only [Da] at c7
         refine Sat.br (fun c8=>?_) (fun c8=>?_)
         ·simp only [Da] at c8
          refine Sat.br (fun c9=>?_) (fun c9=>?_)
          ·simp only [Da] at c9
           have hv:(ay r (r.iv 14) (r.iv 15) 16).valid (aB r 0):=by
            first | (simp [-Int.pred_toNat,PS.valid,PS.has,PS.is,ay,aB,az,c0,c1,c2,c3,c4,c5,c6,c7,c8,c9];done) | (simp [-Int.pred_toNat,PS.valid,PS.has,PS.is,ay,aB,az,c0,c1,c2,c3,c4,c5,c6,c7,c8,c9];omega)
           have hw:¬(ay r (r.iv 14) (r.iv 15) 16).right (aB r 0):=by
            first | (simp [-Int.pred_toNat,PS.right,PS.live,ay,aB,az,c0,c1,c2,c3,c4,c5,c6,c7,c8,c9];done) | (simp [-Int.pred_toNat,PS.right,PS.live,ay,aB,az,c0,c1,c2,c3,c4,c5,c6,c7,c8,c9];omega)
           exact Sat.fin (Qq hv hw ho)
          ·simp only [Da] at c9
           have hv:(ay r (r.iv 14) (r.iv 15) 16).valid (aB r 0):=by
            first | (simp [-Int.pred_toNat,PS.valid,PS.has,PS.is,ay,aB,az,c0,c1,c2,c3,c4,c5,c6,c7,c8,c9];done) | (simp [-Int.pred_toNat,PS.valid,PS.has,PS.is,ay,aB,az,c0,c1,c2,c3,c4,c5,c6,c7,c8,c9];omega)
           have hw:¬(ay r (r.iv 14) (r.iv 15) 16).right (aB r 0):=by
            first | (simp [-Int.pred_toNat,PS.right,PS.live,ay,aB,az,c0,c1,c2,c3,c4,c5,c6,c7,c8,c9];done) | (simp [-Int.pred_toNat,PS.right,PS.live,ay,aB,az,c0,c1,c2,c3,c4,c5,c6,c7,c8,c9];omega)
           exact Sat.fin (Qq hv hw ho (iy (show r.bv 21=false from c9)))
         ·simp only [Da] at c8
          refine dm (dm ?_)
          refine dm (dm (dm ?_))
          have hv:=Yb (v:=r)
          have hw:=ahT (v:=r)
          refine Sat.new fun e hf=>?_
          have hf1:=hf _ (List.mem_singleton.2 rfl)
          simp only [D.be,Da] at hf1
          exact abQ (q:=r.join 26 e) hv hw c4 ho hf1
     ·simp only [Da] at c4
      have hv:=Ye (v:=r)
      exact Sat.fin (vg hv ho)
theorem adT:bg Tryz.prog oo R4 l8 :=
 dA dO (E:=doE) (cs:=[]) rfl (fun k pre post h=>by cases h) bX rfl adL (by kernel_rfl) (fun ρ _ p hp=>by cases hp) adS
end Go.Proofs.YthomdlajobnmnaaGreatDoor
namespace Go.Rex
theorem bA.alloc {w0 w:World} {W:Nat→Prop} (h:bA w0 W w) (o:Obj):bA w0 W (w.alloc o) :=
 h.step rfl rfl rfl (by simp) fun k hk _=>heap_alloc_old w _ (Nat.lt_of_lt_of_le hk h.size)
section
variable {H:Type} {enc:TypeId × Value→H} {P:Program} {W:World}
open Go.WideShapes Go.ChangeShapes Go.RowKit
end
section
variable {σ:Sub} {ρ ρ':Env} {N:Nat}
theorem rD (m k:Nat):(bf σ m N ρ ρ').iv (m+k)=ρ'.iv (N+k):=by
 show (if m+k<m then (σ.ag ρ).iv (m+k) else ρ'.iv (m+k-m+N))=_
 rw [if_neg (by omega),show m+k-m+N=N+k by omega]
theorem BG (m k:Nat):(bf σ m N ρ ρ').bv (m+k)=ρ'.bv (N+k):=by
 show (if m+k<m then (σ.ag ρ).bv (m+k) else ρ'.bv (m+k-m+N))=_
 rw [if_neg (by omega),show m+k-m+N=N+k by omega]
theorem Vh (m k:Nat):(bf σ m N ρ ρ').ic (m+k)=ρ'.ic (N+k):=by
 show (if m+k<m then (σ.ag ρ).ic (m+k) else ρ'.ic (m+k-m+N))=_
 rw [if_neg (by omega),show m+k-m+N=N+k by omega]
theorem Vi (m k:Nat):(bf σ m N ρ ρ').bc (m+k)=ρ'.bc (N+k):=by
 show (if m+k<m then (σ.ag ρ).bc (m+k) else ρ'.bc (m+k-m+N))=_
 rw [if_neg (by omega),show m+k-m+N=N+k by omega]
end
end Go.Rex
namespace Go.Proofs.YthomdlajobnmnaaGreatDoor
open Go.Rex
def dJ (ρ:Env) (r:Nat) (n:Int):List Wd:=(List.range n.toNat).map fun i=>aO (ρ.ic r i 0) (ρ.bc r i 0)
def bN (ρ:Env) (r:Nat) (i:Nat):Nt:=⟨aO (ρ.ic r i 0) (ρ.bc r i 0),ρ.ic r i 0 5,ρ.ic r i 0 6⟩
def aT (ρ:Env) (r:Nat) (n:Int):List Nt:=(List.range n.toNat).map (bN ρ r)
def gX (ρ:Env) (r:Nat) (o n:Int):List Nt:=(List.range n.toNat).map fun i=>bN ρ r (o.toNat+i)
def jr (ρ:Env) (v:Nat):Ca:=⟨ρ.iv v,ρ.iv (v+1),ρ.iv (v+2),ρ.iv (v+3),az ρ (v+4),az ρ (v+9),ρ.iv (v+14),ρ.iv (v+15),ρ.iv (v+16),ρ.iv (v+17)⟩
def aa (ρ:Env) (s v:Nat):RS where
 call:=jr ρ v
 step:=ρ.iv (v+18)
 acc:=aB ρ (v+19)
 word:=az ρ (v+33)
 clock:=az ρ (v+38)
 index:=ρ.iv (v+43)
 seen:=dJ ρ (v+64) (ρ.iv (v+45))
 bD:=gX ρ (v+65) (ρ.iv (v+65)) (ρ.iv (v+48))
 af:=ρ.iv s
 me:=ρ.iv (s+1)
 threads:=ρ.iv (s+2)
 most:=ρ.iv (s+3)
 holds:=fun i=>aO (ρ.ic (v+50) i 0) (ρ.bc (v+50) i 0)
 span:=⟨ρ.bv (v+51),ρ.iv (v+52),ρ.iv (v+53)⟩
 notes:=aT ρ (v+66) (ρ.iv (v+55))
 freed:=ρ.iv (v+57)
 bR:=aI ρ (v+58)
def bH (ρ:Env) (v:Nat):Prop:=bz ρ (v+44)∧(bz ρ (v+47)∧0≤ρ.iv (v+65)∧(ρ.iv (v+48)=0∨ρ.iv (v+65)+ρ.iv (v+48)≤ρ.iv (v+66)))∧bz ρ (v+54)
theorem RS.ext' {p q:RS} (h1:p.call=q.call) (h2:p.step=q.step) (h3:p.acc=q.acc) (h4:p.word=q.word) (h5:p.clock=q.clock) (h6:p.index=q.index) (h7:p.seen=q.seen) (h8:p.bD=q.bD) (h9:p.af=q.af) (h10:p.me=q.me) (h11:p.threads=q.threads) (h12:p.most=q.most)
  (h13:∀i,p.holds i=q.holds i) (h14:p.span=q.span) (Qr:p.notes=q.notes) (h16:p.freed=q.freed) (h17:p.bR=q.bR):p=q:=by
 cases p
 cases q
 simp only at *
 subst h1 h2 h3 h4 h5 h6 h7 h8 h9 h10 h11 h12 h14 Qr h16 h17
 obtain rfl:=funext h13
 rfl
theorem GR {ρ ρ':Env} {r r':Nat} {n n':Int} (hn:n=n') (h:∀i,aO (ρ.ic r i 0) (ρ.bc r i 0)=aO (ρ'.ic r' i 0) (ρ'.bc r' i 0)):dJ ρ r n=dJ ρ' r' n':=by
 subst hn
 unfold dJ
 congr 1
 funext i
 exact h i
theorem gp {ρ ρ':Env} {r r':Nat} {n n':Int} (hn:n=n') (h:∀i,bN ρ r i=bN ρ' r' i):aT ρ r n=aT ρ' r' n':=by
 subst hn
 unfold aT
 congr 1
 funext i
 exact h i
theorem J9 {ρ:Env} {r:Nat} {n:Int} (hn:n=0):dJ ρ r n=[]:=by subst hn;rfl
theorem Ka {ρ:Env} {r:Nat} {n:Int} (hn:n=0):aT ρ r n=[]:=by subst hn;rfl
theorem zf {ρ ρ':Env} {r r':Nat} {o o' n n':Int} (hn:n=n') (ho:o=o') (h:∀i,bN ρ r i=bN ρ' r' i):gX ρ r o n=gX ρ' r' o' n':=by
 subst hn ho
 unfold gX
 congr 1
 funext i
 exact h _
theorem oV {ρ:Env} {r:Nat} {o n:Int} (hn:n=0):gX ρ r o n=[]:=by subst hn;rfl
theorem vk {a b:List Wd} (h:a=b:=by first | exact J9 rfl | exact GR rfl fun i=>by simp [aO,-Int.pred_toNat,Sub.ag,assoc,CV.I,CV.B,aj,ak,ae.I,ae.B,SC.I,SC.B,IE.den,BE.den] | assumption):a=b:=h
theorem zX {a b:List Nt} (h:a=b:=by first | exact Ka rfl | exact gp rfl fun i=>by simp [bN,aO,-Int.pred_toNat,Sub.ag,assoc,CV.I,CV.B,aj,ak,ae.I,ae.B,SC.I,SC.B,IE.den,BE.den] | assumption):a=b:=h
theorem GU {a b:List Nt} (h:a=b:=by first | exact oV rfl | exact zf rfl rfl fun i=>by simp [bN,aO,-Int.pred_toNat,Sub.ag,assoc,CV.I,CV.B,aj,ak,ae.I,ae.B,SC.I,SC.B,IE.den,BE.den] | assumption):a=b:=h
theorem DN {a b:Nat→Wd} (h:∀i,a i=b i:=by intro i;first | rfl | (simp [aa,aO,-Int.pred_toNat,Sub.ag,assoc,CV.I,CV.B,aj,ak,ae.I,ae.B,SC.I,SC.B,IE.den,BE.den];done) | (simp [aa,aO,-Int.pred_toNat,Sub.ag,assoc,CV.I,CV.B,aj,ak,ae.I,ae.B,SC.I,SC.B,IE.den,BE.den];rfl)):∀i,a i=b i:=h
theorem aF {p q:RS} (h1:p.call=q.call:=by exact rfl) (h2:p.step=q.step:=by exact rfl) (h3:p.acc=q.acc:=by exact rfl) (h4:p.word=q.word:=by exact rfl) (h5:p.clock=q.clock:=by exact rfl) (h6:p.index=q.index:=by exact rfl) (h7:p.seen=q.seen:=by exact vk) (h8:p.bD=q.bD:=by exact GU) (h9:p.af=q.af:=by exact rfl) (h10:p.me=q.me:=by exact rfl) (h11:p.threads=q.threads:=by exact rfl) (h12:p.most=q.most:=by exact rfl) (h13:∀i,p.holds i=q.holds i:=by exact DN) (h14:p.span=q.span:=by exact rfl) (Qr:p.notes=q.notes:=by exact zX) (h16:p.freed=q.freed:=by exact rfl) (h17:p.bR=q.bR:=by exact rfl):p=q:=RS.ext' h1 h2 h3 h4 h5 h6 h7 h8 h9 h10 h11 h12 h13 h14 Qr h16 h17
theorem R9 {ρ:Env} {r:Nat} {n:Int}:gX ρ r 0 n=aT ρ r n:=by
 unfold gX aT
 congr 1
 funext i
 simp
theorem GV {ρ:Env} {r:Nat} {o n:Int} (h0:0<n) (ho:0≤o):gX ρ r o n=bN ρ r o.toNat :: gX ρ r (o+1) (n-1):=by
 unfold gX
 rw [show n.toNat=(n-1).toNat+1 by omega,List.range_succ_eq_map,List.map_cons,List.map_map,Nat.add_zero]
 congr 1
 congr 1
 funext i
 simp only [Function.comp]
 congr 1
 omega
theorem vo {ρ:Env} {r:Nat} {n:Int}:(dJ ρ r n).length=n.toNat:=by simp [dJ]
theorem kC {ρ:Env} {r:Nat} {n:Int}:(aT ρ r n).length=n.toNat:=by simp [aT]
theorem Sa {ρ ρ':Env} {r r':Nat} {n n':Int} {w:Wd} (h0:0≤n) (hn:n'=n+1) (h:∀i:Nat,(i:Int)<n→aO (ρ'.ic r' i 0) (ρ'.bc r' i 0)=aO (ρ.ic r i 0) (ρ.bc r i 0)) (hw:aO (ρ'.ic r' n.toNat 0) (ρ'.bc r' n.toNat 0)=w) :
  dJ ρ' r' n'=dJ ρ r n ++ [w]:=by
 subst hn hw
 unfold dJ
 rw [show (n+1).toNat=n.toNat+1 by omega,List.range_succ,List.map_append]
 congr 1
 exact List.map_congr_left fun i hi=>h i (by have:=List.mem_range.1 hi;omega)
theorem Sb {ρ ρ':Env} {r r':Nat} {n n':Int} {w:Nt} (h0:0≤n) (hn:n'=n+1) (h:∀i:Nat,(i:Int)<n→bN ρ' r' i=bN ρ r i) (hw:bN ρ' r' n.toNat=w) :
  aT ρ' r' n'=aT ρ r n ++ [w]:=by
 subst hn hw
 unfold aT
 rw [show (n+1).toNat=n.toNat+1 by omega,List.range_succ,List.map_append]
 congr 1
 exact List.map_congr_left fun i hi=>h i (by have:=List.mem_range.1 hi;omega)
theorem pX {a b:Wd}:a=b↔a.slot=b.slot∧a.gen=b.gen∧a.tag=b.tag∧a.num=b.num∧a.mark=b.mark:=by
 cases a;cases b;simp
section
variable {σ:Sub} {ρ q:Env} {m d i:Nat}
theorem GX (h:i<m):(bf σ m d ρ q).iv i=(σ.ag ρ).iv i:=if_pos h
theorem af3 (h:i<m):(bf σ m d ρ q).bv i=(σ.ag ρ).bv i:=if_pos h
theorem aad (h:i<m):(bf σ m d ρ q).ic i=(σ.ag ρ).ic i:=if_pos h
theorem aae (h:i<m):(bf σ m d ρ q).bc i=(σ.ag ρ).bc i:=if_pos h
theorem Vj (h:i<m):bN (bf σ m d ρ q) i=bN (σ.ag ρ) i:=by
 funext k
 unfold bN
 rw [aad h,aae h]
theorem Kb (k:Nat):bN (bf σ m d ρ q) (m+k)=bN q (d+k):=by
 funext j
 unfold bN
 rw [Vh,Vi]
theorem Qu (h:71≤m):aa (bf σ m d ρ q) 0 4=aa (σ.ag ρ) 0 4:=by
 unfold aa jr aB aI az dJ aT gX
 simp (disch:=omega) only [Vj,GX,af3,aad,aae]
theorem Qv (h:71≤m) (hst:∀i,i<4→(σ.ag ρ).iv i=q.iv i):aa (bf σ m d ρ q) 0 m=aa q 0 d:=by
 have h0:=(GX (σ:=σ) (ρ:=ρ) (q:=q) (d:=d) (show 0<m by omega)).trans (hst 0 (by omega))
 have h1:=(GX (σ:=σ) (ρ:=ρ) (q:=q) (d:=d) (show 0+1<m by omega)).trans (hst 1 (by omega))
 have h2:=(GX (σ:=σ) (ρ:=ρ) (q:=q) (d:=d) (show 0+2<m by omega)).trans (hst 2 (by omega))
 have h3:=(GX (σ:=σ) (ρ:=ρ) (q:=q) (d:=d) (show 0+3<m by omega)).trans (hst 3 (by omega))
 have z0:=rD (σ:=σ) (ρ:=ρ) (ρ':=q) (N:=d) m 0
 have z1:=BG (σ:=σ) (ρ:=ρ) (ρ':=q) (N:=d) m 0
 rw [Nat.add_zero,Nat.add_zero] at z0 z1
 unfold aa jr aB aI az dJ aT gX
 rw [h0,h1,h2,h3]
 simp only [Kb,Nat.add_assoc,Nat.reduceAdd,rD,BG,Vh,Vi,z0,z1]
theorem mX (k:Nat):bz (bf σ m d ρ q) (m+k)=bz q (d+k):=by
 unfold bz
 simp only [Nat.add_assoc,rD,BG]
theorem Nh:bH (bf σ m d ρ q) m=bH q d:=by
 unfold bH
 rw [mX,mX,mX,rD,rD,rD]
end
section
variable {post:Env→Prop} {cs:mO} {Γ:List (Env→Prop)} {ρ:Env}
theorem eU {g nv:Nat} {σ:Sub} {k:Out} {c:dQ} {pre pst:Env→Prop} (hg:cs[g]?=some (c,pre,pst)) (r:RS) (M:RS)
  (hm:71≤c.nv) (h4:4≤nv) (hst:∀i,i<4→(σ.ag ρ).iv i=ρ.iv i) (hpre:pre (σ.ag ρ)) (hr:aa (σ.ag ρ) 0 4=r)
  (ahV:∀e:Env,pst (bf σ c.nv nv ρ (ρ.join nv e))→aa (bf σ c.nv nv ρ (ρ.join nv e)) 0 4=r→bH (bf σ c.nv nv ρ (ρ.join nv e)) c.nv∧aa (bf σ c.nv nv ρ (ρ.join nv e)) 0 c.nv=M) (K:Env→Prop)
  (hK:∀e,bH (ρ.join nv e) nv→aa (ρ.join nv e) 0 nv=M→K (ρ.join nv e)) (h:∀q,K q→Sat post cs Γ q k):Sat post cs Γ ρ (.call g σ nv k):=by
 refine Sat.jk hg hpre K (fun e hq=>?_) h
 have hs:∀i,i<4→(σ.ag ρ).iv i=(ρ.join nv e).iv i:=fun i hi=>by
  rw [hst i hi]
  exact (if_pos (show i<nv by omega)).symm
 obtain ⟨a,b⟩:=ahV e hq ((Qu hm).trans hr)
 rw [Nh] at a
 rw [Qv hm hs] at b
 exact hK e a b
end
theorem qQ {ρ:Env} {b:Nat} (h1:ρ.iv (b+1)=0) (h2:ρ.iv (b+2)=0):bz ρ b:=by
 refine ⟨fun _=>h1,?_,?_,?_⟩ <;> omega
theorem ok1 {a:Prop} (h:a:=by first | exact o1 | exact o2 | exact o3 | exact qQ rfl rfl | assumption):a:=h
theorem ok2 {a:Prop} (h:a:=by first | exact o2 | exact ⟨qQ rfl rfl,Int.le_refl 0,.inl rfl⟩ | assumption):a:=h
theorem cu {a b c:Prop} (h1:a:=by exact ok1) (h2:b:=by exact ok2) (h3:c:=by exact ok1):a∧b∧c:=⟨h1,h2,h3⟩
end Go.Proofs.YthomdlajobnmnaaGreatDoor
