/- part 10 of the proof -/
import Derived.LaidLaws
import Derived.Stop.LaidErr
import Derived.Test.YthomdlajobnmnaaDoorV5
import Derived.Test.YthomdlajobnmnaaDoorV8
import Derived.Test.YthomdlajobnmnaaDoorV9
set_option linter.unusedSimpArgs false
set_option linter.unusedVariables false
namespace Go.Rex
open Go.RowKit Go.ChangeShapes
abbrev pF:=List (String × Nat × List UInt8)
def pF.laid (nm:String) (sl:pF):List (String × DataW Unit):=sl.map fun x=>(x.1,.iface nm (.ptr (.agg [.lit (.string x.2.2)])))
def pF.ss (tp te:TypeId) (sl:pF):List (Nat × TypeId × TypeId):=sl.map fun x=>(x.2.1,tp,te)
def pF.Uh (P:Program) (ti:TypeId) (sl:pF):Bool:=sl.all fun x=>(P.globalNamed x.1 == some x.2.1) && ((P.globals[x.2.1]?).map (·.type) == some ti)
section
variable {P:Program} {W:World} {ti tp te ts:TypeId} {nm:String} {ms:Array (String × TypeId)} {f:Field}
theorem yC (hi:P.underlying ti=some (.interface ms)) (hrow:∀u,P.typeName? 3 u=some nm→u=tp)
  (hp:P.underlying tp=some (.pointer te)) (he:P.underlying te=some (.struct #[f])) (hft:f.type=ts) (hfo:f.offset=0) (hs:P.underlying ts=some .string) (hc:P.cellsOf te=1) (hcs:P.cellsOf ts=1) :
  ∀{sl:pF} {ps:List MemPlace},DataW.LaidVars P W (sl.laid nm) ps→sl.Uh P ti=true →
   (∀b off,MemPlace.cell b off∈ps→∀u v,W.cell? ⟨b,off,none⟩=some (.iface u v)→Value.okWide P W .any 0 u v) →
   ∃aS0:List Addr,qZ W (sl.ss tp te) aS0∧(∀a∈aS0,MemPlace.cell a.block a.off∈ps)∧(ps.Nodup→aS0.Nodup)
 | [],_,_,_,_=>⟨[],trivial,fun a h=>(List.not_mem_nil h).elim,fun _=>List.nodup_nil⟩
 | (n,g,text) :: r,ps,h,hk,hok=>by
  obtain ⟨g0,t0,cs,fuel,p,q,hg0,ht0,hv,hd,hr,rfl⟩:=h
  simp only [pF.Uh,List.all_cons,Bool.and_eq_true,beq_iff_eq] at hk
  obtain ⟨⟨hg,ht⟩,hk'⟩:=hk
  obtain rfl:=Option.some.inj (hg.symm.trans hg0)
  obtain rfl:=Option.some.inj (ht.symm.trans ht0)
  obtain ⟨l⟩:=cs
  have hok1:∀u v,l=[.iface u v]→Value.okWide P W .any 0 u v:=fun u v e=>by
   subst e
   exact hok g 0 (by simp [MemPlace.row]) u v (by simpa using World.var?_cell hg0 hv 0)
  obtain ⟨a,s,rfl,hca,hs1,hz,rfl⟩:=errorString_of_trod hi hrow hp he hft hfo hs hc hcs hd hok1
  obtain ⟨aS0,h1,h2,h3⟩:=yC hi hrow hp he hft hfo hs hc hcs hr (by simpa [pF.Uh] using hk') fun b off hm=>hok b off (List.mem_append_right _ hm)
  refine ⟨a :: aS0,⟨by simpa using World.var?_cell hg hv 0,⟨_,hca⟩,h1⟩,?_,?_⟩
  ·intro x hx
   rcases List.mem_cons.1 hx with rfl | hx
   ·simp [MemPlace.row]
   ·exact List.mem_append_right _ (h2 x hx)
  ·intro hn
   have hn2:=(List.nodup_append.1 hn)
   refine List.nodup_cons.2 ⟨fun hm=>?_,h3 hn2.2.1⟩
   exact hn2.2.2 (MemPlace.cell a.block a.off) (by simp [MemPlace.row]) (MemPlace.cell a.block a.off) (h2 a hm) rfl
theorem Ha (hi:P.underlying ti=some (.interface ms)) (hrow:∀u,P.typeName? 3 u=some nm→u=tp)
  (hp:P.underlying tp=some (.pointer te)) (he:P.underlying te=some (.struct #[f])) (hft:f.type=ts) (hfo:f.offset=0) (hs:P.underlying ts=some .string) (hc:P.cellsOf te=1) (hcs:P.cellsOf ts=1)
  {sl:pF} (hk:sl.Uh P ti=true) (h:laidMet P (sl.laid nm) W) :
  ∃aS0:List Addr,qZ W (sl.ss tp te) aS0∧aS0.Nodup∧∀a∈aS0,∃c t,W.heap[a.block]?=some (.cells c t (0,0)):=by
 obtain ⟨ps,hv,hnd,hrows⟩:=h
 obtain ⟨aS0,h1,h2,h3⟩:=yC hi hrow hp he hft hfo hs hc hcs hv hk fun b off hm=>(hrows b off hm).2
 exact ⟨aS0,h1,h3 hnd,fun a ha=>(hrows _ _ (h2 a ha)).1⟩
end
end Go.Rex
namespace Go.Proofs.YthomdlajobnmnaaDoor
open Go.Rex
def iv (i:Nat):SC:=.int .i64 (.var i)
def kW:List Kd:=[.int .i64,.int .i64,.int .i64,.int .i64,.bool]
def mF (v:Nat):List SC:=[iv v,iv (v+1),iv (v+2),iv (v+3),.bool (.var (v+4))]
def Lt (v:Nat):List SC:=[iv v,iv (v+1),iv (v+2),iv (v+3)] ++ mF (v+4) ++ mF (v+9)
def Av (v:Nat):List SC:=mF v ++ [.bool (.var (v+5))]
def M9 (n m:IE) (w b:Nat):SB:={t:=88,cs:=[.sl {aI:=b+1,i1:=.lit 0,s1:=5} n n,.sl {aI:=b+2,i1:=.lit 0,s1:=52} m m,.fG (.var w) {aI:=b+3,i1:=.lit 0,s1:=1} (.var (w+1)) (.var (w+2)),iv (w+3),iv (w+4),.jf (.var (w+5)) (.iface 119 (.ptr {aI:=b+4}))],own:=true}
def JF (n:IE) (w:Nat):SB:={t:=31,aZ:=[{r:=w+6,n1:=n,s1:=5,ks:=kW}],own:=true,cap:=some (n,5)}
def JG (m:IE) (w:Nat):SB:={t:=95,aZ:=[{r:=w+7,n1:=m,s1:=52,ks:=[.int .i64,.bool]},{r:=w+8,n1:=m,s1:=52,n2:=10,s2:=5,lo:=2,ks:=kW}],own:=true,cap:=some (m,52)}
def HZ (w:Nat):SB:={t:=3,aZ:=[{r:=w+9,n1:=.var (w+1),s1:=1,ks:=[.int .i64]}],own:=true,cap:=some (.var (w+2),1),nl:=.var w}
def Ei (v w b:Nat):List SB:=[M9 (.var v) (.var (v+1)) w b,JF (.var v) w,JG (.var (v+1)) w,HZ w,dD]
def Lu (v w b c:Nat):List SB:=[{M9 (.var v) (.var (v+1)) w b with cs:=[.sl {aI:=b+1,i1:=.lit 0,s1:=5} (.var v) (.var v),.sl {aI:=b+2,i1:=.lit 0,s1:=52} (.var (v+1)) (.var (v+1)),.fG (.var w) {aI:=c,i1:=.lit 0,s1:=1} (.var (w+1)) (.var (w+2)),iv (w+3),iv (w+4),.jf (.var (w+5)) (.iface 119 (.ptr {aI:=c+1}))]},JF (.var v) w,JG (.var (v+1)) w,dD,dD,HZ w,dD]
def zF:List (Nat × TypeId × TypeId):=[(0,177,198),(3,177,198),(1,177,198),(5,177,198)]
def ng:dZ:={f:=14,nv:=26,gl:=gL zF 0,args:=[.one (.ptr {aI:=8}),.agg (Lt 0)],hp:=jA 27 zF 0 ++ Ei 14 16 8,jy:=43,ret:=.iW [.agg (Av 26),.one (.jf (.var 32) (.iface 177 (.ptr {aI:=1})))],hp':=List.replicate 8 dD ++ Lu 14 33 8 13}
def wy:dZ:={f:=13,nv:=2,args:=[.one (iv 0),.one (iv 1)],hp:=[],jy:=12,ret:=.iW [.one (.ptr {aI:=0}),.one .dB],hp':=[M9 (.var 1) (.var 0) 2 0,JF (.var 1) 2,JG (.var 0) 2,HZ 2,dD]}
def Xh:dZ:={f:=35,nv:=1,hp:=[{t:=198,cs:=[.hole],ro:=true}],args:=[.one (.iface 177 (.ptr {aI:=0})),.one (.iface 177 (.ptr {aI:=0}))],jy:=1,ret:=.w (.one (.bool (.lit true))),hp':=[dD]}
def L13:iV:={f:=13,p:=[1,1,1,0,1,0],vR:=[(7,.au)],kill:=[30,31,34,35,36,37,38,39,40,41,42,43,32,33],deep:=[6],YK:=119}
def kN:List Kd:=[.int .i64,.int .i64,.int .i64,.int .i64,.bool,.int .i64,.int .i64]
def Pb (nl:Nat) (b s:Nat):SC:=.fG (.var nl) {aI:=b,i1:=.lit 0,s1:=s} (.var (nl+1)) (.var (nl+2))
def slO (nl o:Nat) (b s:Nat):SC:=.fG (.var nl) {aI:=b,i1:=.var o,s1:=s} (.var (nl+1)) (.var (nl+2))
def Fa (v:Nat):List SC:=[iv v,iv (v+1),iv (v+2),iv (v+3)] ++ mF (v+4) ++ mF (v+9) ++ [iv (v+14),iv (v+15),iv (v+16),iv (v+17)]
def H5 (s v b:Nat):SB:={t:=111,cs:=Fa v ++ [iv (v+18)] ++ Lt (v+19) ++ mF (v+33) ++ mF (v+38) ++ [iv (v+43),Pb (v+44) b 5,slO (v+47) (v+65) (b+1) 7,iv s,iv (s+1),iv (s+2),iv (s+3)] ++ List.replicate 45 .hole ++ [.bool (.var (v+51)),iv (v+52),iv (v+53),Pb (v+54) (b+2) 7,iv (v+57)] ++ Av (v+58),aZ:=[{r:=v+50,n1:=.lit 9,s1:=5,lo:=50,ks:=kW}],own:=true}
def Xi (t:Nat) (ks:List Kd) (nl r:Nat):SB:={t:=t,aZ:=[{r:=r,n1:=.var (nl+1),s1:=ks.length,ks:=ks}],own:=true,cap:=some (.var (nl+2),ks.length),nl:=.var nl}
def Na (v:Nat):SB:=Xi 31 kW (v+44) (v+64)
def Nb (v:Nat):SB:={t:=82,aZ:=[{r:=v+65,n1:=.var (v+66),s1:=7,ks:=kN}],own:=true,nl:=.var (v+47)}
def Nc (v:Nat):SB:=Xi 82 kN (v+54) (v+66)
def zG (s v b:Nat):List SB:=[H5 s v (b+1),Na v,Nb v,Nc v]
def Lv (s v:Nat) (c:Nat):List SB:=[H5 s v c,dD,dD,dD,Na v,Nb v,Nc v]
def om (f k:Nat) (args:List SW) (ret:SV):dZ:={f:=f,nv:=71+k,args:=.one (.ptr {aI:=0}) :: args,hp:=zG 0 4 0,jy:=138+k,ret:=ret,hp':=Lv 0 (71+k) 4}
def gQ:dZ:={f:=25,nv:=2,args:=[.one (iv 0),.one (iv 1)],hp:=[],jy:=2,ret:=.iW [.agg [.int .i64 (.lit 0),.int .i64 (.lit 0),.int .i64 (.add (.add (.lit 25) (.mul (.var 0) (.lit 9))) (.var 1))],.one .dB],hp':=[]}
def il:dZ:={f:=24,nv:=1,args:=[.one (iv 0)],hp:=[],jy:=1,ret:=.iW [.agg [.int .i64 (.lit 0),.int .i64 (.lit 0),.int .i64 (.add (.lit 79) (.var 0))],.one .dB],hp':=[]}
def qy:dZ:={f:=28,nv:=1,args:=[.one (iv 0)],hp:=[],jy:=1,ret:=.iW [.agg [.int .i64 (.lit 0),.int .i64 (.lit 0),.int .i64 (.var 0)],.one .dB],hp':=[]}
def pG:SV:=.iW []
def ja:dZ:=om 57 1 [.one (iv 71)] pG
def gU:dZ:=om 88 0 [] pG
def jl:dZ:={om 82 1 [.one (iv 71)] (.w (.one (.bool (.var 139)))) with jy:=140}
def jO:dZ:=om 77 0 [] pG
def jM:dZ:=om 76 0 [] pG
def l5:dZ:=om 53 0 [] pG
def jb:dZ:=om 81 0 [] pG
def j5:dZ:=om 79 2 [.one (iv 71),.one (iv 72)] pG
def H6:SW:=.agg (Av 71)
def jq:dZ:=om 60 6 [H6] pG
def j6:dZ:=om 61 6 [H6] pG
def gq:dZ:=om 62 6 [H6] pG
def kg:dZ:=om 83 0 [] pG
def lq:dZ:=om 32 6 [H6] (.w (.one .dB))
def jc:dZ:=om 27 18 [.agg (Fa 71)] (.w (.one .dB))
def tV (t:Nat) (ks:List Kd) (v:Nat):SB:={t:=t,aZ:=[{r:=v+3,n1:=.var (v+1),s1:=ks.length,ks:=ks}],cap:=some (.var (v+2),ks.length),own:=true,nl:=.var v}
def oJ:dZ:={f:=30,nv:=4,args:=[.one (iv 0),.one (iv 1),.one (iv 2),.one (iv 3)],hp:=[],jy:=71,ret:=.iW [.one (.ptr {aI:=0}),.one .dB],hp':=zG 0 4 0}
def kP:dZ:={om 26 0 [] (.w (.one (Pb 138 7 7))) with jy:=142,hp':=Lv 0 71 4 ++ [{t:=82,aZ:=[{r:=141,n1:=.var 139,s1:=7,ks:=kN}],own:=true,nl:=.var 138}]}
def lL (ks:List Kd) (nl b:Nat):SW:=.one (Pb nl b ks.length)
def Ej (t:Nat) (ks:List Kd) (v:Nat):SB:={t:=t,aZ:=[{r:=v+3,n1:=.var (v+1),s1:=ks.length,ks:=ks}],ro:=true,nl:=.var v}
def kI:List Kd:=[.int .i64]
def kS:List Kd:=[.bool,.int .i64,.int .i64]
def lM:dZ:={f:=93,nv:=8,args:=[lL kN 0 0,lL kW 4 1],hp:=[Ej 82 kN 0,Ej 31 kW 4],jy:=16,ret:=.iW [lL kN 8 2,lL kN 12 3],hp':=[dD,dD,tV 82 kN 8,tV 82 kN 12]}
def ni:dZ:={f:=94,nv:=8,args:=[lL kN 0 0,lL kI 4 1],hp:=[Ej 82 kN 0,Ej 3 kI 4],jy:=16,ret:=.iW [lL kN 8 2,lL kN 12 3],hp':=[dD,dD,tV 82 kN 8,tV 82 kN 12]}
def lN:dZ:={f:=95,nv:=8,args:=[lL kN 0 0,lL kS 4 1],hp:=[Ej 82 kN 0,Ej 109 kS 4],jy:=16,ret:=.iW [lL kN 8 2,lL kN 12 3],hp':=[dD,dD,tV 82 kN 8,tV 82 kN 12]}
def kD:dZ:={f:=96,nv:=8,args:=[lL kN 0 0,.one (iv 4)],hp:=[Ej 82 kN 0],jy:=16,ret:=.iW [lL kN 8 1,lL kN 12 2],hp':=[dD,tV 82 kN 8,tV 82 kN 12]}
def mG:dZ:={f:=84,nv:=5,args:=[.one (iv 0),lL kS 1 0],hp:=[Ej 109 kS 1],jy:=6,ret:=.w (.one (.bool (.var 5))),hp':=[dD]}
def Vd (v:Nat):List SC:=mF v ++ [iv (v+5),iv (v+6)]
def jQ:dZ:={f:=86,nv:=11,args:=[lL kN 0 0,.agg (Vd 4)],hp:=[Ej 82 kN 0],jy:=12,ret:=.w (.one (iv 11)),hp':=[dD]}
def fE:dZ:={f:=87,nv:=6,args:=[lL kN 0 0,.one (iv 4),.one (iv 5)],hp:=[tV 82 kN 0],jy:=7,ret:=.w (.one (.fG (.var 0) {aI:=0,i1:=.lit 0,s1:=7} (.sub (.var 1) (.lit 1)) (.var 2))),hp':=[{t:=82,aZ:=[{r:=6,n1:=.sub (.var 1) (.lit 1),s1:=7,ks:=kN}],cap:=some (.var 2,7),own:=true,nl:=.var 0}]}
def Xj:iV:={f:=57,p:=[1,0,1,0,1,0],vR:=[(4,.au)],kill:=[21,22,25,26,27,28,29,30,31,32,33,34,35,36,37,38,39,40,41,23,24]}
def Yq:iV:={f:=83,p:=[0,1,0,1,1,1,0,1,0,1,0],vR:=[(2,.fG 3),(36,.au)],kill:=[37,38,39,4,40,41,42,43,44,45]}
def Pf:iV:={f:=85,p:=[1,1,0,1,0],vR:=[(3,.fG 109),(12,.au)],kill:=[13,14,15,5,16,17,18,19,20,21]}
def Nf:iV:={f:=102,p:=[1,0,1,0],vR:=[(4,.fG 82),(5,.fG 82),(10,.au)],kill:=[11,12,13,7,14,15,16,17,18,19,20,21,22,23,24,25]}
def Xk:iV:={f:=103,p:=[1,0,1,0],vR:=[(8,.au)],kill:=[9,10,11,5,12,13,14,15,16,17,3,18]}
def Yr:iV:={f:=104,p:=[1,0,1,0],vR:=[(8,.au)],kill:=[9,10,11,5,12,13,14,15,16,17,18,19,20,21,22,23,24,25,3,26]}
def Ve:iV:={f:=105,p:=[1,0,1,0],vR:=[(8,.au)],kill:=[9,10,11,5,12,13,14,15,16,17,18,19,20,21,22,23,24,25,26,27,3,28]}
def Xl:iV:={f:=86,p:=[1,0,1,0],vR:=[(8,.au)],kill:=[9,10,5,11,12,13,14,15,16,17,4,18]}
def ZG:iV:={f:=84,p:=[1,0,1,0],vR:=[(9,.au)],kill:=[10,11,12,6,13,14,15,16,17,18,19,20,4,21]}
def Xm:Bool × List FK:=(false,[.sl 3 [.int .i64]])
def oK:List (Nat × TypeId × TypeId):=[(0,177,198),(2,177,198),(4,177,198),(3,177,198),(1,177,198),(5,177,198)]
def tX:dZ:={f:=20,nv:=1,gl:=gL oK 0,args:=[],hp:=jA 27 oK 0,jy:=1,ret:=.w (.one (.bool (.lit true))),hp':=List.replicate 12 dD}
def Ui:dZ:={Xh with hp:=[{t:=500198,cs:=[.hole],ro:=true}]}
end Go.Proofs.YthomdlajobnmnaaDoor
namespace Go.Rex
def Env.pull (f:Nat→Nat) (ρ:Env):Env:=⟨fun i=>ρ.iv (f i),fun i=>ρ.bv (f i),fun i=>ρ.vv (f i),fun i=>ρ.ic (f i),fun i=>ρ.bc (f i),fun i=>ρ.vc (f i)⟩
def Env.cat (N:Nat) (ρ e:Env):Env where
 iv:=fun i=>if i<N then ρ.iv i else e.iv (i-N)
 bv:=fun i=>if i<N then ρ.bv i else e.bv (i-N)
 vv:=fun i=>if i<N then ρ.vv i else e.vv (i-N)
 ic:=fun i=>if i<N then ρ.ic i else e.ic (i-N)
 bc:=fun i=>if i<N then ρ.bc i else e.bc (i-N)
 vc:=fun i=>if i<N then ρ.vc i else e.vc (i-N)
def iI (n:Nat) (ν μ:Nat→Addr):Nat→Addr:=fun k=>if k<n then ν k else μ (k-n)
theorem Env.Ch (N:Nat) (ρ e:Env):(ρ.cat N e).pull (N+·)=e:=by
 have h:∀i,¬N+i<N:=fun i=>by omega
 have h2:∀i,N+i-N=i:=fun i=>by omega
 cases e
 simp only [Env.pull,Env.cat,if_neg (h _),h2]
theorem ko (n:Nat) (ν μ:Nat→Addr) (k:Nat):iI n ν μ (n+k)=μ k:=by
 unfold iI
 rw [if_neg (by omega),show n+k-n=k by omega]
theorem nu (n:Nat) (ν μ:Nat→Addr) {k:Nat} (h:k<n):iI n ν μ k=ν k:=if_pos h
theorem dL.cat (N n:Nat) (ρ e:Env) (ν μ:Nat→Addr):dL N n ρ (ρ.cat N e) ν (iI n ν μ) :=
 ⟨fun _ h=>if_pos h,fun _ h=>if_pos h,fun _ h=>if_pos h,fun _ h=>if_pos h,fun _ h=>if_pos h,fun _ h=>if_pos h,fun _ h=>if_pos h⟩
section
variable (f g:Nat→Nat)
def IE.aV:IE→IE
 | .lit n=>.lit n
 | .var i=>.var (f i)
 | .add a b=>.add a.aV b.aV
 | .sub a b=>.sub a.aV b.aV
 | .mul a b=>.mul a.aV b.aV
 | .div a b=>.div a.aV b.aV
 | .mod a b=>.mod a.aV b.aV
 | .wrap k a=>.wrap k a.aV
 | .pW a b=>.pW a.aV b.aV
 | .imax a b=>.imax a.aV b.aV
 | .cell r a b j=>.cell (f r) a.aV b.aV j
def BE.aV:BE→BE
 | .lit b=>.lit b
 | .var i=>.var (f i)
 | .not a=>.not a.aV
 | .and a b=>.and a.aV b.aV
 | .or a b=>.or a.aV b.aV
 | .ite a b c=>.ite a.aV b.aV c.aV
 | .aC a b=>.aC (a.aV f) (b.aV f)
 | .aA a b=>.aA (a.aV f) (b.aV f)
 | .bT a b=>.bT (a.aV f) (b.aV f)
 | .beq a b=>.beq a.aV b.aV
 | .inr k a=>.inr k (a.aV f)
 | .cell r a b j=>.cell (f r) (a.aV f) (b.aV f) j
def SA.aV (a:SA):SA:={aI:=g a.aI,i1:=a.i1.aV f,s1:=a.s1,i2:=a.i2.aV f,s2:=a.s2,j:=a.j}
def SC.aV:SC→SC
 | .int k e=>.int k (e.aV f)
 | .bool b=>.bool (b.aV f)
 | .str l=>.str l
 | .val i=>.val (f i)
 | .jU r a b j=>.jU (f r) (a.aV f) (b.aV f) j
 | .ptr a=>.ptr (a.aV f g)
 | .bL=>.bL
 | .sl a l c=>.sl (a.aV f g) (l.aV f) (c.aV f)
 | .bU=>.bU
 | .fG k a l c=>.fG (k.aV f) (a.aV f g) (l.aV f) (c.aV f)
 | .fn h jW=>.fn h (jW.map g)
 | .aQ=>.aQ
 | .iface t c=>.iface t c.aV
 | .dB=>.dB
 | .jf c x=>.jf (c.aV f) x.aV
 | .mp b=>.mp (g b)
 | .qI=>.qI
 | .rt t b o=>.rt t b o
 | .hole=>.hole
def aa.aV (s:aa):aa:={s with r:=f s.r,n1:=s.n1.aV f}
def Up.aV (u:Up):Up:={g:=u.g,i1:=u.i1.aV f,i2:=u.i2.aV f,j:=u.j,c:=u.c.aV f g}
def SB.aV (b:SB):SB:={b with cs:=b.cs.map (SC.aV f g),aZ:=b.aZ.map (aa.aV f),ups:=b.ups.map (Up.aV f g),cap:=b.cap.map fun x=>(x.1.aV f,x.2),nl:=b.nl.aV f}
variable {f g} {ρ:Env} {ν:Nat→Addr}
theorem IE.gJ (e:IE):(e.aV f).den ρ=e.den (ρ.pull f):=by
 induction e <;> simp_all [IE.aV,IE.den,Env.pull]
theorem BE.gJ (e:BE):(e.aV f).den ρ=e.den (ρ.pull f):=by
 induction e <;> simp_all [BE.aV,BE.den,IE.gJ]
 all_goals rfl
theorem SA.gJ (a:SA):(a.aV f g).den ρ ν=a.den (ρ.pull f) (fun k=>ν (g k)):=by
 simp only [SA.aV,SA.den,SA.off,IE.gJ]
theorem SC.gJ (c:SC):(c.aV f g).den ρ ν=c.den (ρ.pull f) (fun k=>ν (g k)):=by
 induction c with
 | fn h jW=>simp only [SC.aV,SC.den,List.map_map];rfl
 | val i=>rfl
 | jU r a b j=>simp only [SC.aV,SC.den,IE.gJ];rfl
 | _=>simp_all [SC.aV,SC.den,IE.gJ,BE.gJ,SA.gJ]
theorem SC.JH (c:SC):(c.aV f g).isHole=c.isHole:=by
 induction c <;> simp_all [SC.aV,SC.isHole]
theorem aa.JI (s:aa) (i1 i2 j:Nat):(s.aV f).base ρ i1 i2 j=s.base (ρ.pull f) i1 i2 j:=rfl
theorem xI (gi i1 i2 j:Nat) (b:Value):∀us:List Up,df ρ ν (us.map (Up.aV f g)) gi i1 i2 j b=df (ρ.pull f) (fun k=>ν (g k)) us gi i1 i2 j b
 | []=>rfl
 | u :: r=>by
  simp only [List.map_cons,df,xI gi i1 i2 j b r]
  simp only [Up.aV,IE.gJ,SC.gJ]
theorem SB.fK (b:SB):(b.aV f g).dead ρ=b.dead (ρ.pull f):=by
 simp only [SB.dead,SB.aV,BE.gJ]
theorem SB.Aw (b:SB) {arr:Array Value}:(b.aV f g).has ρ ν arr↔b.has (ρ.pull f) (fun k=>ν (g k)) arr:=by
 constructor
 ·intro h
  refine ⟨fun u hu=>?_,fun h1 h2=>?_,fun e n he=>?_,fun p c hp hh=>?_,fun gi s hs i1 i2 j h1 h2 h3=>?_⟩
  ·have:=h.un (u.aV f g) (List.mem_map.2 ⟨u,hu,rfl⟩)
   simpa only [Up.aV,IE.gJ] using this
  ·have:=h.size (by simp [SB.aV,h1]) h2
   simpa [SB.aV] using this
  ·have:=h.cap (e.aV f) n (by simp [SB.aV,he])
   simpa only [IE.gJ] using this
  ·have:=h.ex p (c.aV f g) (by simp [SB.aV,hp]) (by rw [SC.JH];exact hh)
   rwa [SC.gJ] at this
  ·have:=h.sg gi (s.aV f) (by simp [SB.aV,hs]) i1 i2 j (by simpa only [aa.aV,IE.gJ] using h1) h2 h3
   rw [aa.JI] at this
   simpa only [SB.aV,xI,aa.aV] using this
 ·intro h
  refine ⟨fun u hu=>?_,fun h1 h2=>?_,fun e n he=>?_,fun p c hp hh=>?_,fun gi s hs i1 i2 j h1 h2 h3=>?_⟩
  ·simp only [SB.aV,List.mem_map] at hu
   obtain ⟨u',hu',rfl⟩:=hu
   have:=h.un u' hu'
   simpa only [Up.aV,IE.gJ] using this
  ·have:=h.size (by simpa [SB.aV] using h1) h2
   simpa [SB.aV] using this
  ·simp only [SB.aV,Option.map_eq_some_iff] at he
   obtain ⟨⟨e',n'⟩,he,h2⟩:=he
   simp only [Prod.mk.injEq] at h2
   obtain ⟨rfl,rfl⟩:=h2
   have:=h.cap e' n' he
   simpa only [IE.gJ] using this
  ·simp only [SB.aV,List.getElem?_map,Option.map_eq_some_iff] at hp
   obtain ⟨c',hp,rfl⟩:=hp
   rw [SC.JH] at hh
   rw [SC.gJ]
   exact h.ex p c' hp hh
  ·simp only [SB.aV,List.getElem?_map,Option.map_eq_some_iff] at hs
   obtain ⟨s',hs,rfl⟩:=hs
   have:=h.sg gi s' hs i1 i2 j (by simpa only [aa.aV,IE.gJ] using h1) h2 h3
   rw [aa.JI]
   simpa only [SB.aV,xI,aa.aV] using this
theorem SB.JJ (b:SB) {w:World} {k:Nat}:wP (b.aV f g) w k↔wP b w k:=by
 unfold wP
 simp [SB.aV]
end
theorem aN.sub {ρ:Env} {ν:Nat→Addr} {w:World} {H hp:List SB} {f g:Nat→Nat} (h:aN ρ ν H w) (hg:(List.range hp.length).map (fun j=>H[g j]?)=hp.map fun sb=>some (sb.aV f g))
  (hi:∀i j,i<hp.length→j<hp.length→g i=g j→i=j):aN (ρ.pull f) (fun k=>ν (g k)) hp w:=by
 have at_:∀(k:Nat) (sb:SB),hp[k]?=some sb→H[g k]?=some (sb.aV f g):=fun k sb hk=>by
  have hlt:=(List.getElem?_eq_some_iff.1 hk).1
  have:=congrArg (fun l=>l[k]?) hg
  simp only [List.getElem?_map,List.getElem?_range hlt,hk,Option.map_some] at this
  exact Option.some.inj this
 refine ⟨fun i j a b h1 h2 d1 d2 ra he=>?_,fun k sb hk hd hr=>?_,fun k sb hk hd hr=>?_⟩
 ·refine hi i j (List.getElem?_eq_some_iff.1 h1).1 (List.getElem?_eq_some_iff.1 h2).1 ?_
  exact h.inj (g i) (g j) _ _ (at_ i a h1) (at_ j b h2) (by rw [SB.fK];exact d1) (by rw [SB.fK];exact d2) ra he
 ·obtain ⟨h1,cs,h2,h3⟩:=h.aI (g k) _ (at_ k sb hk) (by rw [SB.fK];exact hd) hr
  exact ⟨h1,cs,h2,SB.Aw sb |>.1 h3⟩
 ·obtain ⟨h1,cs,h2,h3⟩:=h.rd (g k) _ (at_ k sb hk) (by rw [SB.fK];exact hd) hr
  exact ⟨SB.JJ sb |>.1 h1,cs,SB.Aw sb |>.1 h2,h3⟩
theorem aN.app {ρ:Env} {ν:Nat→Addr} {w:World} {hp hq:List SB} {f:Nat→Nat} (h1:aN ρ ν hp w) (h2:aN (ρ.pull f) (fun k=>ν (hp.length+k)) hq w)
  (hd:∀(i j:Nat) (a b:SB),hp[i]?=some a→hq[j]?=some b→a.dead ρ=false→b.dead (ρ.pull f)=false→a.ro=false∨b.ro=false→(ν i).block≠(ν (hp.length+j)).block):aN ρ ν (hp ++ hq.map (SB.aV f (hp.length+·))) w:=by
 have at_:∀(k:Nat) (sb:SB),(hp ++ hq.map (SB.aV f (hp.length+·)))[k]?=some sb→hp[k]?=some sb∨∃j b,k=hp.length+j∧hq[j]?=some b∧sb=b.aV f (hp.length+·):=fun k sb hk=>by
  rw [List.getElem?_append] at hk
  split at hk
  ·exact .inl hk
  ·rw [List.getElem?_map,Option.map_eq_some_iff] at hk
   obtain ⟨b,hb,rfl⟩:=hk
   exact .inr ⟨k-hp.length,b,by omega,hb,rfl⟩
 refine ⟨fun i j a b hi hj d1 d2 ra he=>?_,fun k sb hk hdd hr=>?_,fun k sb hk hdd hr=>?_⟩
 ·rcases at_ i a hi with qi | ⟨i',a',rfl,qi,rfl⟩
  ·rcases at_ j b hj with qj | ⟨j',b',rfl,qj,rfl⟩
   ·exact h1.inj i j a b qi qj d1 d2 ra he
   ·rw [SB.fK] at d2
    exact absurd he (hd i j' a b' qi qj d1 d2 (.inl ra))
  ·rw [SB.fK] at d1
   rcases at_ j b hj with qj | ⟨j',b',rfl,qj,rfl⟩
   ·exact absurd he.symm (hd j i' b a' qj qi d2 d1 (.inr ra))
   ·rw [SB.fK] at d2
    have:=h2.inj i' j' a' b' qi qj d1 d2 ra he
    omega
 ·rcases at_ k sb hk with qk | ⟨j,b,rfl,qk,rfl⟩
  ·exact h1.aI k sb qk hdd hr
  ·rw [SB.fK] at hdd
   obtain ⟨g1,cs,g2,g3⟩:=h2.aI j b qk hdd hr
   exact ⟨g1,cs,g2,SB.Aw b |>.2 g3⟩
 ·rcases at_ k sb hk with qk | ⟨j,b,rfl,qk,rfl⟩
  ·exact h1.rd k sb qk hdd hr
  ·rw [SB.fK] at hdd
   obtain ⟨g1,cs,g2,g3⟩:=h2.rd j b qk hdd hr
   exact ⟨SB.JJ b |>.2 g1,cs,SB.Aw b |>.2 g2,g3⟩
theorem kX.sub {z:Nat} {W:Nat→Prop} {ρ:Env} {ν:Nat→Addr} {H hp:List SB} {f g:Nat→Nat} (h:kX z W ρ ν H) (hg:(List.range hp.length).map (fun j=>H[g j]?)=hp.map fun sb=>some (sb.aV f g)):kX z W (ρ.pull f) (fun k=>ν (g k)) hp:=by
 intro k sb hk ho hd
 have hlt:=(List.getElem?_eq_some_iff.1 hk).1
 have:=congrArg (fun l=>l[k]?) hg
 simp only [List.getElem?_map,List.getElem?_range hlt,hk,Option.map_some] at this
 have:=h (g k) (sb.aV f g) (Option.some.inj this) ho (by rw [SB.fK];exact hd)
 exact this
theorem Vf {z:Nat} {W:Nat→Prop} {ρ:Env} {ν:Nat→Addr} {hp:List SB} (h:kX z W ρ ν hp) {b:Nat} (hb:jX ρ ν hp b):z≤b∨W b:=by
 obtain ⟨k,sb,h1,h2,h3,rfl⟩:=hb
 exact h k sb h1 h2 h3
def nQ (hp:List SB):Bool:=hp.all fun b=>b.gone || (b.own && !b.ro)
theorem q9 {hp:List SB} (h:nQ hp=true) {k:Nat} {sb:SB} (hk:hp[k]?=some sb) (hg:sb.gone=false):sb.own=true∧sb.ro=false:=by
 have:=List.all_eq_true.1 h sb (List.mem_of_getElem? hk)
 simpa [hg] using this
theorem aN.frame {ρ:Env} {ν:Nat→Addr} {hp:List SB} {w w':World} (ha:nQ hp=true) (h:aN ρ ν hp w) (hk:∀b,jX ρ ν hp b→w'.heap[b]?=w.heap[b]?):aN ρ ν hp w':=by
 refine ⟨h.inj,fun k sb h1 hd hr=>?_,fun k sb h1 hd hr=>?_⟩
 ·obtain ⟨g1,cs,g2,g3⟩:=h.aI k sb h1 hd hr
  refine ⟨g1,cs,?_,g3⟩
  rw [hk _ ⟨k,sb,h1,(q9 ha h1 (SB.dN hd)).1,hd,rfl⟩]
  exact g2
 ·have:=(q9 ha h1 (SB.dN hd)).2
  rw [hr] at this;cases this
end Go.Rex
namespace Go.Proofs.YthomdlajobnmnaaDoor
open Go.Rex
def Yt (n:Nat) (l m:List SC):List SC:=(l.take (l.length-n)).map (fun _=>SC.hole) ++ m
def Xn (v:Nat):SB:={t:=111,cs:=Yt 6 (H5 0 0 0).cs (Av v),aZ:=[{r:=v+6,n1:=.lit 9,s1:=5,lo:=50,ks:=kW}]}
def tY (v b:Nat):SB:={t:=60,cs:=[.ptr {aI:=b},iv v] ++ mF (v+1) ++ mF (v+6) ++ [.bool (.var (v+11)),.bool (.var (v+12))],own:=true}
def jR:dZ:={f:=50,nv:=20,args:=[.one (.ptr {aI:=0})],hp:=[tY 0 1,Xn 13],jy:=51,ret:=.w (.agg (Fa 33)),hp':=[tY 20 1,dD]}
def Yu:iV:={f:=22,p:=[1,0,1,0],vR:=[(5,.au)],kill:=[10,11,12,13,14,15,16,17,18,19,22,23,24,25,26,27,28,29,30,31,32,4,33,34,35,36,37,38,39,40,20,21],deep:=[0]}
def Vg (c:Nat):List SB:=List.replicate 8 dD ++ [tY 163 9,H5 187 96 c,dD,dD,dD] ++ ((Lu 84 176 13 (c+3)).take 5) ++ [Na 96,Nb 96,Nc 96,HZ 176,dD]
def jd:dZ:={f:=22,nv:=96,gl:=gL zF 0,args:=[.one (.ptr {aI:=8}),.one (.ptr {aI:=13})],hp:=jA 27 zF 0 ++ [tY 71 9] ++ zG 0 4 9 ++ Ei 84 86 13,jy:=191,ret:=.w (.one (.bool (.var 186))),hp':=Vg 18}
def gF:List SB:=jA 27 zF 0
def jB:List SB:=tY 71 1 :: zG 0 4 1
def iq:List SB:=Ei 0 2 0
def yW:List Kd:=[.int .i64,.int .i64,.int .i64,.int .i64,.bool]
def yN:List Kd:=[.int .i64,.int .i64,.int .i64,.int .i64,.bool,.int .i64,.int .i64]
def yI:List Kd:=[.int .i64]
def yB:List Kd:=[.int .i64,.bool]
abbrev yv (n:Nat):IE:=.var n
abbrev yw (n:Nat):BE:=.var n
def yo (l r:List (Nat × IE)):List (Nat × IE):=l ++ r
def yr (a b:Nat):Nat→List (Nat × IE)→List (Nat × IE)
  | 0,r=>r
  | n+1,r=>(a,.var b) :: yr (a-1) (b-1) n r
abbrev yb (n:Nat):SA:={aI:=n}
abbrev yc (n s:Nat):SA:={aI:=n,i1:=.lit 0,s1:=s}
abbrev yu (r n s:Nat) (k:List Kd) (g:Nat):CV:=.up {r:=r,n1:=.var n,s1:=s,ks:=k} g [] (.lit 0)
abbrev yl (r:Nat) (n:Int) (s l:Nat) (k:List Kd) (g:Nat):CV:=.up {r:=r,n1:=.lit n,s1:=s,lo:=l,ks:=k} g [] (.lit 0)
theorem Da:type_of% (And.intro @D.le (And.intro @D.gY (And.intro @D.lt (And.intro @D.gZ (And.intro @D.eq (And.intro @D.ib (And.intro @D.not (And.intro @D.eu (And.intro @D.and (And.intro @D.eB (And.intro @D.or (And.intro @D.ig (And.intro @D.inr (And.intro @D.var (And.intro @D.lit (And.intro @D.di (And.intro @D.beq (And.intro @D.eD (And.intro @D.eF (And.intro @D.eG (And.intro @D.add (And.intro @D.sub (And.intro @D.mul (And.intro @D.min (And.intro @D.max (And.intro @D.dm (And.intro @D.bR (And.intro @D.bS (@Int.toNat_zero))))))))))))))))))))))))))))):=And.intro @D.le (And.intro @D.gY (And.intro @D.lt (And.intro @D.gZ (And.intro @D.eq (And.intro @D.ib (And.intro @D.not (And.intro @D.eu (And.intro @D.and (And.intro @D.eB (And.intro @D.or (And.intro @D.ig (And.intro @D.inr (And.intro @D.var (And.intro @D.lit (And.intro @D.di (And.intro @D.beq (And.intro @D.eD (And.intro @D.eF (And.intro @D.eG (And.intro @D.add (And.intro @D.sub (And.intro @D.mul (And.intro @D.min (And.intro @D.max (And.intro @D.dm (And.intro @D.bR (And.intro @D.bS (@Int.toNat_zero))))))))))))))))))))))))))))
structure Wd where
 slot:Int
 gen:Int
 tag:Int
 num:Int
 mark:Bool
 deriving DecidableEq
def Wd.zero:Wd:=⟨0,0,0,0,false⟩
structure Ac where
 kind:Int
 slot:Int
 gen:Int
 field:Int
 old:Wd
 new:Wd
structure Rp where
 word:Wd
 ok:Bool
 deriving DecidableEq
structure PS where
 nb:Int
 ns:Int
 nf:Int
 steps:Int
 made:Int
 gV:Bool
 bd:Nat→Wd
 gen:Nat→Int
 used:Nat→Bool
 cell:Nat→Nat→Wd
 fr:Nat→Int
def PS.is (p:PS) (n:Int):Prop:=1≤n∧n≤p.ns
instance (p:PS) (n:Int):Decidable (p.is n):=by unfold PS.is;exact inferInstance
def PS.has (p:PS) (slot gen field:Int):Prop:=if slot=0 then gen=0∧0≤field∧field<p.nb else p.is slot∧0≤field∧field<10
instance (p:PS) (s g f:Int):Decidable (p.has s g f):=by unfold PS.has;exact inferInstance
def PS.valid (p:PS) (a:Ac):Prop :=
 if a.kind=1∨a.kind=2∨a.kind=3 then p.has a.slot a.gen a.field else if a.kind=4 then True else if a.kind=5 then p.is a.old.slot else False
instance (p:PS) (a:Ac):Decidable (p.valid a):=by unfold PS.valid;exact inferInstance
def PS.live (p:PS) (slot gen:Int):Prop:=slot=0∨(p.used (slot-1).toNat=true∧p.gen (slot-1).toNat=gen)
instance (p:PS) (s g:Int):Decidable (p.live s g):=by unfold PS.live;exact inferInstance
def PS.right (p:PS) (a:Ac):Prop:=if a.kind=4 then True else if a.kind=5 then p.live a.old.slot a.old.gen else p.live a.slot a.gen
instance (p:PS) (a:Ac):Decidable (p.right a):=by unfold PS.right;exact inferInstance
def PS.at (p:PS) (slot field:Int):Wd:=if slot=0 then p.bd field.toNat else p.cell (slot-1).toNat field.toNat
def PS.put (p:PS) (slot field:Int) (w:Wd):PS :=
 if slot=0 then {p with bd:=fun i=>if i=field.toNat then w else p.bd i}
 else {p with cell:=fun i k=>if i=(slot-1).toNat∧k=field.toNat then w else p.cell i k}
def iJ (a b:Wd):Prop:=a.slot=b.slot∧a.tag=b.tag∧a.num=b.num∧a.mark=b.mark
instance (a b:Wd):Decidable (iJ a b):=by unfold iJ;exact inferInstance
def Rp.no:Rp:=⟨Wd.zero,false⟩
def oL (aX:Int) (k:Nat):Wd:=if k=9 then {Wd.zero with num:=aX} else Wd.zero
def PS.alloc (p:PS) (aX:Int):PS × Rp :=
 if p.nf=0 then (p,Rp.no) else
  let n:=p.fr (p.nf-1).toNat
  let g:=p.gen (n-1).toNat+1
  ({p with nf:=p.nf-1,made:=p.made+1,gen:=fun i=>if i=(n-1).toNat then g else p.gen i,used:=fun i=>if i=(n-1).toNat then true else p.used i,
            cell:=fun i k=>if i=(n-1).toNat∧k<10 then oL aX k else p.cell i k},⟨⟨n,g,0,0,false⟩,true⟩)
def PS.free (p:PS) (n:Int):PS:={p with used:=fun i=>if i=(n-1).toNat then false else p.used i,fr:=fun i=>if i=p.nf.toNat then n else p.fr i,nf:=p.nf+1}
def fO (kind:Int):Rp:=if kind=1∨kind=3 then ⟨{Wd.zero with num:=-1},false⟩ else Rp.no
def PS.makes (p:PS) (a:Ac):PS × Rp :=
 if a.kind=4 then p.alloc a.new.num else
 if a.kind=5 then (p.free a.old.slot,⟨Wd.zero,true⟩) else
 if a.kind=1 then (p,⟨p.at a.slot a.field,true⟩) else
 if a.kind=2 then (p.put a.slot a.field a.new,⟨Wd.zero,true⟩) else
 if iJ (p.at a.slot a.field) a.old then (p.put a.slot a.field a.new,⟨p.at a.slot a.field,true⟩) else (p,⟨p.at a.slot a.field,false⟩)
def PS.act (p:PS) (a:Ac):PS × Option Rp :=
 if p.valid a then
  if p.right a then
   let r:=PS.makes {p with steps:=p.steps+1} a
   (r.1,some r.2)
  else ({p with steps:=p.steps+1,gV:=false},some (fO a.kind))
 else (p,none)
def PS.new (ns nb:Int):PS where
 nb:=nb
 ns:=ns
 nf:=ns
 steps:=0
 made:=0
 gV:=true
 bd:=fun _=>Wd.zero
 gen:=fun _=>0
 used:=fun _=>false
 cell:=fun _ _=>Wd.zero
 fr:=fun i=>ns-i
def jH (u:Nat→Bool):Nat→Nat
 | 0=>0
 | n+1=>jH u n+if u n then 1 else 0
theorem ny {u v:Nat→Bool}:∀{n:Nat},(∀i,i<n→u i=v i)→jH u n=jH v n
 | 0,_=>rfl
 | n+1,h=>by simp only [jH,ny fun i hi=>h i (Nat.lt_succ_of_lt hi),h n (Nat.lt_succ_self n)]
theorem Ci {u:Nat→Bool} {k:Nat}:∀{n:Nat},k<n→u k=false→jH (fun i=>if i=k then true else u i) n=jH u n+1
 | n+1,h,hu=>by
  simp only [jH]
  by_cases hk:k=n
  ·subst hk
   rw [ny (v:=u) fun i hi=>(if_neg (by omega))]
   simp [hu]
  ·have e:(if n=k then true else u n)=u n:=if_neg fun e=>hk e.symm
   simp only [Ci (show k<n by omega) hu,e]
   omega
theorem Gw {u:Nat→Bool} {k:Nat}:∀{n:Nat},k<n→u k=true→jH (fun i=>if i=k then false else u i) n+1=jH u n
 | n+1,h,hu=>by
  simp only [jH]
  by_cases hk:k=n
  ·subst hk
   rw [ny (v:=u) fun i hi=>(if_neg (by omega))]
   simp [hu]
  ·have:=Gw (n:=n) (by omega) hu
   have e:(if n=k then false else u n)=u n:=if_neg fun e=>hk e.symm
   simp only [e]
   omega
theorem pI:∀n,jH (fun _=>false) n=0
 | 0=>rfl
 | n+1=>by simp [jH,pI n]
structure PS.OK (p:PS):Prop where
 nb:0≤p.nb∧p.nb≤200
 ns:0≤p.ns∧p.ns≤1024
 nf:0≤p.nf
 made:0≤p.made∧p.made≤p.steps
 gen:∀i:Nat,0≤p.gen i∧p.gen i≤p.made
 fr:∀i:Nat,(i:Int)<p.nf→1≤p.fr i∧p.fr i≤p.ns∧p.used (p.fr i-1).toNat=false
 one:∀i j:Nat,i<j→(j:Int)<p.nf→p.fr i≠p.fr j
 cnt:(jH p.used p.ns.toNat:Int)+p.nf=p.ns
theorem PS.OK.new {ns nb:Int} (h1:0≤ns∧ns≤1024) (h2:0≤nb∧nb≤200):(PS.new ns nb).OK:=by
 refine ⟨h2,h1,h1.1,⟨Int.le_refl 0,Int.le_refl 0⟩,fun _=>⟨Int.le_refl 0,Int.le_refl 0⟩,fun i hi=>?_,fun i j hi hj=>?_,?_⟩
 ·simp only [PS.new] at hi ⊢
  exact ⟨by omega,by omega,trivial⟩
 ·simp only [PS.new] at hj ⊢
  omega
 ·simp only [PS.new,pI]
  omega
theorem PS.OK.Lx {p:PS} (h:p.OK):({p with steps:=p.steps+1}:PS).OK:=⟨h.nb,h.ns,h.nf,⟨h.made.1,by have:=h.made.2;show p.made≤p.steps+1;omega⟩,h.gen,h.fr,h.one,h.cnt⟩
theorem PS.OK.bad {p:PS} (h:p.OK):({p with steps:=p.steps+1,gV:=false}:PS).OK:=⟨h.nb,h.ns,h.nf,⟨h.made.1,by have:=h.made.2;show p.made≤p.steps+1;omega⟩,h.gen,h.fr,h.one,h.cnt⟩
theorem PS.OK.put {p:PS} (h:p.OK) (s f:Int) (w:Wd):(p.put s f w).OK:=by
 unfold PS.put
 split <;> exact ⟨h.nb,h.ns,h.nf,h.made,h.gen,h.fr,h.one,h.cnt⟩
theorem PS.OK.alloc {p:PS} (h:p.OK) (hm:p.made<p.steps) (b:Int):(p.alloc b).1.OK:=by
 unfold PS.alloc
 split
 ·exact h
 ·rename_i h0
  have h1:=h.nf
  obtain ⟨f1,f2,f3⟩:=h.fr (p.nf-1).toNat (by omega)
  have h2:=h.made
  refine ⟨h.nb,h.ns,by show 0≤p.nf-1;omega,⟨by show 0≤p.made+1;omega,by show p.made+1≤p.steps;omega⟩,fun i=>?_,fun i hi=>?_,fun i j hi hj=>?_,?_⟩
  ·show 0≤(if i=_ then _ else _)∧(if i=_ then _ else _)≤p.made+1
   have g:=h.gen i
   have g2:=h.gen (p.fr (p.nf-1).toNat-1).toNat
   split <;> omega
  ·replace hi:(i:Int)<p.nf-1:=hi
   obtain ⟨e1,e2,e3⟩:=h.fr i (by omega)
   refine ⟨e1,e2,?_⟩
   show (if (p.fr i-1).toNat=_ then true else _)=false
   have:=h.one i (p.nf-1).toNat (by omega) (by omega)
   rw [if_neg (by omega)]
   exact e3
  ·exact h.one i j hi (by have:(j:Int)<p.nf-1:=hj;omega)
  ·have:=Ci (u:=p.used) (n:=p.ns.toNat) (k:=(p.fr (p.nf-1).toNat-1).toNat) (by omega) f3
   have h3:=h.cnt
   show ((jH (fun i=>if i=_ then true else p.used i) p.ns.toNat:Nat):Int)+(p.nf-1)=p.ns
   omega
theorem PS.OK.free {p:PS} (h:p.OK) {n:Int} (hn:p.is n) (hu:p.used (n-1).toNat=true):(p.free n).OK:=by
 obtain ⟨n1,n2⟩:=hn
 have h1:=h.nf
 refine ⟨h.nb,h.ns,by show 0≤p.nf+1;omega,h.made,h.gen,fun i hi=>?_,fun i j hi hj=>?_,?_⟩
 ·replace hi:(i:Int)<p.nf+1:=hi
  show 1≤(if i=p.nf.toNat then n else p.fr i)∧(if i=p.nf.toNat then n else p.fr i)≤p.ns∧(if ((if i=p.nf.toNat then n else p.fr i)-1).toNat=(n-1).toNat then false else p.used ((if i=p.nf.toNat then n else p.fr i)-1).toNat)=false
  by_cases hx:i=p.nf.toNat
  ·simp only [if_pos hx]
   exact ⟨n1,n2,by simp⟩
  ·simp only [if_neg hx]
   obtain ⟨e1,e2,e3⟩:=h.fr i (by omega)
   refine ⟨e1,e2,?_⟩
   split
   ·rfl
   ·exact e3
 ·replace hj:(j:Int)<p.nf+1:=hj
  show (if i=p.nf.toNat then n else p.fr i)≠(if j=p.nf.toNat then n else p.fr j)
  rw [if_neg (by omega)]
  by_cases hx:j=p.nf.toNat
  ·rw [if_pos hx]
   intro he
   obtain ⟨e1,e2,e3⟩:=h.fr i (by omega)
   rw [he,hu] at e3
   cases e3
  ·rw [if_neg hx]
   exact h.one i j hi (by omega)
 ·have:=Gw (u:=p.used) (n:=p.ns.toNat) (k:=(n-1).toNat) (by omega) hu
  have h3:=h.cnt
  show ((jH (fun i=>if i=_ then false else p.used i) p.ns.toNat:Nat):Int)+(p.nf+1)=p.ns
  omega
theorem PS.OK.act {p:PS} (h:p.OK) (a:Ac):(p.act a).1.OK:=by
 unfold PS.act
 split
 ·rename_i hv
  split
  ·rename_i hr
   have hs:=h.Lx
   show (PS.makes {p with steps:=p.steps+1} a).1.OK
   unfold PS.makes
   split
   ·exact hs.alloc (by have:=h.made.2;show p.made<p.steps+1;omega) _
   split
   ·rename_i h4 h5
    have hv':p.is a.old.slot:=by
     unfold PS.valid at hv
     rw [if_neg (by omega),if_neg h4,if_pos h5] at hv
     exact hv
    have hr':p.live a.old.slot a.old.gen:=by
     unfold PS.right at hr
     rw [if_neg h4,if_pos h5] at hr
     exact hr
    have hne:a.old.slot≠0:=by have:=hv'.1;omega
    exact hs.free hv' (by
      rcases hr' with h | h
      · exact absurd h hne
      · exact h.1)
   split
   ·exact hs
   split
   ·exact hs.put _ _ _
   split
   ·exact hs.put _ _ _
   ·exact hs
  ·exact h.bad
 ·exact h
theorem PS.Pg (p:PS) (a:Ac):(p.act a).1.steps≤p.steps+1∧p.steps≤(p.act a).1.steps:=by
 unfold PS.act
 split
 ·split
  ·have e:(PS.makes {p with steps:=p.steps+1} a).1.steps=p.steps+1:=by
    unfold PS.makes PS.alloc PS.put PS.free
    repeat' first | rfl | split
   show (PS.makes {p with steps:=p.steps+1} a).1.steps≤p.steps+1∧p.steps≤(PS.makes {p with steps:=p.steps+1} a).1.steps
   omega
  ·exact ⟨Int.le_refl _,by show p.steps≤p.steps+1;omega⟩
 ·exact ⟨by show p.steps≤p.steps+1;omega,Int.le_refl _⟩
deriving instance DecidableEq for Ac
structure Ca where
 kind:Int
 slot:Int
 gen:Int
 field:Int
 old:Wd
 new:Wd
 i:Int
 j:Int
 code:Int
 val:Int
 deriving DecidableEq
structure Nt where
 ref:Wd
 aX:Int
 cO:Int
 deriving DecidableEq
structure Sp where
 is:Bool
 low:Int
 high:Int
 deriving DecidableEq
def Ac.zero:Ac:=⟨0,0,0,0,Wd.zero,Wd.zero⟩
def Ca.zero:Ca:=⟨0,0,0,0,Wd.zero,Wd.zero,0,0,0,0⟩
def Sp.zero:Sp:=⟨false,0,0⟩
def Wd.dG (n:Int):Wd:=⟨0,0,0,n,false⟩
def Wd.dK (w:Wd):Wd:=⟨w.slot,w.gen,0,0,false⟩
structure RS where
 call:Ca
 step:Int
 acc:Ac
 word:Wd
 clock:Wd
 index:Int
 seen:List Wd
 bM:List Nt
 aj:Int
 me:Int
 threads:Int
 most:Int
 holds:Nat→Wd
 span:Sp
 notes:List Nt
 freed:Int
 gW:Rp
namespace RS
variable (r:RS)
def bf:Prop:=r.aj=2∨r.aj=3
def bu:Prop:=r.aj=3∨r.aj=5
def bK:Prop:=r.aj=4∨r.aj=5
instance:Decidable r.bf:=by unfold bf;exact inferInstance
instance:Decidable r.bu:=by unfold bu;exact inferInstance
instance:Decidable r.bK:=by unfold bK;exact inferInstance
def ask (step:Int) (a:Ac):RS:={r with step:=step,acc:=a}
def load (step slot gen field:Int):RS:=r.ask step ⟨1,slot,gen,field,Wd.zero,Wd.zero⟩
def era (step:Int):RS:=r.load step 0 0 24
def advance (step:Int):RS:=r.ask step ⟨3,0,0,24,r.clock,⟨0,0,r.clock.tag+1,r.clock.num+1,false⟩⟩
def hold (n:Int) (w:Wd):RS:={r with holds:=fun i=>if i=n.toNat then w else r.holds i}
def post (step n:Int) (w:Wd):RS:=(r.hold n w).ask step ⟨2,0,0,25+r.me * 9+n,Wd.zero,w⟩
def lQ (s:Sp):Wd:=if s.is=true then ⟨0,0,s.high,s.low,true⟩ else Wd.zero
def eX (step:Int) (s:Sp):RS:={r with span:=s}.ask step ⟨2,0,0,79+r.me,Wd.zero,lQ s⟩
def finish (x:Rp):RS:={r with call:=Ca.zero,step:=0,acc:=Ac.zero,word:=Wd.zero,clock:=Wd.zero,index:=0,seen:=[],bM:=[],gW:=x}
def done:RS:=r.finish ⟨Wd.zero,true⟩
def first (h:Nat→Wd) (n:Nat):Nat→Option Nat
 | 0=>none
 | k+1=>if h n≠Wd.zero then some n else first h (n+1) k
def leave (start:Int):RS :=
 if r.bK∧r.span≠Sp.zero then r.eX 2 Sp.zero
 else if r.bf then
  match first r.holds start.toNat (9-start.toNat) with
  | some n=>{r with index:=n}.post 4 n Wd.zero
  | none=>r.done
 else r.done
def look (n:Int):Option RS :=
 if r.bf then
  if n≥r.threads * 9 then none else some ({r with index:=n}.load 13 0 0 (25+n))
 else if n≥r.threads then none else some ({r with index:=n}.load 13 0 0 (79+n))
def scan:RS :=
 if r.aj=1 then r.done
 else if r.aj=4 then r.era 12
 else (r.look 0).getD r
def note (aX cO:Int):RS:={r with notes:=r.notes ++ [⟨r.call.old.dK,aX,cO⟩]}
def dn:RS:=if r.notes.length≥r.most then r.scan else r.done
def ed:RS :=
 if r.aj=2 then (r.note 0 0).dn
 else if r.aj=4 then r.era 10
 else if r.aj=3∨r.aj=5 then r.load 9 r.call.old.slot r.call.old.gen 9
 else r.done
def opened:RS :=
 let c:=r.call
 if c.kind=1 then (if r.bK then r.era 3 else r.done)
 else if c.kind=2 then r.leave 0
 else if c.kind=3 then r.load 1 c.slot c.gen c.field
 else if c.kind=4 then r.ask 1 ⟨2,c.slot,c.gen,c.field,c.old,c.new⟩
 else if c.kind=5 then r.ask 1 ⟨3,c.slot,c.gen,c.field,c.old,c.new⟩
 else if c.kind=6 then r.load 5 c.slot c.gen c.field
 else if c.kind=7 then (if r.bf∧r.holds c.i.toNat≠r.holds c.j.toNat then r.post 2 c.i (r.holds c.j.toNat) else r.done)
 else if c.kind=8 then (if r.bu then r.era 8 else r.ask 1 ⟨4,0,0,0,Wd.zero,Wd.zero⟩)
 else if c.kind=9 then r.ask 2 ⟨5,0,0,0,c.old,Wd.zero⟩
 else if c.kind=10 then r.ed
 else if c.kind=11 then r.scan
 else r
def begin (c:Ca):RS × Bool :=
 if r.step≠0 then (r,false)
 else if c.kind<1∨c.kind > 11 then (r,false)
 else if (c.kind=6∨c.kind=7)∧(c.i<0∨c.i≥9∨c.j<0∨c.j≥9) then (r,false)
 else ({r with call:=c,step:=0,acc:=Ac.zero,word:=Wd.zero,clock:=Wd.zero,index:=0,seen:=[],bM:=[]}.opened,true)
def bZ (i now:Int):Prop :=
 if r.aj=3 then r.holds i.toNat≠Wd.zero∧(r.holds i.toNat).num=now
 else r.span.is=true∧r.span.high=now
instance (i now:Int):Decidable (r.bZ i now):=by unfold bZ;exact inferInstance
def bH (x:Rp):RS :=
 let i:=r.call.i
 if r.step=7 then r.load 5 r.call.slot r.call.gen r.call.field
 else if r.step=5 then
  if r.bu then {r with word:=x.word}.era 6
  else if r.aj=2∧x.word.slot≠0∧r.holds i.toNat≠x.word.dK then {r with word:=x.word}.post 7 i x.word.dK
  else {r with word:=x.word}.finish ⟨x.word,true⟩
 else if r.step=6 then
  let now:=x.word.num
  if r.bZ i now then r.finish ⟨r.word,true⟩
  else if r.aj=3 then r.post 7 i (Wd.dG now)
  else r.eX 7 ⟨true,if r.span.is=true then r.span.low else now,now⟩
 else r
def eT (x:Rp):RS :=
 if r.step=9 then {r with word:=x.word}.era 10
 else if r.step=10 then
  let s:={r with clock:=x.word}.note r.word.num x.word.num
  if r.bu then s.advance 11 else s.dn
 else if r.step=11 then r.dn
 else r
def gN (w:Wd):Sp:=if w.mark=true then ⟨true,w.num,w.tag⟩ else Sp.zero
def may (now:Int) (l:List Sp):Bool:=l.all fun s=>!(s.is && s.low != now)
def fw:RS :=
 match r.bM with
 | []=>r.done
 | d :: _=>r.ask 16 ⟨5,0,0,0,d.ref,Wd.zero⟩
def qz (w:Wd) (n:Nt):Bool:=w.slot == n.ref.slot
def qA (e:Int) (n:Nt):Bool:=decide (0<e∧n.aX≤e∧e≤n.cO)
def oo (s:Sp) (n:Nt):Bool:=s.is && decide (s.low≤n.cO∧s.high≥n.aX)
def mH (now:Int) (n:Nt):Bool:=decide (now < -9223372036854775808+2∨n.cO > now-2)
def kept (n:Nt):Bool :=
 if r.aj=2 then r.seen.any fun w=>qz w n
 else if r.aj=3 then r.seen.any fun w=>qA w.num n
 else if r.aj=5 then r.seen.any fun w=>oo (gN w) n
 else if r.aj=4 then mH r.clock.num n
 else true
def dS:RS :=
 (if 2≤r.aj∧r.aj≤5 then {r with bM:=r.notes.filter fun n=>!r.kept n} else r).fw
def bQ (x:Rp):RS :=
 if r.step=12 then (({r with clock:=x.word}:RS).look 0).getD {r with clock:=x.word}
 else if r.step=13 then
  let s:RS:={r with seen:=r.seen ++ [x.word]}
  match s.look (r.index+1) with
  | some t=>t
  | none =>
   if r.aj≠4 then s.dS
   else if may s.clock.num (s.seen.map gN)=true then s.advance 14
   else s.era 15
 else if r.step=14 then r.era 15
 else if r.step=15 then {r with clock:=x.word}.dS
 else if r.step=16 then
  match r.bM with
  | []=>r
  | d :: l=>{r with notes:=r.notes.erase d,freed:=r.freed+1,bM:=l}.fw
 else r
def aK (x:Rp):RS × Bool :=
 if r.step=0 then (r,false)
 else if r.step=1 then (r.finish x,true)
 else if r.step=2 then (r.done,true)
 else if r.step=3 then (r.eX 2 ⟨true,x.word.num,x.word.num⟩,true)
 else if r.step=4 then (r.leave (r.index+1),true)
 else if r.step=8 then (r.ask 1 ⟨4,0,0,0,Wd.zero,Wd.dG x.word.num⟩,true)
 else if r.step=5∨r.step=6∨r.step=7 then (r.bH x,true)
 else if r.step=9∨r.step=10∨r.step=11 then (r.eT x,true)
 else (r.bQ x,true)
end RS
def RS.new (aj me threads most:Int):RS:=⟨Ca.zero,0,Ac.zero,Wd.zero,Wd.zero,0,[],[],aj,me,threads,most,fun _=>Wd.zero,Sp.zero,[],0,⟨Wd.zero,false⟩⟩
end Go.Proofs.YthomdlajobnmnaaDoor
namespace Go.Rex
variable {post:Env→Prop} {cs:List (dZ × (Env→Prop) × (Env→Prop))} {Γ:List (Env→Prop)} {ρ:Env}
theorem Sat.ZH {nv:Nat} {fs:List QF} {k:Out} (K:Env→Prop) (hK:∀e,K (ρ.join nv e)) (h:∀q,K q→(∀f∈fs,f.den q)→Sat post cs Γ q k):Sat post cs Γ ρ (.new nv fs k) :=
 fun e hf=>h _ (hK e) hf
theorem Sat.zH {nv:Nat} {b:BE} {k:Out} (K:Env→Prop) (hK:∀e,K (ρ.join nv e)) (h:∀q,K q→b.den q=true→Sat post cs Γ q k):Sat post cs Γ ρ (.new nv [.be b] k) :=
 fun e hf=>h _ (hK e) (hf _ (List.mem_singleton.2 rfl))
theorem Sat.uL {nv:Nat} {σ:Sub} {k:Out} (Inv:Env→Prop) (m:Env→Nat) (K:Env→Prop) (h0:Inv (σ.af ρ)) (hK:∀e,K (ρ.join nv e))
  (h:∀q,K q→Inv q.num→Sat post cs ((fun ρ'=>Inv ρ'∧m ρ'<m q.num) :: Γ) q k):Sat post cs Γ ρ (.loop nv σ k) :=
 ⟨Inv,m,h0,fun e hI=>h _ (hK e) hI⟩
theorem Sat.iD {g:Nat} {σ:Sub} {nv:Nat} {k:Out} {c:dZ} {pre post':Env→Prop} (hg:cs[g]?=some (c,pre,post')) (hp:pre (σ.af ρ)) (K:Env→Prop)
  (hK:∀e,post' (aJ σ c.nv nv ρ (ρ.join nv e))→K (ρ.join nv e)) (h:∀q,K q→Sat post cs Γ q k):Sat post cs Γ ρ (.call g σ nv k) :=
 ⟨c,pre,post',hg,hp,fun e hq=>h _ (hK e hq)⟩
end Go.Rex
