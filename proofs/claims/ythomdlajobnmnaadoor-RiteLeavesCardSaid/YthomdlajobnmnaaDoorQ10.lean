/- part 10 of the proof -/
import Derived.LaidLaws
import Derived.Stop.LaidErr
import Derived.Test.YthomdlajobnmnaaDoorQ5
import Derived.Test.YthomdlajobnmnaaDoorQ8
import Derived.Test.YthomdlajobnmnaaDoorQ9
set_option linter.unusedSimpArgs false
set_option linter.unusedVariables false
namespace Go.Rex
open Go.RowKit Go.ChangeShapes
abbrev nZ:=List (String × Nat × List UInt8)
def nZ.laid (nm:String) (sl:nZ):List (String × DataW Unit):=sl.map fun x=>(x.1,.iface nm (.ptr (.agg [.lit (.string x.2.2)])))
def nZ.ss (tp te:TypeId) (sl:nZ):List (Nat × TypeId × TypeId):=sl.map fun x=>(x.2.1,tp,te)
def nZ.Un (P:Program) (ti:TypeId) (sl:nZ):Bool:=sl.all fun x=>(P.globalNamed x.1 == some x.2.1) && ((P.globals[x.2.1]?).map (·.type) == some ti)
section
variable {P:Program} {W:World} {ti tp te ts:TypeId} {nm:String} {ms:Array (String × TypeId)} {f:Field}
theorem yt (hi:P.underlying ti=some (.interface ms)) (hrow:∀u,P.typeName? 3 u=some nm→u=tp)
  (hp:P.underlying tp=some (.pointer te)) (he:P.underlying te=some (.struct #[f])) (hft:f.type=ts) (hfo:f.offset=0) (hs:P.underlying ts=some .string) (hc:P.cellsOf te=1) (hcs:P.cellsOf ts=1) :
  ∀{sl:nZ} {ps:List MemPlace},DataW.LaidVars P W (sl.laid nm) ps→sl.Un P ti=true →
   (∀b off,MemPlace.cell b off∈ps→∀u v,W.cell? ⟨b,off,none⟩=some (.iface u v)→Value.okWide P W .any 0 u v) →
   ∃aS0:List Addr,pz W (sl.ss tp te) aS0∧(∀a∈aS0,MemPlace.cell a.block a.off∈ps)∧(ps.Nodup→aS0.Nodup)
 | [],_,_,_,_=>⟨[],trivial,fun a h=>(List.not_mem_nil h).elim,fun _=>List.nodup_nil⟩
 | (n,g,text) :: r,ps,h,hk,hok=>by
  obtain ⟨g0,t0,cs,fuel,p,q,hg0,ht0,hv,hd,hr,rfl⟩:=h
  simp only [nZ.Un,List.all_cons,Bool.and_eq_true,beq_iff_eq] at hk
  obtain ⟨⟨hg,ht⟩,hk'⟩:=hk
  obtain rfl:=Option.some.inj (hg.symm.trans hg0)
  obtain rfl:=Option.some.inj (ht.symm.trans ht0)
  obtain ⟨l⟩:=cs
  have hok1:∀u v,l=[.iface u v]→Value.okWide P W .any 0 u v:=fun u v e=>by
   subst e
   exact hok g 0 (by simp [MemPlace.row]) u v (by simpa using World.var?_cell hg0 hv 0)
  obtain ⟨a,s,rfl,hca,hs1,hz,rfl⟩:=errorString_of_trod hi hrow hp he hft hfo hs hc hcs hd hok1
  obtain ⟨aS0,h1,h2,h3⟩:=yt hi hrow hp he hft hfo hs hc hcs hr (by simpa [nZ.Un] using hk') fun b off hm=>hok b off (List.mem_append_right _ hm)
  refine ⟨a :: aS0,⟨by simpa using World.var?_cell hg hv 0,⟨_,hca⟩,h1⟩,?_,?_⟩
  ·intro x hx
   rcases List.mem_cons.1 hx with rfl | hx
   ·simp [MemPlace.row]
   ·exact List.mem_append_right _ (h2 x hx)
  ·intro hn
   have hn2:=(List.nodup_append.1 hn)
   refine List.nodup_cons.2 ⟨fun hm=>?_,h3 hn2.2.1⟩
   exact hn2.2.2 (MemPlace.cell a.block a.off) (by simp [MemPlace.row]) (MemPlace.cell a.block a.off) (h2 a hm) rfl
theorem yx (hi:P.underlying ti=some (.interface ms)) (hrow:∀u,P.typeName? 3 u=some nm→u=tp)
  (hp:P.underlying tp=some (.pointer te)) (he:P.underlying te=some (.struct #[f])) (hft:f.type=ts) (hfo:f.offset=0) (hs:P.underlying ts=some .string) (hc:P.cellsOf te=1) (hcs:P.cellsOf ts=1)
  {sl:nZ} (hk:sl.Un P ti=true) (h:laidMet P (sl.laid nm) W) :
  ∃aS0:List Addr,pz W (sl.ss tp te) aS0∧aS0.Nodup∧∀a∈aS0,∃c t,W.heap[a.block]?=some (.cells c t (0,0)):=by
 obtain ⟨ps,hv,hnd,hrows⟩:=h
 obtain ⟨aS0,h1,h2,h3⟩:=yt hi hrow hp he hft hfo hs hc hcs hv hk fun b off hm=>(hrows b off hm).2
 exact ⟨aS0,h1,h3 hnd,fun a ha=>(hrows _ _ (h2 a ha)).1⟩
end
end Go.Rex
namespace Go.Proofs.YthomdlajobnmnaaDoor
open Go.Rex
def iv (i:Nat):SC:=.int .i64 (.var i)
def kW:List Kd:=[.int .i64,.int .i64,.int .i64,.int .i64,.bool]
def mJ (v:Nat):List SC:=[iv v,iv (v+1),iv (v+2),iv (v+3),.bool (.var (v+4))]
def Lv (v:Nat):List SC:=[iv v,iv (v+1),iv (v+2),iv (v+3)] ++ mJ (v+4) ++ mJ (v+9)
def Am (v:Nat):List SC:=mJ v ++ [.bool (.var (v+5))]
def Na (n m:IE) (w b:Nat):SB:={t:=88,cs:=[.sl {aI:=b+1,i1:=.lit 0,s1:=5} n n,.sl {aI:=b+2,i1:=.lit 0,s1:=52} m m,.fF (.var w) {aI:=b+3,i1:=.lit 0,s1:=1} (.var (w+1)) (.var (w+2)),iv (w+3),iv (w+4),.jd (.var (w+5)) (.iface 119 (.ptr {aI:=b+4}))],own:=true}
def JG (n:IE) (w:Nat):SB:={t:=31,bf:=[{r:=w+6,n1:=n,s1:=5,ks:=kW}],own:=true,cap:=some (n,5)}
def JH (m:IE) (w:Nat):SB:={t:=95,bf:=[{r:=w+7,n1:=m,s1:=52,ks:=[.int .i64,.bool]},{r:=w+8,n1:=m,s1:=52,n2:=10,s2:=5,lo:=2,ks:=kW}],own:=true,cap:=some (m,52)}
def H5 (w:Nat):SB:={t:=3,bf:=[{r:=w+9,n1:=.var (w+1),s1:=1,ks:=[.int .i64]}],own:=true,cap:=some (.var (w+2),1),nl:=.var w}
def Ef (v w b:Nat):List SB:=[Na (.var v) (.var (v+1)) w b,JG (.var v) w,JH (.var (v+1)) w,H5 w,dJ]
def Lx (v w b c:Nat):List SB:=[{Na (.var v) (.var (v+1)) w b with cs:=[.sl {aI:=b+1,i1:=.lit 0,s1:=5} (.var v) (.var v),.sl {aI:=b+2,i1:=.lit 0,s1:=52} (.var (v+1)) (.var (v+1)),.fF (.var w) {aI:=c,i1:=.lit 0,s1:=1} (.var (w+1)) (.var (w+2)),iv (w+3),iv (w+4),.jd (.var (w+5)) (.iface 119 (.ptr {aI:=c+1}))]},JG (.var v) w,JH (.var (v+1)) w,dJ,dJ,H5 w,dJ]
def zz:List (Nat × TypeId × TypeId):=[(0,177,198),(3,177,198),(1,177,198),(5,177,198)]
def nz:eH:={f:=14,nv:=26,gl:=gL zz 0,args:=[.one (.ptr {aI:=8}),.agg (Lv 0)],hp:=jy 27 zz 0 ++ Ef 14 16 8,jL:=43,ret:=.je [.agg (Am 26),.one (.jd (.var 32) (.iface 177 (.ptr {aI:=1})))],hp':=List.replicate 8 dJ ++ Lx 14 33 8 13}
def wz:eH:={f:=13,nv:=2,args:=[.one (iv 0),.one (iv 1)],hp:=[],jL:=12,ret:=.je [.one (.ptr {aI:=0}),.one .dD],hp':=[Na (.var 1) (.var 0) 2 0,JG (.var 1) 2,JH (.var 0) 2,H5 2,dJ]}
def Xp:eH:={f:=35,nv:=1,hp:=[{t:=198,cs:=[.hole],ro:=true}],args:=[.one (.iface 177 (.ptr {aI:=0})),.one (.iface 177 (.ptr {aI:=0}))],jL:=1,ret:=.w (.one (.bool (.lit true))),hp':=[dJ]}
def L13:iV:={f:=13,p:=[1,1,1,0,1,0],vS:=[(7,.au)],kill:=[30,31,34,35,36,37,38,39,40,41,42,43,32,33],deep:=[6],YS:=119}
end Go.Proofs.YthomdlajobnmnaaDoor
namespace Go.Proofs.YthomdlajobnmnaaDoor
open Go.Rex
def kN:List Kd:=[.int .i64,.int .i64,.int .i64,.int .i64,.bool,.int .i64,.int .i64]
def Ph (nl:Nat) (b s:Nat):SC:=.fF (.var nl) {aI:=b,i1:=.lit 0,s1:=s} (.var (nl+1)) (.var (nl+2))
def slO (nl o:Nat) (b s:Nat):SC:=.fF (.var nl) {aI:=b,i1:=.var o,s1:=s} (.var (nl+1)) (.var (nl+2))
def E5 (v:Nat):List SC:=[iv v,iv (v+1),iv (v+2),iv (v+3)] ++ mJ (v+4) ++ mJ (v+9) ++ [iv (v+14),iv (v+15),iv (v+16),iv (v+17)]
def H6 (s v b:Nat):SB:={t:=111,cs:=E5 v ++ [iv (v+18)] ++ Lv (v+19) ++ mJ (v+33) ++ mJ (v+38) ++ [iv (v+43),Ph (v+44) b 5,slO (v+47) (v+65) (b+1) 7,iv s,iv (s+1),iv (s+2),iv (s+3)] ++ List.replicate 45 .hole ++ [.bool (.var (v+51)),iv (v+52),iv (v+53),Ph (v+54) (b+2) 7,iv (v+57)] ++ Am (v+58),bf:=[{r:=v+50,n1:=.lit 9,s1:=5,lo:=50,ks:=kW}],own:=true}
def Xq (t:Nat) (ks:List Kd) (nl r:Nat):SB:={t:=t,bf:=[{r:=r,n1:=.var (nl+1),s1:=ks.length,ks:=ks}],own:=true,cap:=some (.var (nl+2),ks.length),nl:=.var nl}
def Nb (v:Nat):SB:=Xq 31 kW (v+44) (v+64)
def Nc (v:Nat):SB:={t:=82,bf:=[{r:=v+65,n1:=.var (v+66),s1:=7,ks:=kN}],own:=true,nl:=.var (v+47)}
def Nf (v:Nat):SB:=Xq 82 kN (v+54) (v+66)
def zA (s v b:Nat):List SB:=[H6 s v (b+1),Nb v,Nc v,Nf v]
def LA (s v:Nat) (c:Nat):List SB:=[H6 s v c,dJ,dJ,dJ,Nb v,Nc v,Nf v]
def ou (f k:Nat) (args:List SW) (ret:SV):eH:={f:=f,nv:=71+k,args:=.one (.ptr {aI:=0}) :: args,hp:=zA 0 4 0,jL:=138+k,ret:=ret,hp':=LA 0 (71+k) 4}
def gU:eH:={f:=25,nv:=2,args:=[.one (iv 0),.one (iv 1)],hp:=[],jL:=2,ret:=.je [.agg [.int .i64 (.lit 0),.int .i64 (.lit 0),.int .i64 (.add (.add (.lit 25) (.mul (.var 0) (.lit 9))) (.var 1))],.one .dD],hp':=[]}
def iw:eH:={f:=24,nv:=1,args:=[.one (iv 0)],hp:=[],jL:=1,ret:=.je [.agg [.int .i64 (.lit 0),.int .i64 (.lit 0),.int .i64 (.add (.lit 79) (.var 0))],.one .dD],hp':=[]}
def pE:SV:=.je []
def iZ:eH:=ou 57 1 [.one (iv 71)] pE
def gV:eH:=ou 88 0 [] pE
def jm:eH:={ou 82 1 [.one (iv 71)] (.w (.one (.bool (.var 139)))) with jL:=140}
def jJ:eH:=ou 77 0 [] pE
def jH:eH:=ou 76 0 [] pE
def l7:eH:=ou 53 0 [] pE
def ja:eH:=ou 81 0 [] pE
def jZ:eH:=ou 79 2 [.one (iv 71),.one (iv 72)] pE
def H7:SW:=.agg (Am 71)
def jr:eH:=ou 60 6 [H7] pE
def j4:eH:=ou 61 6 [H7] pE
def fZ:eH:=ou 62 6 [H7] pE
def j5:eH:=ou 83 0 [] pE
def lu:eH:=ou 32 6 [H7] (.w (.one .dD))
def jM:eH:=ou 27 18 [.agg (E5 71)] (.w (.one .dD))
def tO (t:Nat) (ks:List Kd) (v:Nat):SB:={t:=t,bf:=[{r:=v+3,n1:=.var (v+1),s1:=ks.length,ks:=ks}],cap:=some (.var (v+2),ks.length),own:=true,nl:=.var v}
def oL:eH:={f:=30,nv:=4,args:=[.one (iv 0),.one (iv 1),.one (iv 2),.one (iv 3)],hp:=[],jL:=71,ret:=.je [.one (.ptr {aI:=0}),.one .dD],hp':=zA 0 4 0}
def kQ:eH:={ou 26 0 [] (.w (.one (Ph 138 7 7))) with jL:=142,hp':=LA 0 71 4 ++ [{t:=82,bf:=[{r:=141,n1:=.var 139,s1:=7,ks:=kN}],own:=true,nl:=.var 138}]}
def lL (ks:List Kd) (nl b:Nat):SW:=.one (Ph nl b ks.length)
def Eg (t:Nat) (ks:List Kd) (v:Nat):SB:={t:=t,bf:=[{r:=v+3,n1:=.var (v+1),s1:=ks.length,ks:=ks}],ro:=true,nl:=.var v}
def kI:List Kd:=[.int .i64]
def kS:List Kd:=[.bool,.int .i64,.int .i64]
def lM:eH:={f:=93,nv:=8,args:=[lL kN 0 0,lL kW 4 1],hp:=[Eg 82 kN 0,Eg 31 kW 4],jL:=16,ret:=.je [lL kN 8 2,lL kN 12 3],hp':=[dJ,dJ,tO 82 kN 8,tO 82 kN 12]}
def nA:eH:={f:=94,nv:=8,args:=[lL kN 0 0,lL kI 4 1],hp:=[Eg 82 kN 0,Eg 3 kI 4],jL:=16,ret:=.je [lL kN 8 2,lL kN 12 3],hp':=[dJ,dJ,tO 82 kN 8,tO 82 kN 12]}
def lN:eH:={f:=95,nv:=8,args:=[lL kN 0 0,lL kS 4 1],hp:=[Eg 82 kN 0,Eg 109 kS 4],jL:=16,ret:=.je [lL kN 8 2,lL kN 12 3],hp':=[dJ,dJ,tO 82 kN 8,tO 82 kN 12]}
def ky:eH:={f:=96,nv:=8,args:=[lL kN 0 0,.one (iv 4)],hp:=[Eg 82 kN 0],jL:=16,ret:=.je [lL kN 8 1,lL kN 12 2],hp':=[dJ,tO 82 kN 8,tO 82 kN 12]}
def mK:eH:={f:=84,nv:=5,args:=[.one (iv 0),lL kS 1 0],hp:=[Eg 109 kS 1],jL:=6,ret:=.w (.one (.bool (.var 5))),hp':=[dJ]}
def Vp (v:Nat):List SC:=mJ v ++ [iv (v+5),iv (v+6)]
def jN:eH:={f:=86,nv:=11,args:=[lL kN 0 0,.agg (Vp 4)],hp:=[Eg 82 kN 0],jL:=12,ret:=.w (.one (iv 11)),hp':=[dJ]}
def fB:eH:={f:=87,nv:=6,args:=[lL kN 0 0,.one (iv 4),.one (iv 5)],hp:=[tO 82 kN 0],jL:=7,ret:=.w (.one (.fF (.var 0) {aI:=0,i1:=.lit 0,s1:=7} (.sub (.var 1) (.lit 1)) (.var 2))),hp':=[{t:=82,bf:=[{r:=6,n1:=.sub (.var 1) (.lit 1),s1:=7,ks:=kN}],cap:=some (.var 2,7),own:=true,nl:=.var 0}]}
def Xr:iV:={f:=57,p:=[1,0,1,0,1,0],vS:=[(4,.au)],kill:=[21,22,25,26,27,28,29,30,31,32,33,34,35,36,37,38,39,40,41,23,24]}
def YA:iV:={f:=83,p:=[0,1,0,1,1,1,0,1,0,1,0],vS:=[(2,.fF 3),(36,.au)],kill:=[37,38,39,4,40,41,42,43,44,45]}
def Pj:iV:={f:=85,p:=[1,1,0,1,0],vS:=[(3,.fF 109),(12,.au)],kill:=[13,14,15,5,16,17,18,19,20,21]}
def Ng:iV:={f:=102,p:=[1,0,1,0],vS:=[(4,.fF 82),(5,.fF 82),(10,.au)],kill:=[11,12,13,7,14,15,16,17,18,19,20,21,22,23,24,25]}
def Xt:iV:={f:=103,p:=[1,0,1,0],vS:=[(8,.au)],kill:=[9,10,11,5,12,13,14,15,16,17,3,18]}
def YB:iV:={f:=104,p:=[1,0,1,0],vS:=[(8,.au)],kill:=[9,10,11,5,12,13,14,15,16,17,18,19,20,21,22,23,24,25,3,26]}
def Vq:iV:={f:=105,p:=[1,0,1,0],vS:=[(8,.au)],kill:=[9,10,11,5,12,13,14,15,16,17,18,19,20,21,22,23,24,25,26,27,3,28]}
def Xu:iV:={f:=86,p:=[1,0,1,0],vS:=[(8,.au)],kill:=[9,10,5,11,12,13,14,15,16,17,4,18]}
def ZK:iV:={f:=84,p:=[1,0,1,0],vS:=[(9,.au)],kill:=[10,11,12,6,13,14,15,16,17,18,19,20,4,21]}
end Go.Proofs.YthomdlajobnmnaaDoor
namespace Go.Proofs.YthomdlajobnmnaaDoor
open Go.Rex
def Xv:Bool × List FK:=(false,[.sl 3 [.int .i64]])
end Go.Proofs.YthomdlajobnmnaaDoor
namespace Go.Proofs.YthomdlajobnmnaaDoor
open Go.Rex
def mi:List (Nat × TypeId × TypeId):=[(0,177,198),(2,177,198),(4,177,198),(3,177,198),(1,177,198),(5,177,198)]
def tQ:eH:={f:=20,nv:=1,gl:=gL mi 0,args:=[],hp:=jy 27 mi 0,jL:=1,ret:=.w (.one (.bool (.lit true))),hp':=List.replicate 12 dJ}
def Uo:eH:={Xp with hp:=[{t:=500198,cs:=[.hole],ro:=true}]}
end Go.Proofs.YthomdlajobnmnaaDoor
namespace Go.Rex
def Env.pull (f:Nat→Nat) (ρ:Env):Env:=⟨fun i=>ρ.iv (f i),fun i=>ρ.bv (f i),fun i=>ρ.vv (f i),fun i=>ρ.ic (f i),fun i=>ρ.bc (f i),fun i=>ρ.vc (f i)⟩
def Env.cat (N:Nat) (ρ e:Env):Env where
 iv:=fun i=>if i<N then ρ.iv i else e.iv (i-N)
 bv:=fun i=>if i<N then ρ.bv i else e.bv (i-N)
 vv:=fun i=>if i<N then ρ.vv i else e.vv (i-N)
 ic:=fun i=>if i<N then ρ.ic i else e.ic (i-N)
 bc:=fun i=>if i<N then ρ.bc i else e.bc (i-N)
 vc:=fun i=>if i<N then ρ.vc i else e.vc (i-N)
def iJ (n:Nat) (ν μ:Nat→Addr):Nat→Addr:=fun k=>if k<n then ν k else μ (k-n)
theorem Env.Cb (N:Nat) (ρ e:Env):(ρ.cat N e).pull (N+·)=e:=by
 have h:∀i,¬N+i<N:=fun i=>by omega
 have h2:∀i,N+i-N=i:=fun i=>by omega
 cases e
 simp only [Env.pull,Env.cat,if_neg (h _),h2]
theorem j6 (n:Nat) (ν μ:Nat→Addr) (k:Nat):iJ n ν μ (n+k)=μ k:=by
 unfold iJ
 rw [if_neg (by omega),show n+k-n=k by omega]
theorem nC (n:Nat) (ν μ:Nat→Addr) {k:Nat} (h:k<n):iJ n ν μ k=ν k:=if_pos h
theorem dM.cat (N n:Nat) (ρ e:Env) (ν μ:Nat→Addr):dM N n ρ (ρ.cat N e) ν (iJ n ν μ) :=
 ⟨fun _ h=>if_pos h,fun _ h=>if_pos h,fun _ h=>if_pos h,fun _ h=>if_pos h,fun _ h=>if_pos h,fun _ h=>if_pos h,fun _ h=>if_pos h⟩
section
variable (f g:Nat→Nat)
def IE.aU:IE→IE
 | .lit n=>.lit n
 | .var i=>.var (f i)
 | .add a b=>.add a.aU b.aU
 | .sub a b=>.sub a.aU b.aU
 | .mul a b=>.mul a.aU b.aU
 | .div a b=>.div a.aU b.aU
 | .mod a b=>.mod a.aU b.aU
 | .wrap k a=>.wrap k a.aU
 | .pV a b=>.pV a.aU b.aU
 | .imax a b=>.imax a.aU b.aU
 | .cell r a b j=>.cell (f r) a.aU b.aU j
def BE.aU:BE→BE
 | .lit b=>.lit b
 | .var i=>.var (f i)
 | .not a=>.not a.aU
 | .and a b=>.and a.aU b.aU
 | .or a b=>.or a.aU b.aU
 | .ite a b c=>.ite a.aU b.aU c.aU
 | .aC a b=>.aC (a.aU f) (b.aU f)
 | .aA a b=>.aA (a.aU f) (b.aU f)
 | .bS a b=>.bS (a.aU f) (b.aU f)
 | .beq a b=>.beq a.aU b.aU
 | .inr k a=>.inr k (a.aU f)
 | .cell r a b j=>.cell (f r) (a.aU f) (b.aU f) j
def SA.aU (a:SA):SA:={aI:=g a.aI,i1:=a.i1.aU f,s1:=a.s1,i2:=a.i2.aU f,s2:=a.s2,j:=a.j}
def SC.aU:SC→SC
 | .int k e=>.int k (e.aU f)
 | .bool b=>.bool (b.aU f)
 | .str l=>.str l
 | .val i=>.val (f i)
 | .jR r a b j=>.jR (f r) (a.aU f) (b.aU f) j
 | .ptr a=>.ptr (a.aU f g)
 | .bM=>.bM
 | .sl a l c=>.sl (a.aU f g) (l.aU f) (c.aU f)
 | .bT=>.bT
 | .fF k a l c=>.fF (k.aU f) (a.aU f g) (l.aU f) (c.aU f)
 | .fn h jV=>.fn h (jV.map g)
 | .aO=>.aO
 | .iface t c=>.iface t c.aU
 | .dD=>.dD
 | .jd c x=>.jd (c.aU f) x.aU
 | .mp b=>.mp (g b)
 | .qH=>.qH
 | .rt t b o=>.rt t b o
 | .hole=>.hole
def aa.aU (s:aa):aa:={s with r:=f s.r,n1:=s.n1.aU f}
def Up.aU (u:Up):Up:={g:=u.g,i1:=u.i1.aU f,i2:=u.i2.aU f,j:=u.j,c:=u.c.aU f g}
def SB.aU (b:SB):SB:={b with cs:=b.cs.map (SC.aU f g),bf:=b.bf.map (aa.aU f),ups:=b.ups.map (Up.aU f g),cap:=b.cap.map fun x=>(x.1.aU f,x.2),nl:=b.nl.aU f}
variable {f g} {ρ:Env} {ν:Nat→Addr}
theorem IE.gJ (e:IE):(e.aU f).den ρ=e.den (ρ.pull f):=by
 induction e <;> simp_all [IE.aU,IE.den,Env.pull]
theorem BE.gJ (e:BE):(e.aU f).den ρ=e.den (ρ.pull f):=by
 induction e <;> simp_all [BE.aU,BE.den,IE.gJ]
 all_goals rfl
theorem SA.gJ (a:SA):(a.aU f g).den ρ ν=a.den (ρ.pull f) (fun k=>ν (g k)):=by
 simp only [SA.aU,SA.den,SA.off,IE.gJ]
theorem SC.gJ (c:SC):(c.aU f g).den ρ ν=c.den (ρ.pull f) (fun k=>ν (g k)):=by
 induction c with
 | fn h jV=>simp only [SC.aU,SC.den,List.map_map];rfl
 | val i=>rfl
 | jR r a b j=>simp only [SC.aU,SC.den,IE.gJ];rfl
 | _=>simp_all [SC.aU,SC.den,IE.gJ,BE.gJ,SA.gJ]
theorem SC.JI (c:SC):(c.aU f g).isHole=c.isHole:=by
 induction c <;> simp_all [SC.aU,SC.isHole]
theorem aa.JJ (s:aa) (i1 i2 j:Nat):(s.aU f).base ρ i1 i2 j=s.base (ρ.pull f) i1 i2 j:=rfl
theorem xG (gi i1 i2 j:Nat) (b:Value):∀us:List Up,cO ρ ν (us.map (Up.aU f g)) gi i1 i2 j b=cO (ρ.pull f) (fun k=>ν (g k)) us gi i1 i2 j b
 | []=>rfl
 | u :: r=>by
  simp only [List.map_cons,cO,xG gi i1 i2 j b r]
  simp only [Up.aU,IE.gJ,SC.gJ]
theorem SB.fK (b:SB):(b.aU f g).dead ρ=b.dead (ρ.pull f):=by
 simp only [SB.dead,SB.aU,BE.gJ]
theorem SB.Ao (b:SB) {arr:Array Value}:(b.aU f g).has ρ ν arr↔b.has (ρ.pull f) (fun k=>ν (g k)) arr:=by
 constructor
 ·intro h
  refine ⟨fun u hu=>?_,fun h1 h2=>?_,fun e n he=>?_,fun p c hp hh=>?_,fun gi s hs i1 i2 j h1 h2 h3=>?_⟩
  ·have:=h.un (u.aU f g) (List.mem_map.2 ⟨u,hu,rfl⟩)
   simpa only [Up.aU,IE.gJ] using this
  ·have:=h.size (by simp [SB.aU,h1]) h2
   simpa [SB.aU] using this
  ·have:=h.cap (e.aU f) n (by simp [SB.aU,he])
   simpa only [IE.gJ] using this
  ·have:=h.ex p (c.aU f g) (by simp [SB.aU,hp]) (by rw [SC.JI];exact hh)
   rwa [SC.gJ] at this
  ·have:=h.sg gi (s.aU f) (by simp [SB.aU,hs]) i1 i2 j (by simpa only [aa.aU,IE.gJ] using h1) h2 h3
   rw [aa.JJ] at this
   simpa only [SB.aU,xG,aa.aU] using this
 ·intro h
  refine ⟨fun u hu=>?_,fun h1 h2=>?_,fun e n he=>?_,fun p c hp hh=>?_,fun gi s hs i1 i2 j h1 h2 h3=>?_⟩
  ·simp only [SB.aU,List.mem_map] at hu
   obtain ⟨u',hu',rfl⟩:=hu
   have:=h.un u' hu'
   simpa only [Up.aU,IE.gJ] using this
  ·have:=h.size (by simpa [SB.aU] using h1) h2
   simpa [SB.aU] using this
  ·simp only [SB.aU,Option.map_eq_some_iff] at he
   obtain ⟨⟨e',n'⟩,he,h2⟩:=he
   simp only [Prod.mk.injEq] at h2
   obtain ⟨rfl,rfl⟩:=h2
   have:=h.cap e' n' he
   simpa only [IE.gJ] using this
  ·simp only [SB.aU,List.getElem?_map,Option.map_eq_some_iff] at hp
   obtain ⟨c',hp,rfl⟩:=hp
   rw [SC.JI] at hh
   rw [SC.gJ]
   exact h.ex p c' hp hh
  ·simp only [SB.aU,List.getElem?_map,Option.map_eq_some_iff] at hs
   obtain ⟨s',hs,rfl⟩:=hs
   have:=h.sg gi s' hs i1 i2 j (by simpa only [aa.aU,IE.gJ] using h1) h2 h3
   rw [aa.JJ]
   simpa only [SB.aU,xG,aa.aU] using this
theorem SB.JK (b:SB) {w:World} {k:Nat}:wP (b.aU f g) w k↔wP b w k:=by
 unfold wP
 simp [SB.aU]
end
theorem aN.sub {ρ:Env} {ν:Nat→Addr} {w:World} {H hp:List SB} {f g:Nat→Nat} (h:aN ρ ν H w) (hg:(List.range hp.length).map (fun j=>H[g j]?)=hp.map fun sb=>some (sb.aU f g))
  (hi:∀i j,i<hp.length→j<hp.length→g i=g j→i=j):aN (ρ.pull f) (fun k=>ν (g k)) hp w:=by
 have at_:∀(k:Nat) (sb:SB),hp[k]?=some sb→H[g k]?=some (sb.aU f g):=fun k sb hk=>by
  have hlt:=(List.getElem?_eq_some_iff.1 hk).1
  have:=congrArg (fun l=>l[k]?) hg
  simp only [List.getElem?_map,List.getElem?_range hlt,hk,Option.map_some] at this
  exact Option.some.inj this
 refine ⟨fun i j a b h1 h2 d1 d2 ra he=>?_,fun k sb hk hd hr=>?_,fun k sb hk hd hr=>?_⟩
 ·refine hi i j (List.getElem?_eq_some_iff.1 h1).1 (List.getElem?_eq_some_iff.1 h2).1 ?_
  exact h.inj (g i) (g j) _ _ (at_ i a h1) (at_ j b h2) (by rw [SB.fK];exact d1) (by rw [SB.fK];exact d2) ra he
 ·obtain ⟨h1,cs,h2,h3⟩:=h.aI (g k) _ (at_ k sb hk) (by rw [SB.fK];exact hd) hr
  exact ⟨h1,cs,h2,SB.Ao sb |>.1 h3⟩
 ·obtain ⟨h1,cs,h2,h3⟩:=h.rd (g k) _ (at_ k sb hk) (by rw [SB.fK];exact hd) hr
  exact ⟨SB.JK sb |>.1 h1,cs,SB.Ao sb |>.1 h2,h3⟩
theorem aN.app {ρ:Env} {ν:Nat→Addr} {w:World} {hp hq:List SB} {f:Nat→Nat} (h1:aN ρ ν hp w) (h2:aN (ρ.pull f) (fun k=>ν (hp.length+k)) hq w)
  (hd:∀(i j:Nat) (a b:SB),hp[i]?=some a→hq[j]?=some b→a.dead ρ=false→b.dead (ρ.pull f)=false→a.ro=false∨b.ro=false→(ν i).block≠(ν (hp.length+j)).block):aN ρ ν (hp ++ hq.map (SB.aU f (hp.length+·))) w:=by
 have at_:∀(k:Nat) (sb:SB),(hp ++ hq.map (SB.aU f (hp.length+·)))[k]?=some sb→hp[k]?=some sb∨∃j b,k=hp.length+j∧hq[j]?=some b∧sb=b.aU f (hp.length+·):=fun k sb hk=>by
  rw [List.getElem?_append] at hk
  split at hk
  ·exact .inl hk
  ·rw [List.getElem?_map,Option.map_eq_some_iff] at hk
   obtain ⟨b,hb,rfl⟩:=hk
   exact .inr ⟨k-hp.length,b,by omega,hb,rfl⟩
 refine ⟨fun i j a b hi hj d1 d2 ra he=>?_,fun k sb hk hdd hr=>?_,fun k sb hk hdd hr=>?_⟩
 ·rcases at_ i a hi with qi | ⟨i',a',rfl,qi,rfl⟩
  ·rcases at_ j b hj with qj | ⟨j',b',rfl,qj,rfl⟩
   ·exact h1.inj i j a b qi qj d1 d2 ra he
   ·rw [SB.fK] at d2
    exact absurd he (hd i j' a b' qi qj d1 d2 (.inl ra))
  ·rw [SB.fK] at d1
   rcases at_ j b hj with qj | ⟨j',b',rfl,qj,rfl⟩
   ·exact absurd he.symm (hd j i' b a' qj qi d2 d1 (.inr ra))
   ·rw [SB.fK] at d2
    have:=h2.inj i' j' a' b' qi qj d1 d2 ra he
    omega
 ·rcases at_ k sb hk with qk | ⟨j,b,rfl,qk,rfl⟩
  ·exact h1.aI k sb qk hdd hr
  ·rw [SB.fK] at hdd
   obtain ⟨g1,cs,g2,g3⟩:=h2.aI j b qk hdd hr
   exact ⟨g1,cs,g2,SB.Ao b |>.2 g3⟩
 ·rcases at_ k sb hk with qk | ⟨j,b,rfl,qk,rfl⟩
  ·exact h1.rd k sb qk hdd hr
  ·rw [SB.fK] at hdd
   obtain ⟨g1,cs,g2,g3⟩:=h2.rd j b qk hdd hr
   exact ⟨SB.JK b |>.2 g1,cs,SB.Ao b |>.2 g2,g3⟩
theorem kY.sub {z:Nat} {W:Nat→Prop} {ρ:Env} {ν:Nat→Addr} {H hp:List SB} {f g:Nat→Nat} (h:kY z W ρ ν H) (hg:(List.range hp.length).map (fun j=>H[g j]?)=hp.map fun sb=>some (sb.aU f g)):kY z W (ρ.pull f) (fun k=>ν (g k)) hp:=by
 intro k sb hk ho hd
 have hlt:=(List.getElem?_eq_some_iff.1 hk).1
 have:=congrArg (fun l=>l[k]?) hg
 simp only [List.getElem?_map,List.getElem?_range hlt,hk,Option.map_some] at this
 have:=h (g k) (sb.aU f g) (Option.some.inj this) ho (by rw [SB.fK];exact hd)
 exact this
theorem Vr {z:Nat} {W:Nat→Prop} {ρ:Env} {ν:Nat→Addr} {hp:List SB} (h:kY z W ρ ν hp) {b:Nat} (hb:kM ρ ν hp b):z≤b∨W b:=by
 obtain ⟨k,sb,h1,h2,h3,rfl⟩:=hb
 exact h k sb h1 h2 h3
def nV (hp:List SB):Bool:=hp.all fun b=>b.gone || (b.own && !b.ro)
theorem qX {hp:List SB} (h:nV hp=true) {k:Nat} {sb:SB} (hk:hp[k]?=some sb) (hg:sb.gone=false):sb.own=true∧sb.ro=false:=by
 have:=List.all_eq_true.1 h sb (List.mem_of_getElem? hk)
 simpa [hg] using this
theorem aN.frame {ρ:Env} {ν:Nat→Addr} {hp:List SB} {w w':World} (ha:nV hp=true) (h:aN ρ ν hp w) (hk:∀b,kM ρ ν hp b→w'.heap[b]?=w.heap[b]?):aN ρ ν hp w':=by
 refine ⟨h.inj,fun k sb h1 hd hr=>?_,fun k sb h1 hd hr=>?_⟩
 ·obtain ⟨g1,cs,g2,g3⟩:=h.aI k sb h1 hd hr
  refine ⟨g1,cs,?_,g3⟩
  rw [hk _ ⟨k,sb,h1,(qX ha h1 (SB.dO hd)).1,hd,rfl⟩]
  exact g2
 ·have:=(qX ha h1 (SB.dO hd)).2
  rw [hr] at this;cases this
end Go.Rex
namespace Go.Proofs.YthomdlajobnmnaaDoor
open Go.Rex
def YC (n:Nat) (l m:List SC):List SC:=(l.take (l.length-n)).map (fun _=>SC.hole) ++ m
def Xw (v:Nat):SB:={t:=111,cs:=YC 6 (H6 0 0 0).cs (Am v),bf:=[{r:=v+6,n1:=.lit 9,s1:=5,lo:=50,ks:=kW}]}
def tV (v b:Nat):SB:={t:=60,cs:=[.ptr {aI:=b},iv v] ++ mJ (v+1) ++ mJ (v+6) ++ [.bool (.var (v+11)),.bool (.var (v+12))],own:=true}
def jO:eH:={f:=50,nv:=20,args:=[.one (.ptr {aI:=0})],hp:=[tV 0 1,Xw 13],jL:=51,ret:=.w (.agg (E5 33)),hp':=[tV 20 1,dJ]}
def YD:iV:={f:=22,p:=[1,0,1,0],vS:=[(5,.au)],kill:=[10,11,12,13,14,15,16,17,18,19,22,23,24,25,26,27,28,29,30,31,32,4,33,34,35,36,37,38,39,40,20,21],deep:=[0]}
def Vs (c:Nat):List SB:=List.replicate 8 dJ ++ [tV 163 9,H6 187 96 c,dJ,dJ,dJ] ++ ((Lx 84 176 13 (c+3)).take 5) ++ [Nb 96,Nc 96,Nf 96,H5 176,dJ]
def jb:eH:={f:=22,nv:=96,gl:=gL zz 0,args:=[.one (.ptr {aI:=8}),.one (.ptr {aI:=13})],hp:=jy 27 zz 0 ++ [tV 71 9] ++ zA 0 4 9 ++ Ef 84 86 13,jL:=191,ret:=.w (.one (.bool (.var 186))),hp':=Vs 18}
def gz:List SB:=jy 27 zz 0
def jA:List SB:=tV 71 1 :: zA 0 4 1
def iy:List SB:=Ef 0 2 0
end Go.Proofs.YthomdlajobnmnaaDoor
namespace Go.Proofs.YthomdlajobnmnaaDoor
open Go.Rex
def yW:List Kd:=[.int .i64,.int .i64,.int .i64,.int .i64,.bool]
def yN:List Kd:=[.int .i64,.int .i64,.int .i64,.int .i64,.bool,.int .i64,.int .i64]
def yI:List Kd:=[.int .i64]
def yB:List Kd:=[.int .i64,.bool]
abbrev yv (n:Nat):IE:=.var n
abbrev yw (n:Nat):BE:=.var n
def yo (l r:List (Nat × IE)):List (Nat × IE):=l ++ r
def yr (a b:Nat):Nat→List (Nat × IE)→List (Nat × IE)
  | 0,r=>r
  | n+1,r=>(a,.var b) :: yr (a-1) (b-1) n r
abbrev yb (n:Nat):SA:={aI:=n}
abbrev yc (n s:Nat):SA:={aI:=n,i1:=.lit 0,s1:=s}
abbrev yu (r n s:Nat) (k:List Kd) (g:Nat):CV:=.up {r:=r,n1:=.var n,s1:=s,ks:=k} g [] (.lit 0)
abbrev yl (r:Nat) (n:Int) (s l:Nat) (k:List Kd) (g:Nat):CV:=.up {r:=r,n1:=.lit n,s1:=s,lo:=l,ks:=k} g [] (.lit 0)
theorem Da:type_of% (And.intro @D.le (And.intro @D.gX (And.intro @D.lt (And.intro @D.gY (And.intro @D.eq (And.intro @D.gZ (And.intro @D.not (And.intro @D.ek (And.intro @D.and (And.intro @D.eu (And.intro @D.or (And.intro @D.ib (And.intro @D.inr (And.intro @D.var (And.intro @D.lit (And.intro @D.dh (And.intro @D.beq (And.intro @D.eB (And.intro @D.eD (And.intro @D.eF (And.intro @D.add (And.intro @D.sub (And.intro @D.mul (And.intro @D.min (And.intro @D.max (And.intro @D.di (And.intro @D.bQ (And.intro @D.bR (@Int.toNat_zero))))))))))))))))))))))))))))):=And.intro @D.le (And.intro @D.gX (And.intro @D.lt (And.intro @D.gY (And.intro @D.eq (And.intro @D.gZ (And.intro @D.not (And.intro @D.ek (And.intro @D.and (And.intro @D.eu (And.intro @D.or (And.intro @D.ib (And.intro @D.inr (And.intro @D.var (And.intro @D.lit (And.intro @D.dh (And.intro @D.beq (And.intro @D.eB (And.intro @D.eD (And.intro @D.eF (And.intro @D.add (And.intro @D.sub (And.intro @D.mul (And.intro @D.min (And.intro @D.max (And.intro @D.di (And.intro @D.bQ (And.intro @D.bR (@Int.toNat_zero))))))))))))))))))))))))))))
structure Wd where
 slot:Int
 gen:Int
 tag:Int
 num:Int
 mark:Bool
 deriving DecidableEq
def Wd.zero:Wd:=⟨0,0,0,0,false⟩
structure Ac where
 kind:Int
 slot:Int
 gen:Int
 field:Int
 old:Wd
 new:Wd
structure Rp where
 word:Wd
 ok:Bool
 deriving DecidableEq
structure PS where
 nb:Int
 ns:Int
 nf:Int
 steps:Int
 made:Int
 iA:Bool
 bd:Nat→Wd
 gen:Nat→Int
 used:Nat→Bool
 cell:Nat→Nat→Wd
 fr:Nat→Int
def PS.is (p:PS) (n:Int):Prop:=1≤n∧n≤p.ns
instance (p:PS) (n:Int):Decidable (p.is n):=by unfold PS.is;exact inferInstance
def PS.has (p:PS) (slot gen field:Int):Prop:=if slot=0 then gen=0∧0≤field∧field<p.nb else p.is slot∧0≤field∧field<10
instance (p:PS) (s g f:Int):Decidable (p.has s g f):=by unfold PS.has;exact inferInstance
def PS.valid (p:PS) (a:Ac):Prop :=
 if a.kind=1∨a.kind=2∨a.kind=3 then p.has a.slot a.gen a.field else if a.kind=4 then True else if a.kind=5 then p.is a.old.slot else False
instance (p:PS) (a:Ac):Decidable (p.valid a):=by unfold PS.valid;exact inferInstance
def PS.live (p:PS) (slot gen:Int):Prop:=slot=0∨(p.used (slot-1).toNat=true∧p.gen (slot-1).toNat=gen)
instance (p:PS) (s g:Int):Decidable (p.live s g):=by unfold PS.live;exact inferInstance
def PS.right (p:PS) (a:Ac):Prop:=if a.kind=4 then True else if a.kind=5 then p.live a.old.slot a.old.gen else p.live a.slot a.gen
instance (p:PS) (a:Ac):Decidable (p.right a):=by unfold PS.right;exact inferInstance
def PS.at (p:PS) (slot field:Int):Wd:=if slot=0 then p.bd field.toNat else p.cell (slot-1).toNat field.toNat
def PS.put (p:PS) (slot field:Int) (w:Wd):PS :=
 if slot=0 then {p with bd:=fun i=>if i=field.toNat then w else p.bd i}
 else {p with cell:=fun i k=>if i=(slot-1).toNat∧k=field.toNat then w else p.cell i k}
def iK (a b:Wd):Prop:=a.slot=b.slot∧a.tag=b.tag∧a.num=b.num∧a.mark=b.mark
instance (a b:Wd):Decidable (iK a b):=by unfold iK;exact inferInstance
def Rp.no:Rp:=⟨Wd.zero,false⟩
def oM (aX:Int) (k:Nat):Wd:=if k=9 then {Wd.zero with num:=aX} else Wd.zero
def PS.alloc (p:PS) (aX:Int):PS × Rp :=
 if p.nf=0 then (p,Rp.no) else
  let n:=p.fr (p.nf-1).toNat
  let g:=p.gen (n-1).toNat+1
  ({p with nf:=p.nf-1,made:=p.made+1,gen:=fun i=>if i=(n-1).toNat then g else p.gen i,used:=fun i=>if i=(n-1).toNat then true else p.used i,
            cell:=fun i k=>if i=(n-1).toNat∧k<10 then oM aX k else p.cell i k},⟨⟨n,g,0,0,false⟩,true⟩)
def PS.free (p:PS) (n:Int):PS:={p with used:=fun i=>if i=(n-1).toNat then false else p.used i,fr:=fun i=>if i=p.nf.toNat then n else p.fr i,nf:=p.nf+1}
def fO (kind:Int):Rp:=if kind=1∨kind=3 then ⟨{Wd.zero with num:=-1},false⟩ else Rp.no
def PS.makes (p:PS) (a:Ac):PS × Rp :=
 if a.kind=4 then p.alloc a.new.num else
 if a.kind=5 then (p.free a.old.slot,⟨Wd.zero,true⟩) else
 if a.kind=1 then (p,⟨p.at a.slot a.field,true⟩) else
 if a.kind=2 then (p.put a.slot a.field a.new,⟨Wd.zero,true⟩) else
 if iK (p.at a.slot a.field) a.old then (p.put a.slot a.field a.new,⟨p.at a.slot a.field,true⟩) else (p,⟨p.at a.slot a.field,false⟩)
def PS.act (p:PS) (a:Ac):PS × Option Rp :=
 if p.valid a then
  if p.right a then
   let r:=PS.makes {p with steps:=p.steps+1} a
   (r.1,some r.2)
  else ({p with steps:=p.steps+1,iA:=false},some (fO a.kind))
 else (p,none)
def PS.new (ns nb:Int):PS where
 nb:=nb
 ns:=ns
 nf:=ns
 steps:=0
 made:=0
 iA:=true
 bd:=fun _=>Wd.zero
 gen:=fun _=>0
 used:=fun _=>false
 cell:=fun _ _=>Wd.zero
 fr:=fun i=>ns-i
def kC (u:Nat→Bool):Nat→Nat
 | 0=>0
 | n+1=>kC u n+if u n then 1 else 0
theorem rV {u v:Nat→Bool}:∀{n:Nat},(∀i,i<n→u i=v i)→kC u n=kC v n
 | 0,_=>rfl
 | n+1,h=>by simp only [kC,rV fun i hi=>h i (Nat.lt_succ_of_lt hi),h n (Nat.lt_succ_self n)]
theorem JL {u:Nat→Bool} {k:Nat}:∀{n:Nat},k<n→u k=false→kC (fun i=>if i=k then true else u i) n=kC u n+1
 | n+1,h,hu=>by
  simp only [kC]
  by_cases hk:k=n
  ·subst hk
   rw [rV (v:=u) fun i hi=>(if_neg (by omega))]
   simp [hu]
  ·have e:(if n=k then true else u n)=u n:=if_neg fun e=>hk e.symm
   simp only [JL (show k<n by omega) hu,e]
   omega
theorem Gv {u:Nat→Bool} {k:Nat}:∀{n:Nat},k<n→u k=true→kC (fun i=>if i=k then false else u i) n+1=kC u n
 | n+1,h,hu=>by
  simp only [kC]
  by_cases hk:k=n
  ·subst hk
   rw [rV (v:=u) fun i hi=>(if_neg (by omega))]
   simp [hu]
  ·have:=Gv (n:=n) (by omega) hu
   have e:(if n=k then false else u n)=u n:=if_neg fun e=>hk e.symm
   simp only [e]
   omega
theorem xH:∀n,kC (fun _=>false) n=0
 | 0=>rfl
 | n+1=>by simp [kC,xH n]
structure PS.OK (p:PS):Prop where
 nb:0≤p.nb∧p.nb≤200
 ns:0≤p.ns∧p.ns≤1024
 nf:0≤p.nf
 made:0≤p.made∧p.made≤p.steps
 gen:∀i:Nat,0≤p.gen i∧p.gen i≤p.made
 fr:∀i:Nat,(i:Int)<p.nf→1≤p.fr i∧p.fr i≤p.ns∧p.used (p.fr i-1).toNat=false
 one:∀i j:Nat,i<j→(j:Int)<p.nf→p.fr i≠p.fr j
 cnt:(kC p.used p.ns.toNat:Int)+p.nf=p.ns
theorem PS.OK.new {ns nb:Int} (h1:0≤ns∧ns≤1024) (h2:0≤nb∧nb≤200):(PS.new ns nb).OK:=by
 refine ⟨h2,h1,h1.1,⟨Int.le_refl 0,Int.le_refl 0⟩,fun _=>⟨Int.le_refl 0,Int.le_refl 0⟩,fun i hi=>?_,fun i j hi hj=>?_,?_⟩
 ·simp only [PS.new] at hi ⊢
  exact ⟨by omega,by omega,trivial⟩
 ·simp only [PS.new] at hj ⊢
  omega
 ·simp only [PS.new,xH]
  omega
theorem PS.OK.LB {p:PS} (h:p.OK):({p with steps:=p.steps+1}:PS).OK:=⟨h.nb,h.ns,h.nf,⟨h.made.1,by have:=h.made.2;show p.made≤p.steps+1;omega⟩,h.gen,h.fr,h.one,h.cnt⟩
theorem PS.OK.bad {p:PS} (h:p.OK):({p with steps:=p.steps+1,iA:=false}:PS).OK:=⟨h.nb,h.ns,h.nf,⟨h.made.1,by have:=h.made.2;show p.made≤p.steps+1;omega⟩,h.gen,h.fr,h.one,h.cnt⟩
theorem PS.OK.put {p:PS} (h:p.OK) (s f:Int) (w:Wd):(p.put s f w).OK:=by
 unfold PS.put
 split <;> exact ⟨h.nb,h.ns,h.nf,h.made,h.gen,h.fr,h.one,h.cnt⟩
theorem PS.OK.alloc {p:PS} (h:p.OK) (hm:p.made<p.steps) (b:Int):(p.alloc b).1.OK:=by
 unfold PS.alloc
 split
 ·exact h
 ·rename_i h0
  have h1:=h.nf
  obtain ⟨f1,f2,f3⟩:=h.fr (p.nf-1).toNat (by omega)
  have h2:=h.made
  refine ⟨h.nb,h.ns,by show 0≤p.nf-1;omega,⟨by show 0≤p.made+1;omega,by show p.made+1≤p.steps;omega⟩,fun i=>?_,fun i hi=>?_,fun i j hi hj=>?_,?_⟩
  ·show 0≤(if i=_ then _ else _)∧(if i=_ then _ else _)≤p.made+1
   have g:=h.gen i
   have g2:=h.gen (p.fr (p.nf-1).toNat-1).toNat
   split <;> omega
  ·replace hi:(i:Int)<p.nf-1:=hi
   obtain ⟨e1,e2,e3⟩:=h.fr i (by omega)
   refine ⟨e1,e2,?_⟩
   show (if (p.fr i-1).toNat=_ then true else _)=false
   have:=h.one i (p.nf-1).toNat (by omega) (by omega)
   rw [if_neg (by omega)]
   exact e3
  ·exact h.one i j hi (by have:(j:Int)<p.nf-1:=hj;omega)
  ·have:=JL (u:=p.used) (n:=p.ns.toNat) (k:=(p.fr (p.nf-1).toNat-1).toNat) (by omega) f3
   have h3:=h.cnt
   show ((kC (fun i=>if i=_ then true else p.used i) p.ns.toNat:Nat):Int)+(p.nf-1)=p.ns
   omega
theorem PS.OK.free {p:PS} (h:p.OK) {n:Int} (hn:p.is n) (hu:p.used (n-1).toNat=true):(p.free n).OK:=by
 obtain ⟨n1,n2⟩:=hn
 have h1:=h.nf
 refine ⟨h.nb,h.ns,by show 0≤p.nf+1;omega,h.made,h.gen,fun i hi=>?_,fun i j hi hj=>?_,?_⟩
 ·replace hi:(i:Int)<p.nf+1:=hi
  show 1≤(if i=p.nf.toNat then n else p.fr i)∧(if i=p.nf.toNat then n else p.fr i)≤p.ns∧(if ((if i=p.nf.toNat then n else p.fr i)-1).toNat=(n-1).toNat then false else p.used ((if i=p.nf.toNat then n else p.fr i)-1).toNat)=false
  by_cases hx:i=p.nf.toNat
  ·simp only [if_pos hx]
   exact ⟨n1,n2,by simp⟩
  ·simp only [if_neg hx]
   obtain ⟨e1,e2,e3⟩:=h.fr i (by omega)
   refine ⟨e1,e2,?_⟩
   split
   ·rfl
   ·exact e3
 ·replace hj:(j:Int)<p.nf+1:=hj
  show (if i=p.nf.toNat then n else p.fr i)≠(if j=p.nf.toNat then n else p.fr j)
  rw [if_neg (by omega)]
  by_cases hx:j=p.nf.toNat
  ·rw [if_pos hx]
   intro he
   obtain ⟨e1,e2,e3⟩:=h.fr i (by omega)
   rw [he,hu] at e3
   cases e3
  ·rw [if_neg hx]
   exact h.one i j hi (by omega)
 ·have:=Gv (u:=p.used) (n:=p.ns.toNat) (k:=(n-1).toNat) (by omega) hu
  have h3:=h.cnt
  show ((kC (fun i=>if i=_ then false else p.used i) p.ns.toNat:Nat):Int)+(p.nf+1)=p.ns
  omega
theorem PS.OK.act {p:PS} (h:p.OK) (a:Ac):(p.act a).1.OK:=by
 unfold PS.act
 split
 ·rename_i hv
  split
  ·rename_i hr
   have hs:=h.LB
   show (PS.makes {p with steps:=p.steps+1} a).1.OK
   unfold PS.makes
   split
   ·exact hs.alloc (by have:=h.made.2;show p.made<p.steps+1;omega) _
   split
   ·rename_i h4 h5
    have hv':p.is a.old.slot:=by
     unfold PS.valid at hv
     rw [if_neg (by omega),if_neg h4,if_pos h5] at hv
     exact hv
    have hr':p.live a.old.slot a.old.gen:=by
     unfold PS.right at hr
     rw [if_neg h4,if_pos h5] at hr
     exact hr
    have hne:a.old.slot≠0:=by have:=hv'.1;omega
    exact hs.free hv' (by
      rcases hr' with h | h
      · exact absurd h hne
      · exact h.1)
   split
   ·exact hs
   split
   ·exact hs.put _ _ _
   split
   ·exact hs.put _ _ _
   ·exact hs
  ·exact h.bad
 ·exact h
theorem PS.Pk (p:PS) (a:Ac):(p.act a).1.steps≤p.steps+1∧p.steps≤(p.act a).1.steps:=by
 unfold PS.act
 split
 ·split
  ·have e:(PS.makes {p with steps:=p.steps+1} a).1.steps=p.steps+1:=by
    unfold PS.makes PS.alloc PS.put PS.free
    repeat' first | rfl | split
   show (PS.makes {p with steps:=p.steps+1} a).1.steps≤p.steps+1∧p.steps≤(PS.makes {p with steps:=p.steps+1} a).1.steps
   omega
  ·exact ⟨Int.le_refl _,by show p.steps≤p.steps+1;omega⟩
 ·exact ⟨by show p.steps≤p.steps+1;omega,Int.le_refl _⟩
end Go.Proofs.YthomdlajobnmnaaDoor
namespace Go.Proofs.YthomdlajobnmnaaDoor
open Go.Rex
deriving instance DecidableEq for Ac
structure Ca where
 kind:Int
 slot:Int
 gen:Int
 field:Int
 old:Wd
 new:Wd
 i:Int
 j:Int
 code:Int
 val:Int
 deriving DecidableEq
structure Nt where
 ref:Wd
 aX:Int
 dm:Int
 deriving DecidableEq
structure Sp where
 is:Bool
 low:Int
 high:Int
 deriving DecidableEq
def Ac.zero:Ac:=⟨0,0,0,0,Wd.zero,Wd.zero⟩
def Ca.zero:Ca:=⟨0,0,0,0,Wd.zero,Wd.zero,0,0,0,0⟩
def Sp.zero:Sp:=⟨false,0,0⟩
def Wd.dI (n:Int):Wd:=⟨0,0,0,n,false⟩
def Wd.dz (w:Wd):Wd:=⟨w.slot,w.gen,0,0,false⟩
structure RS where
 call:Ca
 step:Int
 acc:Ac
 word:Wd
 clock:Wd
 index:Int
 seen:List Wd
 bN:List Nt
 aj:Int
 me:Int
 threads:Int
 most:Int
 holds:Nat→Wd
 span:Sp
 notes:List Nt
 freed:Int
 gW:Rp
namespace RS
variable (r:RS)
def aZ:Prop:=r.aj=2∨r.aj=3
def aY:Prop:=r.aj=3∨r.aj=5
def bI:Prop:=r.aj=4∨r.aj=5
instance:Decidable r.aZ:=by unfold aZ;exact inferInstance
instance:Decidable r.aY:=by unfold aY;exact inferInstance
instance:Decidable r.bI:=by unfold bI;exact inferInstance
def ask (step:Int) (a:Ac):RS:={r with step:=step,acc:=a}
def load (step slot gen field:Int):RS:=r.ask step ⟨1,slot,gen,field,Wd.zero,Wd.zero⟩
def era (step:Int):RS:=r.load step 0 0 24
def advance (step:Int):RS:=r.ask step ⟨3,0,0,24,r.clock,⟨0,0,r.clock.tag+1,r.clock.num+1,false⟩⟩
def hold (n:Int) (w:Wd):RS:={r with holds:=fun i=>if i=n.toNat then w else r.holds i}
def post (step n:Int) (w:Wd):RS:=(r.hold n w).ask step ⟨2,0,0,25+r.me * 9+n,Wd.zero,w⟩
def lQ (s:Sp):Wd:=if s.is=true then ⟨0,0,s.high,s.low,true⟩ else Wd.zero
def eX (step:Int) (s:Sp):RS:={r with span:=s}.ask step ⟨2,0,0,79+r.me,Wd.zero,lQ s⟩
def finish (x:Rp):RS:={r with call:=Ca.zero,step:=0,acc:=Ac.zero,word:=Wd.zero,clock:=Wd.zero,index:=0,seen:=[],bN:=[],gW:=x}
def done:RS:=r.finish ⟨Wd.zero,true⟩
def first (h:Nat→Wd) (n:Nat):Nat→Option Nat
 | 0=>none
 | k+1=>if h n≠Wd.zero then some n else first h (n+1) k
def leave (start:Int):RS :=
 if r.bI∧r.span≠Sp.zero then r.eX 2 Sp.zero
 else if r.aZ then
  match first r.holds start.toNat (9-start.toNat) with
  | some n=>{r with index:=n}.post 4 n Wd.zero
  | none=>r.done
 else r.done
def look (n:Int):Option RS :=
 if r.aZ then
  if n≥r.threads * 9 then none else some ({r with index:=n}.load 13 0 0 (25+n))
 else if n≥r.threads then none else some ({r with index:=n}.load 13 0 0 (79+n))
def scan:RS :=
 if r.aj=1 then r.done
 else if r.aj=4 then r.era 12
 else (r.look 0).getD r
def note (aX dm:Int):RS:={r with notes:=r.notes ++ [⟨r.call.old.dz,aX,dm⟩]}
def cK:RS:=if r.notes.length≥r.most then r.scan else r.done
def fu:RS :=
 if r.aj=2 then (r.note 0 0).cK
 else if r.aj=4 then r.era 10
 else if r.aj=3∨r.aj=5 then r.load 9 r.call.old.slot r.call.old.gen 9
 else r.done
def opened:RS :=
 let c:=r.call
 if c.kind=1 then (if r.bI then r.era 3 else r.done)
 else if c.kind=2 then r.leave 0
 else if c.kind=3 then r.load 1 c.slot c.gen c.field
 else if c.kind=4 then r.ask 1 ⟨2,c.slot,c.gen,c.field,c.old,c.new⟩
 else if c.kind=5 then r.ask 1 ⟨3,c.slot,c.gen,c.field,c.old,c.new⟩
 else if c.kind=6 then r.load 5 c.slot c.gen c.field
 else if c.kind=7 then (if r.aZ∧r.holds c.i.toNat≠r.holds c.j.toNat then r.post 2 c.i (r.holds c.j.toNat) else r.done)
 else if c.kind=8 then (if r.aY then r.era 8 else r.ask 1 ⟨4,0,0,0,Wd.zero,Wd.zero⟩)
 else if c.kind=9 then r.ask 2 ⟨5,0,0,0,c.old,Wd.zero⟩
 else if c.kind=10 then r.fu
 else if c.kind=11 then r.scan
 else r
def begin (c:Ca):RS × Bool :=
 if r.step≠0 then (r,false)
 else if c.kind<1∨c.kind > 11 then (r,false)
 else if (c.kind=6∨c.kind=7)∧(c.i<0∨c.i≥9∨c.j<0∨c.j≥9) then (r,false)
 else ({r with call:=c,step:=0,acc:=Ac.zero,word:=Wd.zero,clock:=Wd.zero,index:=0,seen:=[],bN:=[]}.opened,true)
def bY (i now:Int):Prop :=
 if r.aj=3 then r.holds i.toNat≠Wd.zero∧(r.holds i.toNat).num=now
 else r.span.is=true∧r.span.high=now
instance (i now:Int):Decidable (r.bY i now):=by unfold bY;exact inferInstance
def bG (x:Rp):RS :=
 let i:=r.call.i
 if r.step=7 then r.load 5 r.call.slot r.call.gen r.call.field
 else if r.step=5 then
  if r.aY then {r with word:=x.word}.era 6
  else if r.aj=2∧x.word.slot≠0∧r.holds i.toNat≠x.word.dz then {r with word:=x.word}.post 7 i x.word.dz
  else {r with word:=x.word}.finish ⟨x.word,true⟩
 else if r.step=6 then
  let now:=x.word.num
  if r.bY i now then r.finish ⟨r.word,true⟩
  else if r.aj=3 then r.post 7 i (Wd.dI now)
  else r.eX 7 ⟨true,if r.span.is=true then r.span.low else now,now⟩
 else r
def eQ (x:Rp):RS :=
 if r.step=9 then {r with word:=x.word}.era 10
 else if r.step=10 then
  let s:={r with clock:=x.word}.note r.word.num x.word.num
  if r.aY then s.advance 11 else s.cK
 else if r.step=11 then r.cK
 else r
def gN (w:Wd):Sp:=if w.mark=true then ⟨true,w.num,w.tag⟩ else Sp.zero
def may (now:Int) (l:List Sp):Bool:=l.all fun s=>!(s.is && s.low != now)
def eY:RS :=
 match r.bN with
 | []=>r.done
 | d :: _=>r.ask 16 ⟨5,0,0,0,d.ref,Wd.zero⟩
def ow (w:Wd) (n:Nt):Bool:=w.slot == n.ref.slot
def qy (e:Int) (n:Nt):Bool:=decide (0<e∧n.aX≤e∧e≤n.dm)
def oz (s:Sp) (n:Nt):Bool:=s.is && decide (s.low≤n.dm∧s.high≥n.aX)
def mM (now:Int) (n:Nt):Bool:=decide (now < -9223372036854775808+2∨n.dm > now-2)
def kept (n:Nt):Bool :=
 if r.aj=2 then r.seen.any fun w=>ow w n
 else if r.aj=3 then r.seen.any fun w=>qy w.num n
 else if r.aj=5 then r.seen.any fun w=>oz (gN w) n
 else if r.aj=4 then mM r.clock.num n
 else true
def dQ:RS :=
 (if 2≤r.aj∧r.aj≤5 then {r with bN:=r.notes.filter fun n=>!r.kept n} else r).eY
def bP (x:Rp):RS :=
 if r.step=12 then (({r with clock:=x.word}:RS).look 0).getD {r with clock:=x.word}
 else if r.step=13 then
  let s:RS:={r with seen:=r.seen ++ [x.word]}
  match s.look (r.index+1) with
  | some t=>t
  | none =>
   if r.aj≠4 then s.dQ
   else if may s.clock.num (s.seen.map gN)=true then s.advance 14
   else s.era 15
 else if r.step=14 then r.era 15
 else if r.step=15 then {r with clock:=x.word}.dQ
 else if r.step=16 then
  match r.bN with
  | []=>r
  | d :: l=>{r with notes:=r.notes.erase d,freed:=r.freed+1,bN:=l}.eY
 else r
def aJ (x:Rp):RS × Bool :=
 if r.step=0 then (r,false)
 else if r.step=1 then (r.finish x,true)
 else if r.step=2 then (r.done,true)
 else if r.step=3 then (r.eX 2 ⟨true,x.word.num,x.word.num⟩,true)
 else if r.step=4 then (r.leave (r.index+1),true)
 else if r.step=8 then (r.ask 1 ⟨4,0,0,0,Wd.zero,Wd.dI x.word.num⟩,true)
 else if r.step=5∨r.step=6∨r.step=7 then (r.bG x,true)
 else if r.step=9∨r.step=10∨r.step=11 then (r.eQ x,true)
 else (r.bP x,true)
end RS
def RS.new (aj me threads most:Int):RS:=⟨Ca.zero,0,Ac.zero,Wd.zero,Wd.zero,0,[],[],aj,me,threads,most,fun _=>Wd.zero,Sp.zero,[],0,⟨Wd.zero,false⟩⟩
end Go.Proofs.YthomdlajobnmnaaDoor
namespace Go.Rex
variable {post:Env→Prop} {cs:List (eH × (Env→Prop) × (Env→Prop))} {Γ:List (Env→Prop)} {ρ:Env}
theorem Sat.ZL {nv:Nat} {fs:List QF} {k:Out} (K:Env→Prop) (hK:∀e,K (ρ.join nv e)) (h:∀q,K q→(∀f∈fs,f.den q)→Sat post cs Γ q k):Sat post cs Γ ρ (.new nv fs k) :=
 fun e hf=>h _ (hK e) hf
theorem Sat.zB {nv:Nat} {b:BE} {k:Out} (K:Env→Prop) (hK:∀e,K (ρ.join nv e)) (h:∀q,K q→b.den q=true→Sat post cs Γ q k):Sat post cs Γ ρ (.new nv [.be b] k) :=
 fun e hf=>h _ (hK e) (hf _ (List.mem_singleton.2 rfl))
theorem Sat.uK {nv:Nat} {σ:Sub} {k:Out} (Inv:Env→Prop) (m:Env→Nat) (K:Env→Prop) (h0:Inv (σ.af ρ)) (hK:∀e,K (ρ.join nv e))
  (h:∀q,K q→Inv q.num→Sat post cs ((fun ρ'=>Inv ρ'∧m ρ'<m q.num) :: Γ) q k):Sat post cs Γ ρ (.loop nv σ k) :=
 ⟨Inv,m,h0,fun e hI=>h _ (hK e) hI⟩
theorem Sat.iF {g:Nat} {σ:Sub} {nv:Nat} {k:Out} {c:eH} {pre post':Env→Prop} (hg:cs[g]?=some (c,pre,post')) (hp:pre (σ.af ρ)) (K:Env→Prop)
  (hK:∀e,post' (aH σ c.nv nv ρ (ρ.join nv e))→K (ρ.join nv e)) (h:∀q,K q→Sat post cs Γ q k):Sat post cs Γ ρ (.call g σ nv k) :=
 ⟨c,pre,post',hg,hp,fun e hq=>h _ (hK e hq)⟩
end Go.Rex
