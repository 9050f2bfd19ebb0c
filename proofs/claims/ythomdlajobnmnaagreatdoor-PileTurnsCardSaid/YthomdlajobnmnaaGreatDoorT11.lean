/- part 11 of the proof -/
import Derived.LaidLaws
import Derived.Stop.LaidErr
import Derived.Test.YthomdlajobnmnaaGreatDoorT10
import Derived.Test.YthomdlajobnmnaaGreatDoorT5
import Derived.Test.YthomdlajobnmnaaGreatDoorT9
set_option linter.unusedSimpArgs false
set_option linter.unusedVariables false
namespace Go.Rex
open Go.RowKit Go.ChangeShapes
abbrev om:=List (String × Nat × List UInt8)
def om.laid (nm:String) (sl:om):List (String × DataW Unit):=sl.map fun x=>(x.1,.iface nm (.ptr (.agg [.lit (.string x.2.2)])))
def om.ss (tp te:TypeId) (sl:om):List (Nat × TypeId × TypeId):=sl.map fun x=>(x.2.1,tp,te)
def om.UO (P:Program) (ti:TypeId) (sl:om):Bool:=sl.all fun x=>(P.globalNamed x.1 == some x.2.1) && ((P.globals[x.2.1]?).map (·.type) == some ti)
section
variable {P:Program} {W:World} {ti tp te ts:TypeId} {nm:String} {ms:Array (String × TypeId)} {f:Field}
theorem xI (hi:P.underlying ti=some (.interface ms)) (hrow:∀u,P.typeName? 3 u=some nm→u=tp)
  (hp:P.underlying tp=some (.pointer te)) (he:P.underlying te=some (.struct #[f])) (hft:f.type=ts) (hfo:f.offset=0) (hs:P.underlying ts=some .string) (hc:P.cellsOf te=1) (hcs:P.cellsOf ts=1) :
  ∀{sl:om} {ps:List MemPlace},DataW.LaidVars P W (sl.laid nm) ps→sl.UO P ti=true →
   (∀b off,MemPlace.cell b off∈ps→∀u v,W.cell? ⟨b,off,none⟩=some (.iface u v)→Value.okWide P W .any 0 u v) →
   ∃aS0:List Addr,p9 W (sl.ss tp te) aS0∧(∀a∈aS0,MemPlace.cell a.block a.off∈ps)∧(ps.Nodup→aS0.Nodup)
 | [],_,_,_,_=>⟨[],trivial,fun a h=>(List.not_mem_nil h).elim,fun _=>List.nodup_nil⟩
 | (n,g,text) :: r,ps,h,hk,hok=>by
  obtain ⟨g0,t0,cs,fuel,p,q,hg0,ht0,hv,hd,hr,rfl⟩:=h
  simp only [om.UO,List.all_cons,Bool.and_eq_true,beq_iff_eq] at hk
  obtain ⟨⟨hg,ht⟩,hk'⟩:=hk
  obtain rfl:=Option.some.inj (hg.symm.trans hg0)
  obtain rfl:=Option.some.inj (ht.symm.trans ht0)
  obtain ⟨l⟩:=cs
  have hok1:∀u v,l=[.iface u v]→Value.okWide P W .any 0 u v:=fun u v e=>by
   subst e
   exact hok g 0 (by simp [MemPlace.row]) u v (by simpa using World.var?_cell hg0 hv 0)
  obtain ⟨a,s,rfl,hca,hs1,hz,rfl⟩:=errorString_of_trod hi hrow hp he hft hfo hs hc hcs hd hok1
  obtain ⟨aS0,h1,h2,h3⟩:=xI hi hrow hp he hft hfo hs hc hcs hr (by simpa [om.UO] using hk') fun b off hm=>hok b off (List.mem_append_right _ hm)
  refine ⟨a :: aS0,⟨by simpa using World.var?_cell hg hv 0,⟨_,hca⟩,h1⟩,?_,?_⟩
  ·intro x hx
   rcases List.mem_cons.1 hx with rfl | hx
   ·simp [MemPlace.row]
   ·exact List.mem_append_right _ (h2 x hx)
  ·intro hn
   have hn2:=(List.nodup_append.1 hn)
   refine List.nodup_cons.2 ⟨fun hm=>?_,h3 hn2.2.1⟩
   exact hn2.2.2 (MemPlace.cell a.block a.off) (by simp [MemPlace.row]) (MemPlace.cell a.block a.off) (h2 a hm) rfl
theorem G8 (hi:P.underlying ti=some (.interface ms)) (hrow:∀u,P.typeName? 3 u=some nm→u=tp)
  (hp:P.underlying tp=some (.pointer te)) (he:P.underlying te=some (.struct #[f])) (hft:f.type=ts) (hfo:f.offset=0) (hs:P.underlying ts=some .string) (hc:P.cellsOf te=1) (hcs:P.cellsOf ts=1)
  {sl:om} (hk:sl.UO P ti=true) (h:laidMet P (sl.laid nm) W) :
  ∃aS0:List Addr,p9 W (sl.ss tp te) aS0∧aS0.Nodup∧∀a∈aS0,∃c t,W.heap[a.block]?=some (.cells c t (0,0)):=by
 obtain ⟨ps,hv,hnd,hrows⟩:=h
 obtain ⟨aS0,h1,h2,h3⟩:=xI hi hrow hp he hft hfo hs hc hcs hv hk fun b off hm=>(hrows b off hm).2
 exact ⟨aS0,h1,h3 hnd,fun a ha=>(hrows _ _ (h2 a ha)).1⟩
end
end Go.Rex
namespace Go.Proofs.YthomdlajobnmnaaGreatDoor
open Go.Rex
def iv (i:Nat):SC:=.int .i64 (.var i)
def kW:List Kd:=[.int .i64,.int .i64,.int .i64,.int .i64,.bool]
def mM (v:Nat):List SC:=[iv v,iv (v+1),iv (v+2),iv (v+3),.bool (.var (v+4))]
def EY (v:Nat):List SC:=[iv v,iv (v+1),iv (v+2),iv (v+3)] ++ mM (v+4) ++ mM (v+9)
def uT (v:Nat):List SC:=mM v ++ [.bool (.var (v+5))]
def Ns (n m:IE) (w b:Nat):SB:={t:=97,cs:=[.sl {aD:=b+1,i1:=.lit 0,s1:=5} n n,.sl {aD:=b+2,i1:=.lit 0,s1:=52} m m,.eY (.var w) {aD:=b+3,i1:=.lit 0,s1:=1} (.var (w+1)) (.var (w+2)),iv (w+3),iv (w+4),.iB (.var (w+5)) (.iface 161 (.ptr {aD:=b+4}))],own:=true}
def JC (n:IE) (w:Nat):SB:={t:=79,aV:=[{r:=w+6,n1:=n,s1:=5,ks:=kW}],own:=true,cap:=some (n,5)}
def JD (m:IE) (w:Nat):SB:={t:=140,aV:=[{r:=w+7,n1:=m,s1:=52,ks:=[.int .i64,.bool]},{r:=w+8,n1:=m,s1:=52,n2:=10,s2:=5,lo:=2,ks:=kW}],own:=true,cap:=some (m,52)}
def Nu (w:Nat):SB:={t:=3,aV:=[{r:=w+9,n1:=.var (w+1),s1:=1,ks:=[.int .i64]}],own:=true,cap:=some (.var (w+2),1),nl:=.var w}
def PV (v w b:Nat):List SB:=[Ns (.var v) (.var (v+1)) w b,JC (.var v) w,JD (.var (v+1)) w,Nu w,eG]
def V6 (v w b c:Nat):List SB:=[{Ns (.var v) (.var (v+1)) w b with cs:=[.sl {aD:=b+1,i1:=.lit 0,s1:=5} (.var v) (.var v),.sl {aD:=b+2,i1:=.lit 0,s1:=52} (.var (v+1)) (.var (v+1)),.eY (.var w) {aD:=c,i1:=.lit 0,s1:=1} (.var (w+1)) (.var (w+2)),iv (w+3),iv (w+4),.iB (.var (w+5)) (.iface 161 (.ptr {aD:=c+1}))]},JC (.var v) w,JD (.var (v+1)) w,eG,eG,Nu w,eG]
def JE:List (Nat × TypeId × TypeId):=[(0,224,249),(5,224,249),(7,224,249),(6,224,249)]
def mW:dX:={f:=32,nv:=26,gl:=gI JE 0,args:=[.one (.ptr {aD:=8}),.agg (EY 0)],hp:=jd 36 JE 0 ++ PV 14 16 8,jc:=43,ret:=.gZ [.agg (uT 26),.one (.iB (.var 32) (.iface 224 (.ptr {aD:=1})))],hp':=List.replicate 8 eG ++ V6 14 33 8 13}
def oo:dX:={f:=16,nv:=2,args:=[.one (iv 0),.one (iv 1)],hp:=[],jc:=12,ret:=.gZ [.one (.ptr {aD:=0}),.one .df],hp':=[Ns (.var 1) (.var 0) 2 0,JC (.var 1) 2,JD (.var 0) 2,Nu 2,eG]}
def L13:iC:={f:=16,p:=[1,1,1,0,1,0],xD:=[(7,.au)],kill:=[30,31,34,35,36,37,38,39,40,41,42,43,32,33],deep:=[6],Zv:=161}
def kN:List Kd:=[.int .i64,.int .i64,.int .i64,.int .i64,.bool,.int .i64,.int .i64]
def UQ (nl:Nat) (b s:Nat):SC:=.eY (.var nl) {aD:=b,i1:=.lit 0,s1:=s} (.var (nl+1)) (.var (nl+2))
def slO (nl o:Nat) (b s:Nat):SC:=.eY (.var nl) {aD:=b,i1:=.var o,s1:=s} (.var (nl+1)) (.var (nl+2))
def zX (v:Nat):List SC:=[iv v,iv (v+1),iv (v+2),iv (v+3)] ++ mM (v+4) ++ mM (v+9) ++ [iv (v+14),iv (v+15),iv (v+16),iv (v+17)]
def UR (s v b:Nat):SB:={t:=151,cs:=zX v ++ [iv (v+18)] ++ EY (v+19) ++ mM (v+33) ++ mM (v+38) ++ [iv (v+43),UQ (v+44) b 5,slO (v+47) (v+65) (b+1) 7,iv s,iv (s+1),iv (s+2),iv (s+3)] ++ List.replicate 45 .hole ++ [.bool (.var (v+51)),iv (v+52),iv (v+53),UQ (v+54) (b+2) 7,iv (v+57)] ++ uT (v+58),aV:=[{r:=v+50,n1:=.lit 9,s1:=5,lo:=50,ks:=kW}],own:=true}
def X7 (t:Nat) (ks:List Kd) (nl r:Nat):SB:={t:=t,aV:=[{r:=r,n1:=.var (nl+1),s1:=ks.length,ks:=ks}],own:=true,cap:=some (.var (nl+2),ks.length),nl:=.var nl}
def UT (v:Nat):SB:=X7 79 kW (v+44) (v+64)
def UU (v:Nat):SB:={t:=207,aV:=[{r:=v+65,n1:=.var (v+66),s1:=7,ks:=kN}],own:=true,nl:=.var (v+47)}
def UW (v:Nat):SB:=X7 207 kN (v+54) (v+66)
def JF (s v b:Nat):List SB:=[UR s v (b+1),UT v,UU v,UW v]
def V7 (s v:Nat) (c:Nat):List SB:=[UR s v c,eG,eG,eG,UT v,UU v,UW v]
def mD (f k:Nat) (args:List SW) (ret:SV):dX:={f:=f,nv:=71+k,args:=.one (.ptr {aD:=0}) :: args,hp:=JF 0 4 0,jc:=138+k,ret:=ret,hp':=V7 0 (71+k) 4}
def fT:dX:={f:=141,nv:=2,args:=[.one (iv 0),.one (iv 1)],hp:=[],jc:=2,ret:=.gZ [.agg [.int .i64 (.lit 0),.int .i64 (.lit 0),.int .i64 (.add (.add (.lit 25) (.mul (.var 0) (.lit 9))) (.var 1))],.one .df],hp':=[]}
def gG:dX:={f:=113,nv:=1,args:=[.one (iv 0)],hp:=[],jc:=1,ret:=.gZ [.agg [.int .i64 (.lit 0),.int .i64 (.lit 0),.int .i64 (.add (.lit 79) (.var 0))],.one .df],hp':=[]}
def oq:SV:=.gZ []
def iw:dX:=mD 72 1 [.one (iv 71)] oq
def fU:dX:=mD 124 0 [] oq
def iK:dX:={mD 118 1 [.one (iv 71)] (.w (.one (.bool (.var 139)))) with jc:=140}
def ja:dX:=mD 112 0 [] oq
def iZ:dX:=mD 111 0 [] oq
def kY:dX:=mD 68 0 [] oq
def iy:dX:=mD 117 0 [] oq
def jw:dX:=mD 115 2 [.one (iv 71),.one (iv 72)] oq
def HY:SW:=.agg (uT 71)
def iO:dX:=mD 75 6 [HY] oq
def jy:dX:=mD 76 6 [HY] oq
def fE:dX:=mD 77 6 [HY] oq
def jA:dX:=mD 119 0 [] oq
def mf:dX:=mD 40 6 [HY] (.w (.one .df))
def kz:dX:=mD 37 18 [.agg (zX 71)] (.w (.one .df))
def rX (t:Nat) (ks:List Kd) (v:Nat):SB:={t:=t,aV:=[{r:=v+3,n1:=.var (v+1),s1:=ks.length,ks:=ks}],cap:=some (.var (v+2),ks.length),own:=true,nl:=.var v}
def nG:dX:={f:=34,nv:=4,args:=[.one (iv 0),.one (iv 1),.one (iv 2),.one (iv 3)],hp:=[],jc:=71,ret:=.gZ [.one (.ptr {aD:=0}),.one .df],hp':=JF 0 4 0}
def kC (ks:List Kd) (nl b:Nat):SW:=.one (UQ nl b ks.length)
def D6 (t:Nat) (ks:List Kd) (v:Nat):SB:={t:=t,aV:=[{r:=v+3,n1:=.var (v+1),s1:=ks.length,ks:=ks}],ro:=true,nl:=.var v}
def kI:List Kd:=[.int .i64]
def kS:List Kd:=[.bool,.int .i64,.int .i64]
def kD:dX:={f:=143,nv:=8,args:=[kC kN 0 0,kC kW 4 1],hp:=[D6 207 kN 0,D6 79 kW 4],jc:=16,ret:=.gZ [kC kN 8 2,kC kN 12 3],hp':=[eG,eG,rX 207 kN 8,rX 207 kN 12]}
def mg:dX:={f:=144,nv:=8,args:=[kC kN 0 0,kC kI 4 1],hp:=[D6 207 kN 0,D6 3 kI 4],jc:=16,ret:=.gZ [kC kN 8 2,kC kN 12 3],hp':=[eG,eG,rX 207 kN 8,rX 207 kN 12]}
def kE:dX:={f:=145,nv:=8,args:=[kC kN 0 0,kC kS 4 1],hp:=[D6 207 kN 0,D6 149 kS 4],jc:=16,ret:=.gZ [kC kN 8 2,kC kN 12 3],hp':=[eG,eG,rX 207 kN 8,rX 207 kN 12]}
def jH:dX:={f:=146,nv:=8,args:=[kC kN 0 0,.one (iv 4)],hp:=[D6 207 kN 0],jc:=16,ret:=.gZ [kC kN 8 1,kC kN 12 2],hp':=[eG,rX 207 kN 8,rX 207 kN 12]}
def lK:dX:={f:=120,nv:=5,args:=[.one (iv 0),kC kS 1 0],hp:=[D6 149 kS 1],jc:=6,ret:=.w (.one (.bool (.var 5))),hp':=[eG]}
def V8 (v:Nat):List SC:=mM v ++ [iv (v+5),iv (v+6)]
def je:dX:={f:=122,nv:=11,args:=[kC kN 0 0,.agg (V8 4)],hp:=[D6 207 kN 0],jc:=12,ret:=.w (.one (iv 11)),hp':=[eG]}
def eU:dX:={f:=123,nv:=6,args:=[kC kN 0 0,.one (iv 4),.one (iv 5)],hp:=[rX 207 kN 0],jc:=7,ret:=.w (.one (.eY (.var 0) {aD:=0,i1:=.lit 0,s1:=7} (.sub (.var 1) (.lit 1)) (.var 2))),hp':=[{t:=207,aV:=[{r:=6,n1:=.sub (.var 1) (.lit 1),s1:=7,ks:=kN}],cap:=some (.var 2,7),own:=true,nl:=.var 0}]}
def X8:iC:={f:=72,p:=[1,0,1,0,1,0],xD:=[(4,.au)],kill:=[21,22,25,26,27,28,29,30,31,32,33,34,35,36,37,38,39,40,41,23,24]}
def Y9:iC:={f:=119,p:=[0,1,0,1,1,1,0,1,0,1,0],xD:=[(2,.eY 3),(36,.au)],kill:=[37,38,39,4,40,41,42,43,44,45]}
def PW:iC:={f:=121,p:=[1,1,0,1,0],xD:=[(3,.eY 149),(12,.au)],kill:=[13,14,15,5,16,17,18,19,20,21]}
def Nv:iC:={f:=148,p:=[1,0,1,0],xD:=[(4,.eY 207),(5,.eY 207),(10,.au)],kill:=[11,12,13,7,14,15,16,17,18,19,20,21,22,23,24,25]}
def X9:iC:={f:=149,p:=[1,0,1,0],xD:=[(8,.au)],kill:=[9,10,11,5,12,13,14,15,16,17,3,18]}
def Za:iC:={f:=150,p:=[1,0,1,0],xD:=[(8,.au)],kill:=[9,10,11,5,12,13,14,15,16,17,18,19,20,21,22,23,24,25,3,26]}
def V9:iC:={f:=151,p:=[1,0,1,0],xD:=[(8,.au)],kill:=[9,10,11,5,12,13,14,15,16,17,18,19,20,21,22,23,24,25,26,27,3,28]}
def Ya:iC:={f:=122,p:=[1,0,1,0],xD:=[(8,.au)],kill:=[9,10,5,11,12,13,14,15,16,17,4,18]}
def aaI:iC:={f:=120,p:=[1,0,1,0],xD:=[(9,.au)],kill:=[10,11,12,6,13,14,15,16,17,18,19,20,4,21]}
def yW:List Kd:=[.int .i64,.int .i64,.int .i64,.int .i64,.bool]
def yN:List Kd:=[.int .i64,.int .i64,.int .i64,.int .i64,.bool,.int .i64,.int .i64]
def yI:List Kd:=[.int .i64]
def yB:List Kd:=[.int .i64,.bool]
abbrev yv (n:Nat):IE:=.var n
abbrev yw (n:Nat):BE:=.var n
def yo (l r:List (Nat × IE)):List (Nat × IE):=l ++ r
def yr (a b:Nat):Nat→List (Nat × IE)→List (Nat × IE)
  | 0,r=>r
  | n+1,r=>(a,.var b) :: yr (a-1) (b-1) n r
abbrev yb (n:Nat):SA:={aD:=n}
abbrev yc (n s:Nat):SA:={aD:=n,i1:=.lit 0,s1:=s}
abbrev yu (r n s:Nat) (k:List Kd) (g:Nat):CV:=.up {r:=r,n1:=.var n,s1:=s,ks:=k} g [] (.lit 0)
abbrev yl (r:Nat) (n:Int) (s l:Nat) (k:List Kd) (g:Nat):CV:=.up {r:=r,n1:=.lit n,s1:=s,lo:=l,ks:=k} g [] (.lit 0)
theorem Da:type_of% (And.intro @D.le (And.intro @D.gp (And.intro @D.lt (And.intro @D.gq (And.intro @D.eq (And.intro @D.gz (And.intro @D.not (And.intro @D.dN (And.intro @D.and (And.intro @D.dO (And.intro @D.or (And.intro @D.gB (And.intro @D.inr (And.intro @D.var (And.intro @D.lit (And.intro @D.cz (And.intro @D.beq (And.intro @D.dP (And.intro @D.dQ (And.intro @D.dR (And.intro @D.add (And.intro @D.sub (And.intro @D.mul (And.intro @D.min (And.intro @D.max (And.intro @D.cB (And.intro @D.bN (And.intro @D.bO (@Int.toNat_zero))))))))))))))))))))))))))))):=And.intro @D.le (And.intro @D.gp (And.intro @D.lt (And.intro @D.gq (And.intro @D.eq (And.intro @D.gz (And.intro @D.not (And.intro @D.dN (And.intro @D.and (And.intro @D.dO (And.intro @D.or (And.intro @D.gB (And.intro @D.inr (And.intro @D.var (And.intro @D.lit (And.intro @D.cz (And.intro @D.beq (And.intro @D.dP (And.intro @D.dQ (And.intro @D.dR (And.intro @D.add (And.intro @D.sub (And.intro @D.mul (And.intro @D.min (And.intro @D.max (And.intro @D.cB (And.intro @D.bN (And.intro @D.bO (@Int.toNat_zero))))))))))))))))))))))))))))
structure Wd where
 slot:Int
 gen:Int
 tag:Int
 num:Int
 mark:Bool
 deriving DecidableEq
def Wd.zero:Wd:=⟨0,0,0,0,false⟩
structure Ac where
 kind:Int
 slot:Int
 gen:Int
 field:Int
 old:Wd
 new:Wd
structure Rp where
 word:Wd
 ok:Bool
 deriving DecidableEq
structure PS where
 nb:Int
 ns:Int
 nf:Int
 steps:Int
 made:Int
 dF:Bool
 bd:Nat→Wd
 gen:Nat→Int
 used:Nat→Bool
 cell:Nat→Nat→Wd
 fr:Nat→Int
def PS.is (p:PS) (n:Int):Prop:=1≤n∧n≤p.ns
instance (p:PS) (n:Int):Decidable (p.is n):=by unfold PS.is;exact inferInstance
def PS.has (p:PS) (slot gen field:Int):Prop:=if slot=0 then gen=0∧0≤field∧field<p.nb else p.is slot∧0≤field∧field<10
instance (p:PS) (s g f:Int):Decidable (p.has s g f):=by unfold PS.has;exact inferInstance
def PS.valid (p:PS) (a:Ac):Prop :=
 if a.kind=1∨a.kind=2∨a.kind=3 then p.has a.slot a.gen a.field else if a.kind=4 then True else if a.kind=5 then p.is a.old.slot else False
instance (p:PS) (a:Ac):Decidable (p.valid a):=by unfold PS.valid;exact inferInstance
def PS.live (p:PS) (slot gen:Int):Prop:=slot=0∨(p.used (slot-1).toNat=true∧p.gen (slot-1).toNat=gen)
instance (p:PS) (s g:Int):Decidable (p.live s g):=by unfold PS.live;exact inferInstance
def PS.right (p:PS) (a:Ac):Prop:=if a.kind=4 then True else if a.kind=5 then p.live a.old.slot a.old.gen else p.live a.slot a.gen
instance (p:PS) (a:Ac):Decidable (p.right a):=by unfold PS.right;exact inferInstance
def PS.at (p:PS) (slot field:Int):Wd:=if slot=0 then p.bd field.toNat else p.cell (slot-1).toNat field.toNat
def PS.put (p:PS) (slot field:Int) (w:Wd):PS :=
 if slot=0 then {p with bd:=fun i=>if i=field.toNat then w else p.bd i}
 else {p with cell:=fun i k=>if i=(slot-1).toNat∧k=field.toNat then w else p.cell i k}
def iD (a b:Wd):Prop:=a.slot=b.slot∧a.tag=b.tag∧a.num=b.num∧a.mark=b.mark
instance (a b:Wd):Decidable (iD a b):=by unfold iD;exact inferInstance
def Rp.no:Rp:=⟨Wd.zero,false⟩
def nH (jS:Int) (k:Nat):Wd:=if k=9 then {Wd.zero with num:=jS} else Wd.zero
def PS.alloc (p:PS) (jS:Int):PS × Rp :=
 if p.nf=0 then (p,Rp.no) else
  let n:=p.fr (p.nf-1).toNat
  let g:=p.gen (n-1).toNat+1
  ({p with nf:=p.nf-1,made:=p.made+1,gen:=fun i=>if i=(n-1).toNat then g else p.gen i,used:=fun i=>if i=(n-1).toNat then true else p.used i,
            cell:=fun i k=>if i=(n-1).toNat∧k<10 then nH jS k else p.cell i k},⟨⟨n,g,0,0,false⟩,true⟩)
def PS.free (p:PS) (n:Int):PS:={p with used:=fun i=>if i=(n-1).toNat then false else p.used i,fr:=fun i=>if i=p.nf.toNat then n else p.fr i,nf:=p.nf+1}
def fu (kind:Int):Rp:=if kind=1∨kind=3 then ⟨{Wd.zero with num:=-1},false⟩ else Rp.no
def PS.makes (p:PS) (a:Ac):PS × Rp :=
 if a.kind=4 then p.alloc a.new.num else
 if a.kind=5 then (p.free a.old.slot,⟨Wd.zero,true⟩) else
 if a.kind=1 then (p,⟨p.at a.slot a.field,true⟩) else
 if a.kind=2 then (p.put a.slot a.field a.new,⟨Wd.zero,true⟩) else
 if iD (p.at a.slot a.field) a.old then (p.put a.slot a.field a.new,⟨p.at a.slot a.field,true⟩) else (p,⟨p.at a.slot a.field,false⟩)
def PS.act (p:PS) (a:Ac):PS × Option Rp :=
 if p.valid a then
  if p.right a then
   let r:=PS.makes {p with steps:=p.steps+1} a
   (r.1,some r.2)
  else ({p with steps:=p.steps+1,dF:=false},some (fu a.kind))
 else (p,none)
def iV (u:Nat→Bool):Nat→Nat
 | 0=>0
 | n+1=>iV u n+if u n then 1 else 0
theorem qL {u v:Nat→Bool}:∀{n:Nat},(∀i,i<n→u i=v i)→iV u n=iV v n
 | 0,_=>rfl
 | n+1,h=>by simp only [iV,qL fun i hi=>h i (Nat.lt_succ_of_lt hi),h n (Nat.lt_succ_self n)]
theorem JG {u:Nat→Bool} {k:Nat}:∀{n:Nat},k<n→u k=false→iV (fun i=>if i=k then true else u i) n=iV u n+1
 | n+1,h,hu=>by
  simp only [iV]
  by_cases hk:k=n
  ·subst hk
   rw [qL (v:=u) fun i hi=>(if_neg (by omega))]
   simp [hu]
  ·have e:(if n=k then true else u n)=u n:=if_neg fun e=>hk e.symm
   simp only [JG (show k<n by omega) hu,e]
   omega
theorem Gw {u:Nat→Bool} {k:Nat}:∀{n:Nat},k<n→u k=true→iV (fun i=>if i=k then false else u i) n+1=iV u n
 | n+1,h,hu=>by
  simp only [iV]
  by_cases hk:k=n
  ·subst hk
   rw [qL (v:=u) fun i hi=>(if_neg (by omega))]
   simp [hu]
  ·have:=Gw (n:=n) (by omega) hu
   have e:(if n=k then false else u n)=u n:=if_neg fun e=>hk e.symm
   simp only [e]
   omega
theorem Sl (u:Nat→Bool):∀n,iV u n≤n
 | 0=>Nat.le_refl _
 | n+1=>by
  have:=Sl u n
  simp only [iV]
  split <;> omega
theorem D7:∀n,iV (fun _=>false) n=0
 | 0=>rfl
 | n+1=>by simp [iV,D7 n]
structure PS.OK (p:PS):Prop where
 nb:0≤p.nb∧p.nb≤200
 ns:0≤p.ns∧p.ns≤1024
 nf:0≤p.nf
 made:0≤p.made∧p.made≤p.steps
 gen:∀i:Nat,0≤p.gen i∧p.gen i≤p.made
 fr:∀i:Nat,(i:Int)<p.nf→1≤p.fr i∧p.fr i≤p.ns∧p.used (p.fr i-1).toNat=false
 one:∀i j:Nat,i<j→(j:Int)<p.nf→p.fr i≠p.fr j
 cnt:(iV p.used p.ns.toNat:Int)+p.nf=p.ns
theorem PS.OK.We {p:PS} (h:p.OK):({p with steps:=p.steps+1}:PS).OK:=⟨h.nb,h.ns,h.nf,⟨h.made.1,by have:=h.made.2;show p.made≤p.steps+1;omega⟩,h.gen,h.fr,h.one,h.cnt⟩
theorem PS.OK.bad {p:PS} (h:p.OK):({p with steps:=p.steps+1,dF:=false}:PS).OK:=⟨h.nb,h.ns,h.nf,⟨h.made.1,by have:=h.made.2;show p.made≤p.steps+1;omega⟩,h.gen,h.fr,h.one,h.cnt⟩
theorem PS.OK.put {p:PS} (h:p.OK) (s f:Int) (w:Wd):(p.put s f w).OK:=by
 unfold PS.put
 split <;> exact ⟨h.nb,h.ns,h.nf,h.made,h.gen,h.fr,h.one,h.cnt⟩
theorem PS.OK.alloc {p:PS} (h:p.OK) (hm:p.made<p.steps) (b:Int):(p.alloc b).1.OK:=by
 unfold PS.alloc
 split
 ·exact h
 ·rename_i h0
  have h1:=h.nf
  obtain ⟨f1,f2,f3⟩:=h.fr (p.nf-1).toNat (by omega)
  have h2:=h.made
  refine ⟨h.nb,h.ns,by show 0≤p.nf-1;omega,⟨by show 0≤p.made+1;omega,by show p.made+1≤p.steps;omega⟩,fun i=>?_,fun i hi=>?_,fun i j hi hj=>?_,?_⟩
  ·show 0≤(if i=_ then _ else _)∧(if i=_ then _ else _)≤p.made+1
   have g:=h.gen i
   have g2:=h.gen (p.fr (p.nf-1).toNat-1).toNat
   split <;> omega
  ·replace hi:(i:Int)<p.nf-1:=hi
   obtain ⟨e1,e2,e3⟩:=h.fr i (by omega)
   refine ⟨e1,e2,?_⟩
   show (if (p.fr i-1).toNat=_ then true else _)=false
   have:=h.one i (p.nf-1).toNat (by omega) (by omega)
   rw [if_neg (by omega)]
   exact e3
  ·exact h.one i j hi (by have:(j:Int)<p.nf-1:=hj;omega)
  ·have:=JG (u:=p.used) (n:=p.ns.toNat) (k:=(p.fr (p.nf-1).toNat-1).toNat) (by omega) f3
   have h3:=h.cnt
   show ((iV (fun i=>if i=_ then true else p.used i) p.ns.toNat:Nat):Int)+(p.nf-1)=p.ns
   omega
theorem PS.OK.free {p:PS} (h:p.OK) {n:Int} (hn:p.is n) (hu:p.used (n-1).toNat=true):(p.free n).OK:=by
 obtain ⟨n1,n2⟩:=hn
 have h1:=h.nf
 refine ⟨h.nb,h.ns,by show 0≤p.nf+1;omega,h.made,h.gen,fun i hi=>?_,fun i j hi hj=>?_,?_⟩
 ·replace hi:(i:Int)<p.nf+1:=hi
  show 1≤(if i=p.nf.toNat then n else p.fr i)∧(if i=p.nf.toNat then n else p.fr i)≤p.ns∧(if ((if i=p.nf.toNat then n else p.fr i)-1).toNat=(n-1).toNat then false else p.used ((if i=p.nf.toNat then n else p.fr i)-1).toNat)=false
  by_cases hx:i=p.nf.toNat
  ·simp only [if_pos hx]
   exact ⟨n1,n2,by simp⟩
  ·simp only [if_neg hx]
   obtain ⟨e1,e2,e3⟩:=h.fr i (by omega)
   refine ⟨e1,e2,?_⟩
   split
   ·rfl
   ·exact e3
 ·replace hj:(j:Int)<p.nf+1:=hj
  show (if i=p.nf.toNat then n else p.fr i)≠(if j=p.nf.toNat then n else p.fr j)
  rw [if_neg (by omega)]
  by_cases hx:j=p.nf.toNat
  ·rw [if_pos hx]
   intro he
   obtain ⟨e1,e2,e3⟩:=h.fr i (by omega)
   rw [he,hu] at e3
   cases e3
  ·rw [if_neg hx]
   exact h.one i j hi (by omega)
 ·have:=Gw (u:=p.used) (n:=p.ns.toNat) (k:=(n-1).toNat) (by omega) hu
  have h3:=h.cnt
  show ((iV (fun i=>if i=_ then false else p.used i) p.ns.toNat:Nat):Int)+(p.nf+1)=p.ns
  omega
theorem PS.OK.act {p:PS} (h:p.OK) (a:Ac):(p.act a).1.OK:=by
 unfold PS.act
 split
 ·rename_i hv
  split
  ·rename_i hr
   have hs:=h.We
   show (PS.makes {p with steps:=p.steps+1} a).1.OK
   unfold PS.makes
   split
   ·exact hs.alloc (by have:=h.made.2;show p.made<p.steps+1;omega) _
   split
   ·rename_i h4 h5
    have hv':p.is a.old.slot:=by
     unfold PS.valid at hv
     rw [if_neg (by omega),if_neg h4,if_pos h5] at hv
     exact hv
    have hr':p.live a.old.slot a.old.gen:=by
     unfold PS.right at hr
     rw [if_neg h4,if_pos h5] at hr
     exact hr
    have hne:a.old.slot≠0:=by have:=hv'.1;omega
    exact hs.free hv' (by
      rcases hr' with h | h
      · exact absurd h hne
      · exact h.1)
   split
   ·exact hs
   split
   ·exact hs.put _ _ _
   split
   ·exact hs.put _ _ _
   ·exact hs
  ·exact h.bad
 ·exact h
deriving instance DecidableEq for Ac
structure Ca where
 kind:Int
 slot:Int
 gen:Int
 field:Int
 old:Wd
 new:Wd
 i:Int
 j:Int
 code:Int
 val:Int
 deriving DecidableEq
structure Nt where
 ref:Wd
 jS:Int
 kF:Int
 deriving DecidableEq
structure Sp where
 is:Bool
 low:Int
 high:Int
 deriving DecidableEq
def Ac.zero:Ac:=⟨0,0,0,0,Wd.zero,Wd.zero⟩
def Ca.zero:Ca:=⟨0,0,0,0,Wd.zero,Wd.zero,0,0,0,0⟩
def Sp.zero:Sp:=⟨false,0,0⟩
def Wd.dK (n:Int):Wd:=⟨0,0,0,n,false⟩
def Wd.dS (w:Wd):Wd:=⟨w.slot,w.gen,0,0,false⟩
structure RS where
 call:Ca
 step:Int
 acc:Ac
 word:Wd
 clock:Wd
 index:Int
 seen:List Wd
 bG:List Nt
 av:Int
 me:Int
 threads:Int
 most:Int
 holds:Nat→Wd
 span:Sp
 notes:List Nt
 freed:Int
 bT:Rp
namespace RS
variable (r:RS)
def bI:Prop:=r.av=2∨r.av=3
def bJ:Prop:=r.av=3∨r.av=5
def bW:Prop:=r.av=4∨r.av=5
instance:Decidable r.bI:=by unfold bI;exact inferInstance
instance:Decidable r.bJ:=by unfold bJ;exact inferInstance
instance:Decidable r.bW:=by unfold bW;exact inferInstance
def ask (step:Int) (a:Ac):RS:={r with step:=step,acc:=a}
def load (step slot gen field:Int):RS:=r.ask step ⟨1,slot,gen,field,Wd.zero,Wd.zero⟩
def era (step:Int):RS:=r.load step 0 0 24
def advance (step:Int):RS:=r.ask step ⟨3,0,0,24,r.clock,⟨0,0,r.clock.tag+1,r.clock.num+1,false⟩⟩
def hold (n:Int) (w:Wd):RS:={r with holds:=fun i=>if i=n.toNat then w else r.holds i}
def post (step n:Int) (w:Wd):RS:=(r.hold n w).ask step ⟨2,0,0,25+r.me * 9+n,Wd.zero,w⟩
def qM (s:Sp):Wd:=if s.is=true then ⟨0,0,s.high,s.low,true⟩ else Wd.zero
def eB (step:Int) (s:Sp):RS:={r with span:=s}.ask step ⟨2,0,0,79+r.me,Wd.zero,qM s⟩
def finish (x:Rp):RS:={r with call:=Ca.zero,step:=0,acc:=Ac.zero,word:=Wd.zero,clock:=Wd.zero,index:=0,seen:=[],bG:=[],bT:=x}
def done:RS:=r.finish ⟨Wd.zero,true⟩
def first (h:Nat→Wd) (n:Nat):Nat→Option Nat
 | 0=>none
 | k+1=>if h n≠Wd.zero then some n else first h (n+1) k
def leave (start:Int):RS :=
 if r.bW∧r.span≠Sp.zero then r.eB 2 Sp.zero
 else if r.bI then
  match first r.holds start.toNat (9-start.toNat) with
  | some n=>{r with index:=n}.post 4 n Wd.zero
  | none=>r.done
 else r.done
def look (n:Int):Option RS :=
 if r.bI then
  if n≥r.threads * 9 then none else some ({r with index:=n}.load 13 0 0 (25+n))
 else if n≥r.threads then none else some ({r with index:=n}.load 13 0 0 (79+n))
def scan:RS :=
 if r.av=1 then r.done
 else if r.av=4 then r.era 12
 else (r.look 0).getD r
def note (jS kF:Int):RS:={r with notes:=r.notes ++ [⟨r.call.old.dS,jS,kF⟩]}
def dC:RS:=if r.notes.length≥r.most then r.scan else r.done
def fH:RS :=
 if r.av=2 then (r.note 0 0).dC
 else if r.av=4 then r.era 10
 else if r.av=3∨r.av=5 then r.load 9 r.call.old.slot r.call.old.gen 9
 else r.done
def opened:RS :=
 let c:=r.call
 if c.kind=1 then (if r.bW then r.era 3 else r.done)
 else if c.kind=2 then r.leave 0
 else if c.kind=3 then r.load 1 c.slot c.gen c.field
 else if c.kind=4 then r.ask 1 ⟨2,c.slot,c.gen,c.field,c.old,c.new⟩
 else if c.kind=5 then r.ask 1 ⟨3,c.slot,c.gen,c.field,c.old,c.new⟩
 else if c.kind=6 then r.load 5 c.slot c.gen c.field
 else if c.kind=7 then (if r.bI∧r.holds c.i.toNat≠r.holds c.j.toNat then r.post 2 c.i (r.holds c.j.toNat) else r.done)
 else if c.kind=8 then (if r.bJ then r.era 8 else r.ask 1 ⟨4,0,0,0,Wd.zero,Wd.zero⟩)
 else if c.kind=9 then r.ask 2 ⟨5,0,0,0,c.old,Wd.zero⟩
 else if c.kind=10 then r.fH
 else if c.kind=11 then r.scan
 else r
def begin (c:Ca):RS × Bool :=
 if r.step≠0 then (r,false)
 else if c.kind<1∨c.kind > 11 then (r,false)
 else if (c.kind=6∨c.kind=7)∧(c.i<0∨c.i≥9∨c.j<0∨c.j≥9) then (r,false)
 else ({r with call:=c,step:=0,acc:=Ac.zero,word:=Wd.zero,clock:=Wd.zero,index:=0,seen:=[],bG:=[]}.opened,true)
def dE (i now:Int):Prop :=
 if r.av=3 then r.holds i.toNat≠Wd.zero∧(r.holds i.toNat).num=now
 else r.span.is=true∧r.span.high=now
instance (i now:Int):Decidable (r.dE i now):=by unfold dE;exact inferInstance
def bA (x:Rp):RS :=
 let i:=r.call.i
 if r.step=7 then r.load 5 r.call.slot r.call.gen r.call.field
 else if r.step=5 then
  if r.bJ then {r with word:=x.word}.era 6
  else if r.av=2∧x.word.slot≠0∧r.holds i.toNat≠x.word.dS then {r with word:=x.word}.post 7 i x.word.dS
  else {r with word:=x.word}.finish ⟨x.word,true⟩
 else if r.step=6 then
  let now:=x.word.num
  if r.dE i now then r.finish ⟨r.word,true⟩
  else if r.av=3 then r.post 7 i (Wd.dK now)
  else r.eB 7 ⟨true,if r.span.is=true then r.span.low else now,now⟩
 else r
def dZ (x:Rp):RS :=
 if r.step=9 then {r with word:=x.word}.era 10
 else if r.step=10 then
  let s:={r with clock:=x.word}.note r.word.num x.word.num
  if r.bJ then s.advance 11 else s.dC
 else if r.step=11 then r.dC
 else r
def jP (w:Wd):Sp:=if w.mark=true then ⟨true,w.num,w.tag⟩ else Sp.zero
def may (now:Int) (l:List Sp):Bool:=l.all fun s=>!(s.is && s.low != now)
def ed:RS :=
 match r.bG with
 | []=>r.done
 | d :: _=>r.ask 16 ⟨5,0,0,0,d.ref,Wd.zero⟩
def wI (w:Wd) (n:Nt):Bool:=w.slot == n.ref.slot
def uU (e:Int) (n:Nt):Bool:=decide (0<e∧n.jS≤e∧e≤n.kF)
def rY (s:Sp) (n:Nt):Bool:=s.is && decide (s.low≤n.kF∧s.high≥n.jS)
def qa (now:Int) (n:Nt):Bool:=decide (now < -9223372036854775808+2∨n.kF > now-2)
def kept (n:Nt):Bool :=
 if r.av=2 then r.seen.any fun w=>wI w n
 else if r.av=3 then r.seen.any fun w=>uU w.num n
 else if r.av=5 then r.seen.any fun w=>rY (jP w) n
 else if r.av=4 then qa r.clock.num n
 else true
def fV:RS :=
 (if 2≤r.av∧r.av≤5 then {r with bG:=r.notes.filter fun n=>!r.kept n} else r).ed
def bK (x:Rp):RS :=
 if r.step=12 then (({r with clock:=x.word}:RS).look 0).getD {r with clock:=x.word}
 else if r.step=13 then
  let s:RS:={r with seen:=r.seen ++ [x.word]}
  match s.look (r.index+1) with
  | some t=>t
  | none =>
   if r.av≠4 then s.fV
   else if may s.clock.num (s.seen.map jP)=true then s.advance 14
   else s.era 15
 else if r.step=14 then r.era 15
 else if r.step=15 then {r with clock:=x.word}.fV
 else if r.step=16 then
  match r.bG with
  | []=>r
  | d :: l=>{r with notes:=r.notes.erase d,freed:=r.freed+1,bG:=l}.ed
 else r
def bL (x:Rp):RS × Bool :=
 if r.step=0 then (r,false)
 else if r.step=1 then (r.finish x,true)
 else if r.step=2 then (r.done,true)
 else if r.step=3 then (r.eB 2 ⟨true,x.word.num,x.word.num⟩,true)
 else if r.step=4 then (r.leave (r.index+1),true)
 else if r.step=8 then (r.ask 1 ⟨4,0,0,0,Wd.zero,Wd.dK x.word.num⟩,true)
 else if r.step=5∨r.step=6∨r.step=7 then (r.bA x,true)
 else if r.step=9∨r.step=10∨r.step=11 then (r.dZ x,true)
 else (r.bK x,true)
end RS
def RS.new (av me threads most:Int):RS:=⟨Ca.zero,0,Ac.zero,Wd.zero,Wd.zero,0,[],[],av,me,threads,most,fun _=>Wd.zero,Sp.zero,[],0,⟨Wd.zero,false⟩⟩
end Go.Proofs.YthomdlajobnmnaaGreatDoor
namespace Go.Rex
variable {post:Env→Prop} {cs:List (dX × (Env→Prop) × (Env→Prop))} {Γ:List (Env→Prop)} {ρ:Env}
theorem Sat.yZ {nv:Nat} {b:BE} {k:Out} (K:Env→Prop) (hK:∀e,K (ρ.join nv e)) (h:∀q,K q→b.den q=true→Sat post cs Γ q k):Sat post cs Γ ρ (.new nv [.be b] k) :=
 fun e hf=>h _ (hK e) (hf _ (List.mem_singleton.2 rfl))
theorem Sat.wJ {nv:Nat} {σ:Sub} {k:Out} (Inv:Env→Prop) (m:Env→Nat) (K:Env→Prop) (h0:Inv (σ.ag ρ)) (hK:∀e,K (ρ.join nv e))
  (h:∀q,K q→Inv q.num→Sat post cs ((fun ρ'=>Inv ρ'∧m ρ'<m q.num) :: Γ) q k):Sat post cs Γ ρ (.loop nv σ k) :=
 ⟨Inv,m,h0,fun e hI=>h _ (hK e) hI⟩
theorem Sat.iL {g:Nat} {σ:Sub} {nv:Nat} {k:Out} {c:dX} {pre post':Env→Prop} (hg:cs[g]?=some (c,pre,post')) (hp:pre (σ.ag ρ)) (K:Env→Prop)
  (hK:∀e,post' (aZ σ c.nv nv ρ (ρ.join nv e))→K (ρ.join nv e)) (h:∀q,K q→Sat post cs Γ q k):Sat post cs Γ ρ (.call g σ nv k) :=
 ⟨c,pre,post',hg,hp,fun e hq=>h _ (hK e hq)⟩
end Go.Rex
