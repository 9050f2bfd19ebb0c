/- part 10 of the proof -/
import Derived.LaidLaws
import Derived.Stop.LaidErr
import Derived.Test.YthomdlajobnmnaaGreatDoorL5
import Derived.Test.YthomdlajobnmnaaGreatDoorL8
import Derived.Test.YthomdlajobnmnaaGreatDoorL9
set_option linter.unusedSimpArgs false
set_option linter.unusedVariables false
namespace Go.Rex
open Go.RowKit Go.ChangeShapes
abbrev oO:=List (String × Nat × List UInt8)
def oO.laid (nm:String) (sl:oO):List (String × DataW Unit):=sl.map fun x=>(x.1,.iface nm (.ptr (.agg [.lit (.string x.2.2)])))
def oO.ss (tp te:TypeId) (sl:oO):List (Nat × TypeId × TypeId):=sl.map fun x=>(x.2.1,tp,te)
def oO.Vs (P:Program) (ti:TypeId) (sl:oO):Bool:=sl.all fun x=>(P.globalNamed x.1 == some x.2.1) && ((P.globals[x.2.1]?).map (·.type) == some ti)
section
variable {P:Program} {W:World} {ti tp te ts:TypeId} {nm:String} {ms:Array (String × TypeId)} {f:Field}
theorem yj (hi:P.underlying ti=some (.interface ms)) (hrow:∀u,P.typeName? 3 u=some nm→u=tp)
  (hp:P.underlying tp=some (.pointer te)) (he:P.underlying te=some (.struct #[f])) (hft:f.type=ts) (hfo:f.offset=0) (hs:P.underlying ts=some .string) (hc:P.cellsOf te=1) (hcs:P.cellsOf ts=1) :
  ∀{sl:oO} {ps:List MemPlace},DataW.LaidVars P W (sl.laid nm) ps→sl.Vs P ti=true →
   (∀b off,MemPlace.cell b off∈ps→∀u v,W.cell? ⟨b,off,none⟩=some (.iface u v)→Value.okWide P W .any 0 u v) →
   ∃aS0:List Addr,qx W (sl.ss tp te) aS0∧(∀a∈aS0,MemPlace.cell a.block a.off∈ps)∧(ps.Nodup→aS0.Nodup)
 | [],_,_,_,_=>⟨[],trivial,fun a h=>(List.not_mem_nil h).elim,fun _=>List.nodup_nil⟩
 | (n,g,text) :: r,ps,h,hk,hok=>by
  obtain ⟨g0,t0,cs,fuel,p,q,hg0,ht0,hv,hd,hr,rfl⟩:=h
  simp only [oO.Vs,List.all_cons,Bool.and_eq_true,beq_iff_eq] at hk
  obtain ⟨⟨hg,ht⟩,hk'⟩:=hk
  obtain rfl:=Option.some.inj (hg.symm.trans hg0)
  obtain rfl:=Option.some.inj (ht.symm.trans ht0)
  obtain ⟨l⟩:=cs
  have hok1:∀u v,l=[.iface u v]→Value.okWide P W .any 0 u v:=fun u v e=>by
   subst e
   exact hok g 0 (by simp [MemPlace.row]) u v (by simpa using World.var?_cell hg0 hv 0)
  obtain ⟨a,s,rfl,hca,hs1,hz,rfl⟩:=errorString_of_trod hi hrow hp he hft hfo hs hc hcs hd hok1
  obtain ⟨aS0,h1,h2,h3⟩:=yj hi hrow hp he hft hfo hs hc hcs hr (by simpa [oO.Vs] using hk') fun b off hm=>hok b off (List.mem_append_right _ hm)
  refine ⟨a :: aS0,⟨by simpa using World.var?_cell hg hv 0,⟨_,hca⟩,h1⟩,?_,?_⟩
  ·intro x hx
   rcases List.mem_cons.1 hx with rfl | hx
   ·simp [MemPlace.row]
   ·exact List.mem_append_right _ (h2 x hx)
  ·intro hn
   have hn2:=(List.nodup_append.1 hn)
   refine List.nodup_cons.2 ⟨fun hm=>?_,h3 hn2.2.1⟩
   exact hn2.2.2 (MemPlace.cell a.block a.off) (by simp [MemPlace.row]) (MemPlace.cell a.block a.off) (h2 a hm) rfl
theorem Ia (hi:P.underlying ti=some (.interface ms)) (hrow:∀u,P.typeName? 3 u=some nm→u=tp)
  (hp:P.underlying tp=some (.pointer te)) (he:P.underlying te=some (.struct #[f])) (hft:f.type=ts) (hfo:f.offset=0) (hs:P.underlying ts=some .string) (hc:P.cellsOf te=1) (hcs:P.cellsOf ts=1)
  {sl:oO} (hk:sl.Vs P ti=true) (h:laidMet P (sl.laid nm) W) :
  ∃aS0:List Addr,qx W (sl.ss tp te) aS0∧aS0.Nodup∧∀a∈aS0,∃c t,W.heap[a.block]?=some (.cells c t (0,0)):=by
 obtain ⟨ps,hv,hnd,hrows⟩:=h
 obtain ⟨aS0,h1,h2,h3⟩:=yj hi hrow hp he hft hfo hs hc hcs hv hk fun b off hm=>(hrows b off hm).2
 exact ⟨aS0,h1,h3 hnd,fun a ha=>(hrows _ _ (h2 a ha)).1⟩
end
end Go.Rex
namespace Go.Proofs.YthomdlajobnmnaaGreatDoor
open Go.Rex
def iv (i:Nat):SC:=.int .i64 (.var i)
def kW:List Kd:=[.int .i64,.int .i64,.int .i64,.int .i64,.bool]
def iY (v:Nat):List SC:=[iv v,iv (v+1),iv (v+2),iv (v+3),.bool (.var (v+4))]
def FM (v:Nat):List SC:=[iv v,iv (v+1),iv (v+2),iv (v+3)] ++ iY (v+4) ++ iY (v+9)
def vF (v:Nat):List SC:=iY v ++ [.bool (.var (v+5))]
def Oc (n m:IE) (w b:Nat):SB:={t:=97,cs:=[.sl {aC:=b+1,i1:=.lit 0,s1:=5} n n,.sl {aC:=b+2,i1:=.lit 0,s1:=52} m m,.eU (.var w) {aC:=b+3,i1:=.lit 0,s1:=1} (.var (w+1)) (.var (w+2)),iv (w+3),iv (w+4),.iJ (.var (w+5)) (.iface 161 (.ptr {aC:=b+4}))],own:=true}
def J7 (n:IE) (w:Nat):SB:={t:=79,aX:=[{r:=w+6,n1:=n,s1:=5,ks:=kW}],own:=true,cap:=some (n,5)}
def J8 (m:IE) (w:Nat):SB:={t:=140,aX:=[{r:=w+7,n1:=m,s1:=52,ks:=[.int .i64,.bool]},{r:=w+8,n1:=m,s1:=52,n2:=10,s2:=5,lo:=2,ks:=kW}],own:=true,cap:=some (m,52)}
def Od (w:Nat):SB:={t:=3,aX:=[{r:=w+9,n1:=.var (w+1),s1:=1,ks:=[.int .i64]}],own:=true,cap:=some (.var (w+2),1),nl:=.var w}
def J9 (v w b:Nat):List SB:=[Oc (.var v) (.var (v+1)) w b,J7 (.var v) w,J8 (.var (v+1)) w,Od w,dI]
def WK (v w b c:Nat):List SB:=[{Oc (.var v) (.var (v+1)) w b with cs:=[.sl {aC:=b+1,i1:=.lit 0,s1:=5} (.var v) (.var v),.sl {aC:=b+2,i1:=.lit 0,s1:=52} (.var (v+1)) (.var (v+1)),.eU (.var w) {aC:=c,i1:=.lit 0,s1:=1} (.var (w+1)) (.var (w+2)),iv (w+3),iv (w+4),.iJ (.var (w+5)) (.iface 161 (.ptr {aC:=c+1}))]},J7 (.var v) w,J8 (.var (v+1)) w,dI,dI,Od w,dI]
def G9:List (Nat × TypeId × TypeId):=[(0,224,249),(5,224,249),(7,224,249),(6,224,249)]
def nI:dJ:={f:=32,nv:=26,gl:=fB G9 0,args:=[.one (.ptr {aC:=8}),.agg (FM 0)],hp:=ib 36 G9 0 ++ J9 14 16 8,iC:=43,ret:=.gY [.agg (vF 26),.one (.iJ (.var 32) (.iface 224 (.ptr {aC:=1})))],hp':=List.replicate 8 dI ++ WK 14 33 8 13}
def oP:dJ:={f:=16,nv:=2,args:=[.one (iv 0),.one (iv 1)],hp:=[],iC:=12,ret:=.gY [.one (.ptr {aC:=0}),.one .dH],hp':=[Oc (.var 1) (.var 0) 2 0,J7 (.var 1) 2,J8 (.var 0) 2,Od 2,dI]}
def L13:iK:={f:=16,p:=[1,1,1,0,1,0],x9:=[(7,.au)],kill:=[30,31,34,35,36,37,38,39,40,41,42,43,32,33],deep:=[6],ift:=161}
def kN:List Kd:=[.int .i64,.int .i64,.int .i64,.int .i64,.bool,.int .i64,.int .i64]
def Vt (nl:Nat) (b s:Nat):SC:=.eU (.var nl) {aC:=b,i1:=.lit 0,s1:=s} (.var (nl+1)) (.var (nl+2))
def slO (nl o:Nat) (b s:Nat):SC:=.eU (.var nl) {aC:=b,i1:=.var o,s1:=s} (.var (nl+1)) (.var (nl+2))
def vG (v:Nat):List SC:=[iv v,iv (v+1),iv (v+2),iv (v+3)] ++ iY (v+4) ++ iY (v+9) ++ [iv (v+14),iv (v+15),iv (v+16),iv (v+17)]
def Vu (s v b:Nat):SB:={t:=151,cs:=vG v ++ [iv (v+18)] ++ FM (v+19) ++ iY (v+33) ++ iY (v+38) ++ [iv (v+43),Vt (v+44) b 5,slO (v+47) (v+65) (b+1) 7,iv s,iv (s+1),iv (s+2),iv (s+3)] ++ List.replicate 45 .hole ++ [.bool (.var (v+51)),iv (v+52),iv (v+53),Vt (v+54) (b+2) 7,iv (v+57)] ++ vF (v+58),aX:=[{r:=v+50,n1:=.lit 9,s1:=5,lo:=50,ks:=kW}],own:=true}
def YJ (t:Nat) (ks:List Kd) (nl r:Nat):SB:={t:=t,aX:=[{r:=r,n1:=.var (nl+1),s1:=ks.length,ks:=ks}],own:=true,cap:=some (.var (nl+2),ks.length),nl:=.var nl}
def Vv (v:Nat):SB:=YJ 79 kW (v+44) (v+64)
def Vw (v:Nat):SB:={t:=207,aX:=[{r:=v+65,n1:=.var (v+66),s1:=7,ks:=kN}],own:=true,nl:=.var (v+47)}
def Vx (v:Nat):SB:=YJ 207 kN (v+54) (v+66)
def Ka (s v b:Nat):List SB:=[Vu s v (b+1),Vv v,Vw v,Vx v]
def WL (s v:Nat) (c:Nat):List SB:=[Vu s v c,dI,dI,dI,Vv v,Vw v,Vx v]
def mZ (f k:Nat) (args:List SW) (ret:SV):dJ:={f:=f,nv:=71+k,args:=.one (.ptr {aC:=0}) :: args,hp:=Ka 0 4 0,iC:=138+k,ret:=ret,hp':=WL 0 (71+k) 4}
def fV:dJ:={f:=141,nv:=2,args:=[.one (iv 0),.one (iv 1)],hp:=[],iC:=2,ret:=.gY [.agg [.int .i64 (.lit 0),.int .i64 (.lit 0),.int .i64 (.add (.add (.lit 25) (.mul (.var 0) (.lit 9))) (.var 1))],.one .dH],hp':=[]}
def gI:dJ:={f:=113,nv:=1,args:=[.one (iv 0)],hp:=[],iC:=1,ret:=.gY [.agg [.int .i64 (.lit 0),.int .i64 (.lit 0),.int .i64 (.add (.lit 79) (.var 0))],.one .dH],hp':=[]}
def oQ:SV:=.gY []
def iH:dJ:=mZ 72 1 [.one (iv 71)] oQ
def fZ:dJ:=mZ 124 0 [] oQ
def iR:dJ:={mZ 118 1 [.one (iv 71)] (.w (.one (.bool (.var 139)))) with iC:=140}
def ji:dJ:=mZ 112 0 [] oQ
def jh:dJ:=mZ 111 0 [] oQ
def lK:dJ:=mZ 68 0 [] oQ
def iI:dJ:=mZ 117 0 [] oQ
def jE:dJ:=mZ 115 2 [.one (iv 71),.one (iv 72)] oQ
def Iy:SW:=.agg (vF 71)
def iV:dJ:=mZ 75 6 [Iy] oQ
def jF:dJ:=mZ 76 6 [Iy] oQ
def fG:dJ:=mZ 77 6 [Iy] oQ
def jG:dJ:=mZ 119 0 [] oQ
def mQ:dJ:=mZ 40 6 [Iy] (.w (.one .dH))
def kV:dJ:=mZ 37 18 [.agg (vG 71)] (.w (.one .dH))
def sH (t:Nat) (ks:List Kd) (v:Nat):SB:={t:=t,aX:=[{r:=v+3,n1:=.var (v+1),s1:=ks.length,ks:=ks}],cap:=some (.var (v+2),ks.length),own:=true,nl:=.var v}
def nY:dJ:={f:=34,nv:=4,args:=[.one (iv 0),.one (iv 1),.one (iv 2),.one (iv 3)],hp:=[],iC:=71,ret:=.gY [.one (.ptr {aC:=0}),.one .dH],hp':=Ka 0 4 0}
def kX (ks:List Kd) (nl b:Nat):SW:=.one (Vt nl b ks.length)
def Ew (t:Nat) (ks:List Kd) (v:Nat):SB:={t:=t,aX:=[{r:=v+3,n1:=.var (v+1),s1:=ks.length,ks:=ks}],ro:=true,nl:=.var v}
def kI:List Kd:=[.int .i64]
def kS:List Kd:=[.bool,.int .i64,.int .i64]
def kY:dJ:={f:=143,nv:=8,args:=[kX kN 0 0,kX kW 4 1],hp:=[Ew 207 kN 0,Ew 79 kW 4],iC:=16,ret:=.gY [kX kN 8 2,kX kN 12 3],hp':=[dI,dI,sH 207 kN 8,sH 207 kN 12]}
def mV:dJ:={f:=144,nv:=8,args:=[kX kN 0 0,kX kI 4 1],hp:=[Ew 207 kN 0,Ew 3 kI 4],iC:=16,ret:=.gY [kX kN 8 2,kX kN 12 3],hp':=[dI,dI,sH 207 kN 8,sH 207 kN 12]}
def kZ:dJ:={f:=145,nv:=8,args:=[kX kN 0 0,kX kS 4 1],hp:=[Ew 207 kN 0,Ew 149 kS 4],iC:=16,ret:=.gY [kX kN 8 2,kX kN 12 3],hp':=[dI,dI,sH 207 kN 8,sH 207 kN 12]}
def jN:dJ:={f:=146,nv:=8,args:=[kX kN 0 0,.one (iv 4)],hp:=[Ew 207 kN 0],iC:=16,ret:=.gY [kX kN 8 1,kX kN 12 2],hp':=[dI,sH 207 kN 8,sH 207 kN 12]}
def l9:dJ:={f:=120,nv:=5,args:=[.one (iv 0),kX kS 1 0],hp:=[Ew 149 kS 1],iC:=6,ret:=.w (.one (.bool (.var 5))),hp':=[dI]}
def WM (v:Nat):List SC:=iY v ++ [iv (v+5),iv (v+6)]
def jk:dJ:={f:=122,nv:=11,args:=[kX kN 0 0,.agg (WM 4)],hp:=[Ew 207 kN 0],iC:=12,ret:=.w (.one (iv 11)),hp':=[dI]}
def eH:dJ:={f:=123,nv:=6,args:=[kX kN 0 0,.one (iv 4),.one (iv 5)],hp:=[sH 207 kN 0],iC:=7,ret:=.w (.one (.eU (.var 0) {aC:=0,i1:=.lit 0,s1:=7} (.sub (.var 1) (.lit 1)) (.var 2))),hp':=[{t:=207,aX:=[{r:=6,n1:=.sub (.var 1) (.lit 1),s1:=7,ks:=kN}],cap:=some (.var 2,7),own:=true,nl:=.var 0}]}
def YK:iK:={f:=72,p:=[1,0,1,0,1,0],x9:=[(4,.au)],kill:=[21,22,25,26,27,28,29,30,31,32,33,34,35,36,37,38,39,40,41,23,24]}
def ZY:iK:={f:=119,p:=[0,1,0,1,1,1,0,1,0,1,0],x9:=[(2,.eU 3),(36,.au)],kill:=[37,38,39,4,40,41,42,43,44,45]}
def Qp:iK:={f:=121,p:=[1,1,0,1,0],x9:=[(3,.eU 149),(12,.au)],kill:=[13,14,15,5,16,17,18,19,20,21]}
def Oe:iK:={f:=148,p:=[1,0,1,0],x9:=[(4,.eU 207),(5,.eU 207),(10,.au)],kill:=[11,12,13,7,14,15,16,17,18,19,20,21,22,23,24,25]}
def YL:iK:={f:=149,p:=[1,0,1,0],x9:=[(8,.au)],kill:=[9,10,11,5,12,13,14,15,16,17,3,18]}
def ZZ:iK:={f:=150,p:=[1,0,1,0],x9:=[(8,.au)],kill:=[9,10,11,5,12,13,14,15,16,17,18,19,20,21,22,23,24,25,3,26]}
def WN:iK:={f:=151,p:=[1,0,1,0],x9:=[(8,.au)],kill:=[9,10,11,5,12,13,14,15,16,17,18,19,20,21,22,23,24,25,26,27,3,28]}
def YM:iK:={f:=122,p:=[1,0,1,0],x9:=[(8,.au)],kill:=[9,10,5,11,12,13,14,15,16,17,4,18]}
def abx:iK:={f:=120,p:=[1,0,1,0],x9:=[(9,.au)],kill:=[10,11,12,6,13,14,15,16,17,18,19,20,4,21]}
def yW:List Kd:=[.int .i64,.int .i64,.int .i64,.int .i64,.bool]
def yN:List Kd:=[.int .i64,.int .i64,.int .i64,.int .i64,.bool,.int .i64,.int .i64]
def yI:List Kd:=[.int .i64]
def yB:List Kd:=[.int .i64,.bool]
abbrev yv (n:Nat):IE:=.var n
abbrev yw (n:Nat):BE:=.var n
def yo (l r:List (Nat × IE)):List (Nat × IE):=l ++ r
def yr (a b:Nat):Nat→List (Nat × IE)→List (Nat × IE)
  | 0,r=>r
  | n+1,r=>(a,.var b) :: yr (a-1) (b-1) n r
abbrev yb (n:Nat):SA:={aC:=n}
abbrev yc (n s:Nat):SA:={aC:=n,i1:=.lit 0,s1:=s}
abbrev yu (r n s:Nat) (k:List Kd) (g:Nat):CV:=.up {r:=r,n1:=.var n,s1:=s,ks:=k} g [] (.lit 0)
abbrev yl (r:Nat) (n:Int) (s l:Nat) (k:List Kd) (g:Nat):CV:=.up {r:=r,n1:=.lit n,s1:=s,lo:=l,ks:=k} g [] (.lit 0)
theorem Da:type_of% (And.intro @D.le (And.intro @D.gp (And.intro @D.lt (And.intro @D.gq (And.intro @D.eq (And.intro @D.gz (And.intro @D.not (And.intro @D.dR (And.intro @D.and (And.intro @D.dS (And.intro @D.or (And.intro @D.gB (And.intro @D.inr (And.intro @D.var (And.intro @D.lit (And.intro @D.dh (And.intro @D.beq (And.intro @D.dU (And.intro @D.dV (And.intro @D.dW (And.intro @D.add (And.intro @D.sub (And.intro @D.mul (And.intro @D.min (And.intro @D.max (And.intro @D.di (And.intro @D.bT (And.intro @D.bU (@Int.toNat_zero))))))))))))))))))))))))))))):=And.intro @D.le (And.intro @D.gp (And.intro @D.lt (And.intro @D.gq (And.intro @D.eq (And.intro @D.gz (And.intro @D.not (And.intro @D.dR (And.intro @D.and (And.intro @D.dS (And.intro @D.or (And.intro @D.gB (And.intro @D.inr (And.intro @D.var (And.intro @D.lit (And.intro @D.dh (And.intro @D.beq (And.intro @D.dU (And.intro @D.dV (And.intro @D.dW (And.intro @D.add (And.intro @D.sub (And.intro @D.mul (And.intro @D.min (And.intro @D.max (And.intro @D.di (And.intro @D.bT (And.intro @D.bU (@Int.toNat_zero))))))))))))))))))))))))))))
structure Wd where
 slot:Int
 gen:Int
 tag:Int
 num:Int
 mark:Bool
 deriving DecidableEq
def Wd.zero:Wd:=⟨0,0,0,0,false⟩
structure Ac where
 kind:Int
 slot:Int
 gen:Int
 field:Int
 old:Wd
 new:Wd
structure Rp where
 word:Wd
 ok:Bool
 deriving DecidableEq
structure PS where
 nb:Int
 ns:Int
 nf:Int
 steps:Int
 made:Int
 dD:Bool
 bd:Nat→Wd
 gen:Nat→Int
 used:Nat→Bool
 cell:Nat→Nat→Wd
 fr:Nat→Int
def PS.is (p:PS) (n:Int):Prop:=1≤n∧n≤p.ns
instance (p:PS) (n:Int):Decidable (p.is n):=by unfold PS.is;exact inferInstance
def PS.has (p:PS) (slot gen field:Int):Prop:=if slot=0 then gen=0∧0≤field∧field<p.nb else p.is slot∧0≤field∧field<10
instance (p:PS) (s g f:Int):Decidable (p.has s g f):=by unfold PS.has;exact inferInstance
def PS.valid (p:PS) (a:Ac):Prop :=
 if a.kind=1∨a.kind=2∨a.kind=3 then p.has a.slot a.gen a.field else if a.kind=4 then True else if a.kind=5 then p.is a.old.slot else False
instance (p:PS) (a:Ac):Decidable (p.valid a):=by unfold PS.valid;exact inferInstance
def PS.live (p:PS) (slot gen:Int):Prop:=slot=0∨(p.used (slot-1).toNat=true∧p.gen (slot-1).toNat=gen)
instance (p:PS) (s g:Int):Decidable (p.live s g):=by unfold PS.live;exact inferInstance
def PS.right (p:PS) (a:Ac):Prop:=if a.kind=4 then True else if a.kind=5 then p.live a.old.slot a.old.gen else p.live a.slot a.gen
instance (p:PS) (a:Ac):Decidable (p.right a):=by unfold PS.right;exact inferInstance
def PS.at (p:PS) (slot field:Int):Wd:=if slot=0 then p.bd field.toNat else p.cell (slot-1).toNat field.toNat
def PS.put (p:PS) (slot field:Int) (w:Wd):PS :=
 if slot=0 then {p with bd:=fun i=>if i=field.toNat then w else p.bd i}
 else {p with cell:=fun i k=>if i=(slot-1).toNat∧k=field.toNat then w else p.cell i k}
def je (a b:Wd):Prop:=a.slot=b.slot∧a.tag=b.tag∧a.num=b.num∧a.mark=b.mark
instance (a b:Wd):Decidable (je a b):=by unfold je;exact inferInstance
def Rp.no:Rp:=⟨Wd.zero,false⟩
def gQ (ko:Int) (k:Nat):Wd:=if k=9 then {Wd.zero with num:=ko} else Wd.zero
def PS.alloc (p:PS) (ko:Int):PS × Rp :=
 if p.nf=0 then (p,Rp.no) else
  let n:=p.fr (p.nf-1).toNat
  let g:=p.gen (n-1).toNat+1
  ({p with nf:=p.nf-1,made:=p.made+1,gen:=fun i=>if i=(n-1).toNat then g else p.gen i,used:=fun i=>if i=(n-1).toNat then true else p.used i,
            cell:=fun i k=>if i=(n-1).toNat∧k<10 then gQ ko k else p.cell i k},⟨⟨n,g,0,0,false⟩,true⟩)
def PS.free (p:PS) (n:Int):PS:={p with used:=fun i=>if i=(n-1).toNat then false else p.used i,fr:=fun i=>if i=p.nf.toNat then n else p.fr i,nf:=p.nf+1}
def fq (kind:Int):Rp:=if kind=1∨kind=3 then ⟨{Wd.zero with num:=-1},false⟩ else Rp.no
def PS.makes (p:PS) (a:Ac):PS × Rp :=
 if a.kind=4 then p.alloc a.new.num else
 if a.kind=5 then (p.free a.old.slot,⟨Wd.zero,true⟩) else
 if a.kind=1 then (p,⟨p.at a.slot a.field,true⟩) else
 if a.kind=2 then (p.put a.slot a.field a.new,⟨Wd.zero,true⟩) else
 if je (p.at a.slot a.field) a.old then (p.put a.slot a.field a.new,⟨p.at a.slot a.field,true⟩) else (p,⟨p.at a.slot a.field,false⟩)
def PS.act (p:PS) (a:Ac):PS × Option Rp :=
 if p.valid a then
  if p.right a then
   let r:=PS.makes {p with steps:=p.steps+1} a
   (r.1,some r.2)
  else ({p with steps:=p.steps+1,dD:=false},some (fq a.kind))
 else (p,none)
def jO (u:Nat→Bool):Nat→Nat
 | 0=>0
 | n+1=>jO u n+if u n then 1 else 0
theorem qX {u v:Nat→Bool}:∀{n:Nat},(∀i,i<n→u i=v i)→jO u n=jO v n
 | 0,_=>rfl
 | n+1,h=>by simp only [jO,qX fun i hi=>h i (Nat.lt_succ_of_lt hi),h n (Nat.lt_succ_self n)]
theorem Kb {u:Nat→Bool} {k:Nat}:∀{n:Nat},k<n→u k=false→jO (fun i=>if i=k then true else u i) n=jO u n+1
 | n+1,h,hu=>by
  simp only [jO]
  by_cases hk:k=n
  ·subst hk
   rw [qX (v:=u) fun i hi=>(if_neg (by omega))]
   simp [hu]
  ·have e:(if n=k then true else u n)=u n:=if_neg fun e=>hk e.symm
   simp only [Kb (show k<n by omega) hu,e]
   omega
theorem Ha {u:Nat→Bool} {k:Nat}:∀{n:Nat},k<n→u k=true→jO (fun i=>if i=k then false else u i) n+1=jO u n
 | n+1,h,hu=>by
  simp only [jO]
  by_cases hk:k=n
  ·subst hk
   rw [qX (v:=u) fun i hi=>(if_neg (by omega))]
   simp [hu]
  ·have:=Ha (n:=n) (by omega) hu
   have e:(if n=k then false else u n)=u n:=if_neg fun e=>hk e.symm
   simp only [e]
   omega
theorem Ey:∀n,jO (fun _=>false) n=0
 | 0=>rfl
 | n+1=>by simp [jO,Ey n]
structure PS.OK (p:PS):Prop where
 nb:0≤p.nb∧p.nb≤200
 ns:0≤p.ns∧p.ns≤1024
 nf:0≤p.nf
 made:0≤p.made∧p.made≤p.steps
 gen:∀i:Nat,0≤p.gen i∧p.gen i≤p.made
 fr:∀i:Nat,(i:Int)<p.nf→1≤p.fr i∧p.fr i≤p.ns∧p.used (p.fr i-1).toNat=false
 one:∀i j:Nat,i<j→(j:Int)<p.nf→p.fr i≠p.fr j
 cnt:(jO p.used p.ns.toNat:Int)+p.nf=p.ns
theorem PS.OK.WO {p:PS} (h:p.OK):({p with steps:=p.steps+1}:PS).OK:=⟨h.nb,h.ns,h.nf,⟨h.made.1,by have:=h.made.2;show p.made≤p.steps+1;omega⟩,h.gen,h.fr,h.one,h.cnt⟩
theorem PS.OK.bad {p:PS} (h:p.OK):({p with steps:=p.steps+1,dD:=false}:PS).OK:=⟨h.nb,h.ns,h.nf,⟨h.made.1,by have:=h.made.2;show p.made≤p.steps+1;omega⟩,h.gen,h.fr,h.one,h.cnt⟩
theorem PS.OK.put {p:PS} (h:p.OK) (s f:Int) (w:Wd):(p.put s f w).OK:=by
 unfold PS.put
 split <;> exact ⟨h.nb,h.ns,h.nf,h.made,h.gen,h.fr,h.one,h.cnt⟩
theorem PS.OK.alloc {p:PS} (h:p.OK) (hm:p.made<p.steps) (b:Int):(p.alloc b).1.OK:=by
 unfold PS.alloc
 split
 ·exact h
 ·rename_i h0
  have h1:=h.nf
  obtain ⟨f1,f2,f3⟩:=h.fr (p.nf-1).toNat (by omega)
  have h2:=h.made
  refine ⟨h.nb,h.ns,by show 0≤p.nf-1;omega,⟨by show 0≤p.made+1;omega,by show p.made+1≤p.steps;omega⟩,fun i=>?_,fun i hi=>?_,fun i j hi hj=>?_,?_⟩
  ·show 0≤(if i=_ then _ else _)∧(if i=_ then _ else _)≤p.made+1
   have g:=h.gen i
   have g2:=h.gen (p.fr (p.nf-1).toNat-1).toNat
   split <;> omega
  ·replace hi:(i:Int)<p.nf-1:=hi
   obtain ⟨e1,e2,e3⟩:=h.fr i (by omega)
   refine ⟨e1,e2,?_⟩
   show (if (p.fr i-1).toNat=_ then true else _)=false
   have:=h.one i (p.nf-1).toNat (by omega) (by omega)
   rw [if_neg (by omega)]
   exact e3
  ·exact h.one i j hi (by have:(j:Int)<p.nf-1:=hj;omega)
  ·have:=Kb (u:=p.used) (n:=p.ns.toNat) (k:=(p.fr (p.nf-1).toNat-1).toNat) (by omega) f3
   have h3:=h.cnt
   show ((jO (fun i=>if i=_ then true else p.used i) p.ns.toNat:Nat):Int)+(p.nf-1)=p.ns
   omega
theorem PS.OK.free {p:PS} (h:p.OK) {n:Int} (hn:p.is n) (hu:p.used (n-1).toNat=true):(p.free n).OK:=by
 obtain ⟨n1,n2⟩:=hn
 have h1:=h.nf
 refine ⟨h.nb,h.ns,by show 0≤p.nf+1;omega,h.made,h.gen,fun i hi=>?_,fun i j hi hj=>?_,?_⟩
 ·replace hi:(i:Int)<p.nf+1:=hi
  show 1≤(if i=p.nf.toNat then n else p.fr i)∧(if i=p.nf.toNat then n else p.fr i)≤p.ns∧(if ((if i=p.nf.toNat then n else p.fr i)-1).toNat=(n-1).toNat then false else p.used ((if i=p.nf.toNat then n else p.fr i)-1).toNat)=false
  by_cases hx:i=p.nf.toNat
  ·simp only [if_pos hx]
   exact ⟨n1,n2,by simp⟩
  ·simp only [if_neg hx]
   obtain ⟨e1,e2,e3⟩:=h.fr i (by omega)
   refine ⟨e1,e2,?_⟩
   split
   ·rfl
   ·exact e3
 ·replace hj:(j:Int)<p.nf+1:=hj
  show (if i=p.nf.toNat then n else p.fr i)≠(if j=p.nf.toNat then n else p.fr j)
  rw [if_neg (by omega)]
  by_cases hx:j=p.nf.toNat
  ·rw [if_pos hx]
   intro he
   obtain ⟨e1,e2,e3⟩:=h.fr i (by omega)
   rw [he,hu] at e3
   cases e3
  ·rw [if_neg hx]
   exact h.one i j hi (by omega)
 ·have:=Ha (u:=p.used) (n:=p.ns.toNat) (k:=(n-1).toNat) (by omega) hu
  have h3:=h.cnt
  show ((jO (fun i=>if i=_ then false else p.used i) p.ns.toNat:Nat):Int)+(p.nf+1)=p.ns
  omega
theorem PS.OK.act {p:PS} (h:p.OK) (a:Ac):(p.act a).1.OK:=by
 unfold PS.act
 split
 ·rename_i hv
  split
  ·rename_i hr
   have hs:=h.WO
   show (PS.makes {p with steps:=p.steps+1} a).1.OK
   unfold PS.makes
   split
   ·exact hs.alloc (by have:=h.made.2;show p.made<p.steps+1;omega) _
   split
   ·rename_i h4 h5
    have hv':p.is a.old.slot:=by
     unfold PS.valid at hv
     rw [if_neg (by omega),if_neg h4,if_pos h5] at hv
     exact hv
    have hr':p.live a.old.slot a.old.gen:=by
     unfold PS.right at hr
     rw [if_neg h4,if_pos h5] at hr
     exact hr
    have hne:a.old.slot≠0:=by have:=hv'.1;omega
    exact hs.free hv' (by
      rcases hr' with h | h
      · exact absurd h hne
      · exact h.1)
   split
   ·exact hs
   split
   ·exact hs.put _ _ _
   split
   ·exact hs.put _ _ _
   ·exact hs
  ·exact h.bad
 ·exact h
deriving instance DecidableEq for Ac
structure Ca where
 kind:Int
 slot:Int
 gen:Int
 field:Int
 old:Wd
 new:Wd
 i:Int
 j:Int
 code:Int
 val:Int
 deriving DecidableEq
structure Nt where
 ref:Wd
 ko:Int
 lg:Int
 deriving DecidableEq
structure Sp where
 is:Bool
 low:Int
 high:Int
 deriving DecidableEq
def Ac.zero:Ac:=⟨0,0,0,0,Wd.zero,Wd.zero⟩
def Ca.zero:Ca:=⟨0,0,0,0,Wd.zero,Wd.zero,0,0,0,0⟩
def Sp.zero:Sp:=⟨false,0,0⟩
def Wd.fC (n:Int):Wd:=⟨0,0,0,n,false⟩
def Wd.gF (w:Wd):Wd:=⟨w.slot,w.gen,0,0,false⟩
structure RS where
 call:Ca
 step:Int
 acc:Ac
 word:Wd
 clock:Wd
 index:Int
 seen:List Wd
 bL:List Nt
 av:Int
 me:Int
 threads:Int
 most:Int
 holds:Nat→Wd
 span:Sp
 notes:List Nt
 freed:Int
 bV:Rp
namespace RS
variable (r:RS)
def bP:Prop:=r.av=2∨r.av=3
def bN:Prop:=r.av=3∨r.av=5
def bZ:Prop:=r.av=4∨r.av=5
instance:Decidable r.bP:=by unfold bP;exact inferInstance
instance:Decidable r.bN:=by unfold bN;exact inferInstance
instance:Decidable r.bZ:=by unfold bZ;exact inferInstance
def ask (step:Int) (a:Ac):RS:={r with step:=step,acc:=a}
def load (step slot gen field:Int):RS:=r.ask step ⟨1,slot,gen,field,Wd.zero,Wd.zero⟩
def era (step:Int):RS:=r.load step 0 0 24
def advance (step:Int):RS:=r.ask step ⟨3,0,0,24,r.clock,⟨0,0,r.clock.tag+1,r.clock.num+1,false⟩⟩
def hold (n:Int) (w:Wd):RS:={r with holds:=fun i=>if i=n.toNat then w else r.holds i}
def post (step n:Int) (w:Wd):RS:=(r.hold n w).ask step ⟨2,0,0,25+r.me * 9+n,Wd.zero,w⟩
def qY (s:Sp):Wd:=if s.is=true then ⟨0,0,s.high,s.low,true⟩ else Wd.zero
def ed (step:Int) (s:Sp):RS:={r with span:=s}.ask step ⟨2,0,0,79+r.me,Wd.zero,qY s⟩
def finish (x:Rp):RS:={r with call:=Ca.zero,step:=0,acc:=Ac.zero,word:=Wd.zero,clock:=Wd.zero,index:=0,seen:=[],bL:=[],bV:=x}
def done:RS:=r.finish ⟨Wd.zero,true⟩
def first (h:Nat→Wd) (n:Nat):Nat→Option Nat
 | 0=>none
 | k+1=>if h n≠Wd.zero then some n else first h (n+1) k
def leave (start:Int):RS :=
 if r.bZ∧r.span≠Sp.zero then r.ed 2 Sp.zero
 else if r.bP then
  match first r.holds start.toNat (9-start.toNat) with
  | some n=>{r with index:=n}.post 4 n Wd.zero
  | none=>r.done
 else r.done
def look (n:Int):Option RS :=
 if r.bP then
  if n≥r.threads * 9 then none else some ({r with index:=n}.load 13 0 0 (25+n))
 else if n≥r.threads then none else some ({r with index:=n}.load 13 0 0 (79+n))
def scan:RS :=
 if r.av=1 then r.done
 else if r.av=4 then r.era 12
 else (r.look 0).getD r
def note (ko lg:Int):RS:={r with notes:=r.notes ++ [⟨r.call.old.gF,ko,lg⟩]}
def dO:RS:=if r.notes.length≥r.most then r.scan else r.done
def fU:RS :=
 if r.av=2 then (r.note 0 0).dO
 else if r.av=4 then r.era 10
 else if r.av=3∨r.av=5 then r.load 9 r.call.old.slot r.call.old.gen 9
 else r.done
def opened:RS :=
 let c:=r.call
 if c.kind=1 then (if r.bZ then r.era 3 else r.done)
 else if c.kind=2 then r.leave 0
 else if c.kind=3 then r.load 1 c.slot c.gen c.field
 else if c.kind=4 then r.ask 1 ⟨2,c.slot,c.gen,c.field,c.old,c.new⟩
 else if c.kind=5 then r.ask 1 ⟨3,c.slot,c.gen,c.field,c.old,c.new⟩
 else if c.kind=6 then r.load 5 c.slot c.gen c.field
 else if c.kind=7 then (if r.bP∧r.holds c.i.toNat≠r.holds c.j.toNat then r.post 2 c.i (r.holds c.j.toNat) else r.done)
 else if c.kind=8 then (if r.bN then r.era 8 else r.ask 1 ⟨4,0,0,0,Wd.zero,Wd.zero⟩)
 else if c.kind=9 then r.ask 2 ⟨5,0,0,0,c.old,Wd.zero⟩
 else if c.kind=10 then r.fU
 else if c.kind=11 then r.scan
 else r
def begin (c:Ca):RS × Bool :=
 if r.step≠0 then (r,false)
 else if c.kind<1∨c.kind > 11 then (r,false)
 else if (c.kind=6∨c.kind=7)∧(c.i<0∨c.i≥9∨c.j<0∨c.j≥9) then (r,false)
 else ({r with call:=c,step:=0,acc:=Ac.zero,word:=Wd.zero,clock:=Wd.zero,index:=0,seen:=[],bL:=[]}.opened,true)
def dK (i now:Int):Prop :=
 if r.av=3 then r.holds i.toNat≠Wd.zero∧(r.holds i.toNat).num=now
 else r.span.is=true∧r.span.high=now
instance (i now:Int):Decidable (r.dK i now):=by unfold dK;exact inferInstance
def bD (x:Rp):RS :=
 let i:=r.call.i
 if r.step=7 then r.load 5 r.call.slot r.call.gen r.call.field
 else if r.step=5 then
  if r.bN then {r with word:=x.word}.era 6
  else if r.av=2∧x.word.slot≠0∧r.holds i.toNat≠x.word.gF then {r with word:=x.word}.post 7 i x.word.gF
  else {r with word:=x.word}.finish ⟨x.word,true⟩
 else if r.step=6 then
  let now:=x.word.num
  if r.dK i now then r.finish ⟨r.word,true⟩
  else if r.av=3 then r.post 7 i (Wd.fC now)
  else r.ed 7 ⟨true,if r.span.is=true then r.span.low else now,now⟩
 else r
def dY (x:Rp):RS :=
 if r.step=9 then {r with word:=x.word}.era 10
 else if r.step=10 then
  let s:={r with clock:=x.word}.note r.word.num x.word.num
  if r.bN then s.advance 11 else s.dO
 else if r.step=11 then r.dO
 else r
def j4 (w:Wd):Sp:=if w.mark=true then ⟨true,w.num,w.tag⟩ else Sp.zero
def may (now:Int) (l:List Sp):Bool:=l.all fun s=>!(s.is && s.low != now)
def eD:RS :=
 match r.bL with
 | []=>r.done
 | d :: _=>r.ask 16 ⟨5,0,0,0,d.ref,Wd.zero⟩
def xh (w:Wd) (n:Nt):Bool:=w.slot == n.ref.slot
def vH (e:Int) (n:Nt):Bool:=decide (0<e∧n.ko≤e∧e≤n.lg)
def sI (s:Sp) (n:Nt):Bool:=s.is && decide (s.low≤n.lg∧s.high≥n.ko)
def qy (now:Int) (n:Nt):Bool:=decide (now < -9223372036854775808+2∨n.lg > now-2)
def kept (n:Nt):Bool :=
 if r.av=2 then r.seen.any fun w=>xh w n
 else if r.av=3 then r.seen.any fun w=>vH w.num n
 else if r.av=5 then r.seen.any fun w=>sI (j4 w) n
 else if r.av=4 then qy r.clock.num n
 else true
def gK:RS :=
 (if 2≤r.av∧r.av≤5 then {r with bL:=r.notes.filter fun n=>!r.kept n} else r).eD
def bQ (x:Rp):RS :=
 if r.step=12 then (({r with clock:=x.word}:RS).look 0).getD {r with clock:=x.word}
 else if r.step=13 then
  let s:RS:={r with seen:=r.seen ++ [x.word]}
  match s.look (r.index+1) with
  | some t=>t
  | none =>
   if r.av≠4 then s.gK
   else if may s.clock.num (s.seen.map j4)=true then s.advance 14
   else s.era 15
 else if r.step=14 then r.era 15
 else if r.step=15 then {r with clock:=x.word}.gK
 else if r.step=16 then
  match r.bL with
  | []=>r
  | d :: l=>{r with notes:=r.notes.erase d,freed:=r.freed+1,bL:=l}.eD
 else r
def bM (x:Rp):RS × Bool :=
 if r.step=0 then (r,false)
 else if r.step=1 then (r.finish x,true)
 else if r.step=2 then (r.done,true)
 else if r.step=3 then (r.ed 2 ⟨true,x.word.num,x.word.num⟩,true)
 else if r.step=4 then (r.leave (r.index+1),true)
 else if r.step=8 then (r.ask 1 ⟨4,0,0,0,Wd.zero,Wd.fC x.word.num⟩,true)
 else if r.step=5∨r.step=6∨r.step=7 then (r.bD x,true)
 else if r.step=9∨r.step=10∨r.step=11 then (r.dY x,true)
 else (r.bQ x,true)
end RS
def RS.new (av me threads most:Int):RS:=⟨Ca.zero,0,Ac.zero,Wd.zero,Wd.zero,0,[],[],av,me,threads,most,fun _=>Wd.zero,Sp.zero,[],0,⟨Wd.zero,false⟩⟩
end Go.Proofs.YthomdlajobnmnaaGreatDoor
namespace Go.Rex
variable {post:Env→Prop} {cs:List (dJ × (Env→Prop) × (Env→Prop))} {Γ:List (Env→Prop)} {ρ:Env}
theorem Sat.zD {nv:Nat} {b:BE} {k:Out} (K:Env→Prop) (hK:∀e,K (ρ.join nv e)) (h:∀q,K q→b.den q=true→Sat post cs Γ q k):Sat post cs Γ ρ (.new nv [.be b] k) :=
 fun e hf=>h _ (hK e) (hf _ (List.mem_singleton.2 rfl))
theorem Sat.xk {nv:Nat} {σ:Sub} {k:Out} (Inv:Env→Prop) (m:Env→Nat) (K:Env→Prop) (h0:Inv (σ.ag ρ)) (hK:∀e,K (ρ.join nv e))
  (h:∀q,K q→Inv q.num→Sat post cs ((fun ρ'=>Inv ρ'∧m ρ'<m q.num) :: Γ) q k):Sat post cs Γ ρ (.loop nv σ k) :=
 ⟨Inv,m,h0,fun e hI=>h _ (hK e) hI⟩
theorem Sat.iT {g:Nat} {σ:Sub} {nv:Nat} {k:Out} {c:dJ} {pre post':Env→Prop} (hg:cs[g]?=some (c,pre,post')) (hp:pre (σ.ag ρ)) (K:Env→Prop)
  (hK:∀e,post' (bf σ c.nv nv ρ (ρ.join nv e))→K (ρ.join nv e)) (h:∀q,K q→Sat post cs Γ q k):Sat post cs Γ ρ (.call g σ nv k) :=
 ⟨c,pre,post',hg,hp,fun e hq=>h _ (hK e hq)⟩
end Go.Rex
