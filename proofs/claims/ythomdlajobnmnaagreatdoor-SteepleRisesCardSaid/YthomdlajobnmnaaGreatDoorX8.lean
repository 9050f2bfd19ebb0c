/- part 8 of the proof -/
import Derived.LaidLaws
import Derived.Stop.LaidErr
import Derived.Test.YthomdlajobnmnaaGreatDoorX4
import Derived.Test.YthomdlajobnmnaaGreatDoorX6
import Derived.Test.YthomdlajobnmnaaGreatDoorX7
set_option linter.unusedSimpArgs false
set_option linter.unusedVariables false
namespace Go.Rex
open Go.RowKit Go.ChangeShapes
abbrev rT:=List (String × Nat × List UInt8)
def rT.laid (nm:String) (sl:rT):List (String × DataW Unit):=sl.map λx=>(x.1,.iface nm (.ptr (.agg [.lit (.string x.2.2)])))
def rT.ss (a b:TypeId) (sl:rT):List (Nat × TypeId × TypeId):=sl.map λx=>(x.2.1,a,b)
def rT.chk (P:Program) (a:TypeId) (sl:rT):Bool:=sl.all λx=>(P.globalNamed x.1 == some x.2.1) && ((P.globals[x.2.1]?).map (·.type) == some a)
section
variable {P:Program} {W:World} {X Y Z ts:TypeId} {nm:String} {ms:Array (String × TypeId)} {f:Field}
theorem Cr (H:P.underlying X=some (.interface ms)) (c:∀u,P.typeName? 3 u=some nm->u=Y)
  (F:P.underlying Y=some (.pointer Z)) (J:P.underlying Z=some (.struct #[f])) (t:f.type=ts) (d:f.offset=0) (G:P.underlying ts=some .string) (K:P.cellsOf Z=1) (i:P.cellsOf ts=1) :
  ∀{sl:rT} {ps:List MemPlace},DataW.LaidVars P W (sl.laid nm) ps->sl.chk P X=true ->
   (∀b off,MemPlace.cell b off∈ps->∀u v,W.cell? ⟨b,off,none⟩=some (.iface u v)->Value.okWide P W .any 0 u v) ->
   ∃aS0:List Addr,uz W (sl.ss Y Z) aS0/\(∀a∈aS0,MemPlace.cell a.block a.off∈ps)/\(ps.Nodup->aS0.Nodup)
 | [],_,_,_,_=>⟨[],trivial,λa h=>(List.not_mem_nil h).elim,λ_=>List.nodup_nil⟩
 | (n,g,text) :: r,ps,h,E,o=>by
  obtain ⟨T,V,M,fuel,p,q,k,B,I,hd,Q,rfl⟩:=h
  simp only [rT.chk,List.all_cons,Bool.and_eq_true,beq_iff_eq] at E
  obtain ⟨⟨D,L⟩,y⟩:=E
  obtain rfl:=Option.some.inj (D.symm.trans k)
  obtain rfl:=Option.some.inj (L.symm.trans B)
  obtain ⟨l⟩:=M
  have m:∀u v,l=[.iface u v]->Value.okWide P W .any 0 u v:=λu v e=>by
   subst e
   exact o g 0 (by simp [MemPlace.row]) u v (by simpa using World.var?_cell k I 0)
  obtain ⟨a,s,rfl,w,O,U,rfl⟩:=errorString_of_trod H c F J t d G K i hd m
  obtain ⟨aS0,N,C,R⟩:=Cr H c F J t d G K i Q (by simpa [rT.chk] using y) λb off A=>o b off (List.mem_append_right _ A)
  refine ⟨a :: aS0,⟨by simpa using World.var?_cell D I 0,⟨_,w⟩,N⟩,?_,?_⟩
  ·intro x z
   rcases List.mem_cons.1 z with rfl | z
   ·simp [MemPlace.row]
   ·exact List.mem_append_right _ (C x z)
  ·intro S
   have j:=(List.nodup_append.1 S)
   refine List.nodup_cons.2 ⟨λA=>?_,R j.2.1⟩
   exact j.2.2 (MemPlace.cell a.block a.off) (by simp [MemPlace.row]) (MemPlace.cell a.block a.off) (C a A) rfl
theorem Ng (o:P.underlying X=some (.interface ms)) (d:∀u,P.typeName? 3 u=some nm->u=Y)
  (m:P.underlying Y=some (.pointer Z)) (q:P.underlying Z=some (.struct #[f])) (j:f.type=ts) (e:f.offset=0) (n:P.underlying ts=some .string) (r:P.cellsOf Z=1) (i:P.cellsOf ts=1)
  {sl:rT} (k:sl.chk P X=true) (h:laidMet P (sl.laid nm) W) :
  ∃aS0:List Addr,uz W (sl.ss Y Z) aS0/\aS0.Nodup/\∀a∈aS0,∃c t,W.heap[a.block]?=some (.cells c t (0,0)):=by
 obtain ⟨l,p,g,b⟩:=h
 all_goals grind [Cr]
end
end Go.Rex
namespace Go.Proofs.YthomdlajobnmnaaGreatDoor
open Go.Rex
def iv (i:Nat):SC:=.int .i64 (.var i)
def kW:List Kd:=[.int .i64,.int .i64,.int .i64,.int .i64,.bool]
def l6 (v:Nat):List SC:=[iv v,iv (v+1),iv (v+2),iv (v+3),.bool (.var (v+4))]
def KQ (v:Nat):List SC:=[iv v,iv (v+1),iv (v+2),iv (v+3)] ++ l6 (v+4) ++ l6 (v+9)
def qZ (v:Nat):List SC:=l6 v ++ [.bool (.var (v+5))]
def UN (n m:IE) (w b:Nat):SB:={t:=97,cs:=[.sl {ak:=b+1,i1:=.lit 0,s1:=5} n n,.sl {ak:=b+2,i1:=.lit 0,s1:=52} m m,.eu (.var w) {ak:=b+3,i1:=.lit 0,s1:=1} (.var (w+1)) (.var (w+2)),iv (w+3),iv (w+4),.jH (.var (w+5)) (.iface 161 (.ptr {ak:=b+4}))],own:=true}
def PE (n:IE) (w:Nat):SB:={t:=79,bz:=[{r:=w+6,n1:=n,s1:=5,ks:=kW}],own:=true,cap:=some (n,5)}
def PG (m:IE) (w:Nat):SB:={t:=140,bz:=[{r:=w+7,n1:=m,s1:=52,ks:=[.int .i64,.bool]},{r:=w+8,n1:=m,s1:=52,n2:=10,s2:=5,lo:=2,ks:=kW}],own:=true,cap:=some (m,52)}
def UO (w:Nat):SB:={t:=3,bz:=[{r:=w+9,n1:=.var (w+1),s1:=1,ks:=[.int .i64]}],own:=true,cap:=some (.var (w+2),1),nl:=.var w}
def DL (v w b:Nat):List SB:=[UN (.var v) (.var (v+1)) w b,PE (.var v) w,PG (.var (v+1)) w,UO w,dS]
def aej (v w b c:Nat):List SB:=[{UN (.var v) (.var (v+1)) w b with cs:=[.sl {ak:=b+1,i1:=.lit 0,s1:=5} (.var v) (.var v),.sl {ak:=b+2,i1:=.lit 0,s1:=52} (.var (v+1)) (.var (v+1)),.eu (.var w) {ak:=c,i1:=.lit 0,s1:=1} (.var (w+1)) (.var (w+2)),iv (w+3),iv (w+4),.jH (.var (w+5)) (.iface 161 (.ptr {ak:=c+1}))]},PE (.var v) w,PG (.var (v+1)) w,dS,dS,UO w,dS]
def DN:List (Nat × TypeId × TypeId):=[(0,224,249),(5,224,249),(7,224,249),(6,224,249)]
def qC:dJ:={f:=32,nv:=26,gl:=eG DN 0,args:=[.one (.ptr {ak:=8}),.agg (KQ 0)],hp:=mO 36 DN 0 ++ DL 14 16 8,iV:=43,ret:=.iB [.agg (qZ 26),.one (.jH (.var 32) (.iface 224 (.ptr {ak:=1})))],hp':=List.replicate 8 dS ++ aej 14 33 8 13}
def rU:dJ:={f:=16,nv:=2,args:=[.one (iv 0),.one (iv 1)],hp:=[],iV:=12,ret:=.iB [.one (.ptr {ak:=0}),.one .dW],hp':=[UN (.var 1) (.var 0) 2 0,PE (.var 1) 2,PG (.var 0) 2,UO 2,dS]}
def L13:iX:={f:=16,p:=[1,1,1,0,1,0],xE:=[(7,.au)],kill:=[30,31,34,35,36,37,38,39,40,41,42,43,32,33],deep:=[6],ift:=161}
def kN:List Kd:=[.int .i64,.int .i64,.int .i64,.int .i64,.bool,.int .i64,.int .i64]
def slC (nl:Nat) (b s:Nat):SC:=.eu (.var nl) {ak:=b,i1:=.lit 0,s1:=s} (.var (nl+1)) (.var (nl+2))
def slO (nl o:Nat) (b s:Nat):SC:=.eu (.var nl) {ak:=b,i1:=.var o,s1:=s} (.var (nl+1)) (.var (nl+2))
def tH (v:Nat):List SC:=[iv v,iv (v+1),iv (v+2),iv (v+3)] ++ l6 (v+4) ++ l6 (v+9) ++ [iv (v+14),iv (v+15),iv (v+16),iv (v+17)]
def aca (s v b:Nat):SB:={t:=151,cs:=tH v ++ [iv (v+18)] ++ KQ (v+19) ++ l6 (v+33) ++ l6 (v+38) ++ [iv (v+43),slC (v+44) b 5,slO (v+47) (v+65) (b+1) 7,iv s,iv (s+1),iv (s+2),iv (s+3)] ++ List.replicate 45 .hole ++ [.bool (.var (v+51)),iv (v+52),iv (v+53),slC (v+54) (b+2) 7,iv (v+57)] ++ qZ (v+58),bz:=[{r:=v+50,n1:=.lit 9,s1:=5,lo:=50,ks:=kW}],own:=true}
def agl (t:Nat) (ks:List Kd) (nl r:Nat):SB:={t:=t,bz:=[{r:=r,n1:=.var (nl+1),s1:=ks.length,ks:=ks}],own:=true,cap:=some (.var (nl+2),ks.length),nl:=.var nl}
def acb (v:Nat):SB:=agl 79 kW (v+44) (v+64)
def acd (v:Nat):SB:={t:=207,bz:=[{r:=v+65,n1:=.var (v+66),s1:=7,ks:=kN}],own:=true,nl:=.var (v+47)}
def ace (v:Nat):SB:=agl 207 kN (v+54) (v+66)
def PH (s v b:Nat):List SB:=[aca s v (b+1),acb v,acd v,ace v]
def aek (s v:Nat) (c:Nat):List SB:=[aca s v c,dS,dS,dS,acb v,acd v,ace v]
def p9 (f k:Nat) (args:List SW) (ret:SV):dJ:={f:=f,nv:=71+k,args:=.one (.ptr {ak:=0}) :: args,hp:=PH 0 4 0,iV:=138+k,ret:=ret,hp':=aek 0 (71+k) 4}
def iC:dJ:={f:=141,nv:=2,args:=[.one (iv 0),.one (iv 1)],hp:=[],iV:=2,ret:=.iB [.agg [.int .i64 (.lit 0),.int .i64 (.lit 0),.int .i64 (.add (.add (.lit 25) (.mul (.var 0) (.lit 9))) (.var 1))],.one .dW],hp':=[]}
def iD:dJ:={f:=113,nv:=1,args:=[.one (iv 0)],hp:=[],iV:=1,ret:=.iB [.agg [.int .i64 (.lit 0),.int .i64 (.lit 0),.int .i64 (.add (.lit 79) (.var 0))],.one .dW],hp':=[]}
def fu:dJ:={f:=80,nv:=1,args:=[.one (iv 0)],hp:=[],iV:=1,ret:=.iB [.agg [.int .i64 (.lit 0),.int .i64 (.lit 0),.int .i64 (.var 0)],.one .dW],hp':=[]}
def rV:SV:=.iB []
def jD:dJ:=p9 72 1 [.one (iv 71)] rV
def gK:dJ:=p9 124 0 [] rV
def jT:dJ:={p9 118 1 [.one (iv 71)] (.w (.one (.bool (.var 139)))) with iV:=140}
def kJ:dJ:=p9 112 0 [] rV
def kG:dJ:=p9 111 0 [] rV
def om:dJ:=p9 68 0 [] rV
def jE:dJ:=p9 117 0 [] rV
def lQ:dJ:=p9 115 2 [.one (iv 71),.one (iv 72)] rV
def NF:SW:=.agg (qZ 71)
def mq:dJ:=p9 75 6 [NF] rV
def oo:dJ:=p9 76 6 [NF] rV
def fH:dJ:=p9 77 6 [NF] rV
def lU:dJ:=p9 119 0 [] rV
def pQ:dJ:=p9 40 6 [NF] (.w (.one .dW))
def nI:dJ:=p9 37 18 [.agg (tH 71)] (.w (.one .dW))
def rW (t:Nat) (ks:List Kd) (v:Nat):SB:={t:=t,bz:=[{r:=v+3,n1:=.var (v+1),s1:=ks.length,ks:=ks}],cap:=some (.var (v+2),ks.length),own:=true,nl:=.var v}
def q9:dJ:={f:=34,nv:=4,args:=[.one (iv 0),.one (iv 1),.one (iv 2),.one (iv 3)],hp:=[],iV:=71,ret:=.iB [.one (.ptr {ak:=0}),.one .dW],hp':=PH 0 4 0}
def mP (a:List Kd) (nl b:Nat):SW:=.one (slC nl b a.length)
def FR (t:Nat) (ks:List Kd) (v:Nat):SB:={t:=t,bz:=[{r:=v+3,n1:=.var (v+1),s1:=ks.length,ks:=ks}],ro:=true,nl:=.var v}
def kI:List Kd:=[.int .i64]
def kS:List Kd:=[.bool,.int .i64,.int .i64]
def oO:dJ:={f:=143,nv:=8,args:=[mP kN 0 0,mP kW 4 1],hp:=[FR 207 kN 0,FR 79 kW 4],iV:=16,ret:=.iB [mP kN 8 2,mP kN 12 3],hp':=[dS,dS,rW 207 kN 8,rW 207 kN 12]}
def rq:dJ:={f:=144,nv:=8,args:=[mP kN 0 0,mP kI 4 1],hp:=[FR 207 kN 0,FR 3 kI 4],iV:=16,ret:=.iB [mP kN 8 2,mP kN 12 3],hp':=[dS,dS,rW 207 kN 8,rW 207 kN 12]}
def oP:dJ:={f:=145,nv:=8,args:=[mP kN 0 0,mP kS 4 1],hp:=[FR 207 kN 0,FR 149 kS 4],iV:=16,ret:=.iB [mP kN 8 2,mP kN 12 3],hp':=[dS,dS,rW 207 kN 8,rW 207 kN 12]}
def nu:dJ:={f:=146,nv:=8,args:=[mP kN 0 0,.one (iv 4)],hp:=[FR 207 kN 0],iV:=16,ret:=.iB [mP kN 8 1,mP kN 12 2],hp':=[dS,rW 207 kN 8,rW 207 kN 12]}
def oQ:dJ:={f:=120,nv:=5,args:=[.one (iv 0),mP kS 1 0],hp:=[FR 149 kS 1],iV:=6,ret:=.w (.one (.bool (.var 5))),hp':=[dS]}
def ael (v:Nat):List SC:=l6 v ++ [iv (v+5),iv (v+6)]
def kK:dJ:={f:=122,nv:=11,args:=[mP kN 0 0,.agg (ael 4)],hp:=[FR 207 kN 0],iV:=12,ret:=.w (.one (iv 11)),hp':=[dS]}
def eT:dJ:={f:=123,nv:=6,args:=[mP kN 0 0,.one (iv 4),.one (iv 5)],hp:=[rW 207 kN 0],iV:=7,ret:=.w (.one (.eu (.var 0) {ak:=0,i1:=.lit 0,s1:=7} (.sub (.var 1) (.lit 1)) (.var 2))),hp':=[{t:=207,bz:=[{r:=6,n1:=.sub (.var 1) (.lit 1),s1:=7,ks:=kN}],cap:=some (.var 2,7),own:=true,nl:=.var 0}]}
def agm:iX:={f:=72,p:=[1,0,1,0,1,0],xE:=[(4,.au)],kill:=[21,22,25,26,27,28,29,30,31,32,33,34,35,36,37,38,39,40,41,23,24]}
def ajW:iX:={f:=119,p:=[0,1,0,1,1,1,0,1,0,1,0],xE:=[(2,.eu 3),(36,.au)],kill:=[37,38,39,4,40,41,42,43,44,45]}
def Xu:iX:={f:=121,p:=[1,1,0,1,0],xE:=[(3,.eu 149),(12,.au)],kill:=[13,14,15,5,16,17,18,19,20,21]}
def UQ:iX:={f:=148,p:=[1,0,1,0],xE:=[(4,.eu 207),(5,.eu 207),(10,.au)],kill:=[11,12,13,7,14,15,16,17,18,19,20,21,22,23,24,25]}
def agn:iX:={f:=149,p:=[1,0,1,0],xE:=[(8,.au)],kill:=[9,10,11,5,12,13,14,15,16,17,3,18]}
def ajX:iX:={f:=150,p:=[1,0,1,0],xE:=[(8,.au)],kill:=[9,10,11,5,12,13,14,15,16,17,18,19,20,21,22,23,24,25,3,26]}
def aem:iX:={f:=151,p:=[1,0,1,0],xE:=[(8,.au)],kill:=[9,10,11,5,12,13,14,15,16,17,18,19,20,21,22,23,24,25,26,27,3,28]}
def agp:iX:={f:=122,p:=[1,0,1,0],xE:=[(8,.au)],kill:=[9,10,5,11,12,13,14,15,16,17,4,18]}
def anb:iX:={f:=120,p:=[1,0,1,0],xE:=[(9,.au)],kill:=[10,11,12,6,13,14,15,16,17,18,19,20,4,21]}
def yW:List Kd:=[.int .i64,.int .i64,.int .i64,.int .i64,.bool]
def yN:List Kd:=[.int .i64,.int .i64,.int .i64,.int .i64,.bool,.int .i64,.int .i64]
def yI:List Kd:=[.int .i64]
def yB:List Kd:=[.int .i64,.bool]
abbrev y0:IE:=.lit 0
abbrev y1:IE:=.lit 1
abbrev y2:SC:=.int .i64 y0
abbrev y3:SC:=.bool (.lit false)
abbrev yz (n:Nat):Nat × IE:=(n,.lit 0)
abbrev yY:IE:=.sub (.var 17) (.lit 1)
abbrev yX:IE:=.sub (.cell 25 yY y0 0) y1
abbrev yv (n:Nat):IE:=.var n
abbrev yw (n:Nat):BE:=.var n
def yo (l r:List (Nat × IE)):List (Nat × IE):=l ++ r
def yr (a b:Nat):Nat->List (Nat × IE)->List (Nat × IE)
  | 0,r=>r
  | n+1,r=>(a,.var b) :: yr (a-1) (b-1) n r
abbrev yb (n:Nat):SA:={ak:=n}
abbrev yc (n s:Nat):SA:={ak:=n,i1:=.lit 0,s1:=s}
abbrev yu (r n s:Nat) (k:List Kd) (g:Nat):CV:=.up {r:=r,n1:=.var n,s1:=s,ks:=k} g [] (.lit 0)
abbrev yl (r:Nat) (n:Int) (s l:Nat) (k:List Kd) (g:Nat):CV:=.up {r:=r,n1:=.lit n,s1:=s,lo:=l,ks:=k} g [] (.lit 0)
theorem Da:type_of% (And.intro @D.le (And.intro @D.lef (And.intro @D.lt (And.intro @D.ltf (And.intro @D.eq (And.intro @D.eqf (And.intro @D.not (And.intro @D.agf (And.intro @D.and (And.intro @D.agh (And.intro @D.or (And.intro @D.orf (And.intro @D.inr (And.intro @D.var (And.intro @D.lit (And.intro @D.ab6 (And.intro @D.beq (And.intro @D.agi (And.intro @D.agj (And.intro @D.agk (And.intro @D.add (And.intro @D.sub (And.intro @D.mul (And.intro @D.min (And.intro @D.max (And.intro @D.ab7 (And.intro @D.Xr (And.intro @D.Xt (@Int.toNat_zero))))))))))))))))))))))))))))):=And.intro @D.le (And.intro @D.lef (And.intro @D.lt (And.intro @D.ltf (And.intro @D.eq (And.intro @D.eqf (And.intro @D.not (And.intro @D.agf (And.intro @D.and (And.intro @D.agh (And.intro @D.or (And.intro @D.orf (And.intro @D.inr (And.intro @D.var (And.intro @D.lit (And.intro @D.ab6 (And.intro @D.beq (And.intro @D.agi (And.intro @D.agj (And.intro @D.agk (And.intro @D.add (And.intro @D.sub (And.intro @D.mul (And.intro @D.min (And.intro @D.max (And.intro @D.ab7 (And.intro @D.Xr (And.intro @D.Xt (@Int.toNat_zero))))))))))))))))))))))))))))
def yR:Nat->Nat->List Nat->List Nat
  | _,0,r=>r
  | a,n+1,r=>a :: yR (a-1) n r
def yL:List (Nat × Nat)->List Nat
  | []=>[]
  | (a,n) :: r=>yR a n (yL r)
def yD (d:Nat):List Nat->List (Nat × IE)
  | []=>[]
  | k :: r=>(k,.var (k-d)) :: yD d r
def yE (d:Nat):List Nat->List (Nat × BE)
  | []=>[]
  | k :: r=>(k,.var (k-d)) :: yE d r
def yU (c:List (Nat × IE)):List (Nat × IE)->List (Nat × IE)
  | []=>[]
  | p :: r=>(p.1,(assoc p.1 c).getD p.2) :: yU c r
def yV (c:List (Nat × BE)):List (Nat × BE)->List (Nat × BE)
  | []=>[]
  | p :: r=>(p.1,(assoc p.1 c).getD p.2) :: yV c r
def yH:List (Nat × Nat)->Nat->Bool
  | [],_=>false
  | (a,n) :: r,k=>(Nat.ble k a && Nat.blt a (k+n)) || yH r k
def yO (c:List (Nat × Nat)):List (Nat × IE)->List (Nat × IE)
  | []=>[]
  | p :: r=>(p.1,bif yH c p.1 then .lit 0 else p.2) :: yO c r
def yP (c:List (Nat × Nat)):List (Nat × BE)->List (Nat × BE)
  | []=>[]
  | p :: r=>(p.1,bif yH c p.1 then .lit false else p.2) :: yP c r
theorem Xv {k:Nat}:yH [] k=false:=rfl
theorem KR {a n k:Nat} {r:List (Nat × Nat)}:yH ((a,n) :: r) k=(decide (k<=a) && decide (a<k+n) || yH r k):=by
  rw [yH,show Nat.ble k a=decide (k<=a) from Bool.eq_iff_iff.2 (by simp),show Nat.blt a (k+n)=decide (a<k+n) from Bool.eq_iff_iff.2 (by simp [Nat.blt];omega)]
theorem agq {k:Nat}:∀{n a:Nat} {r:List Nat},k∈yR a n r↔(k<=a/\a<k+n)\/k∈r
  | 0,a,r=>⟨.inr,λh=>h.elim (λh=>by omega) id⟩
  | n+1,a,r=>by
    rw [yR,List.mem_cons,agq (n:=n)]
    by_cases h:k∈r <;> simp [h] <;> omega
theorem PI {k:Nat}:∀{r:List (Nat × Nat)},k∈yL r↔yH r k=true
  | []=>by simp [yL,yH]
  | (a,n) :: r=>by
    rw [yL,agq,PI (r:=r),KR]
    simp
theorem ags {d k:Nat}:∀{l:List Nat},assoc k (yD d l)=if k∈l then some (.var (k-d)) else none
  | []=>by simp [yD,assoc]
  | j :: r=>by
    rw [yD,assoc,ags]
    by_cases h:j=k
    · simp [h]
    · simp [h,Ne.symm h]
theorem agt {d k:Nat}:∀{l:List Nat},assoc k (yE d l)=if k∈l then some (.var (k-d)) else none
  | []=>by simp [yE,assoc]
  | j :: r=>by
    rw [yE,assoc,agt]
    by_cases h:j=k
    · simp [h]
    · simp [h,Ne.symm h]
theorem agu {d k:Nat} {r:List (Nat × Nat)}:assoc k (yD d (yL r))=bif yH r k then some (.var (k-d)) else none:=by
  rw [ags]
  by_cases h:k∈yL r
  · rw [if_pos h,PI.1 h];rfl
  · rw [if_neg h,Bool.eq_false_iff.2 λq=>h (PI.2 q)];rfl
theorem agv {d k:Nat} {r:List (Nat × Nat)}:assoc k (yE d (yL r))=bif yH r k then some (.var (k-d)) else none:=by
  rw [agt]
  by_cases h:k∈yL r
  · rw [if_pos h,PI.1 h];rfl
  · rw [if_neg h,Bool.eq_false_iff.2 λq=>h (PI.2 q)];rfl
theorem ZY {c:List (Nat × IE)} {k:Nat}:∀{l:List (Nat × IE)},assoc k (yU c l)=(assoc k l).map λe=>(assoc k c).getD e
  | []=>rfl
  | (j,e) :: r=>by
    rw [yU,assoc,assoc,ZY]
    by_cases h:j=k <;> simp [h]
theorem ZZ {c:List (Nat × BE)} {k:Nat}:∀{l:List (Nat × BE)},assoc k (yV c l)=(assoc k l).map λe=>(assoc k c).getD e
  | []=>rfl
  | (j,e) :: r=>by
    rw [yV,assoc,assoc,ZZ]
    by_cases h:j=k <;> simp [h]
theorem Z0 {c:List (Nat × Nat)} {k:Nat}:∀{l:List (Nat × IE)},assoc k (yO c l)=(assoc k l).map λe=>bif yH c k then .lit 0 else e
  | []=>rfl
  | (j,e) :: r=>by
    rw [yO,assoc,assoc,Z0]
    by_cases h:j=k <;> simp [h]
theorem Z4 {c:List (Nat × Nat)} {k:Nat}:∀{l:List (Nat × BE)},assoc k (yP c l)=(assoc k l).map λe=>bif yH c k then .lit false else e
  | []=>rfl
  | (j,e) :: r=>by
    rw [yP,assoc,assoc,Z4]
    by_cases h:j=k <;> simp [h]
theorem Z5 {k:Nat} {r:List (Nat × IE)}:∀{l:List (Nat × IE)},assoc k (yo l r)=match assoc k l with | some e=>some e | none=>assoc k r
  | []=>rfl
  | (j,e) :: l=>by
    show assoc k ((j,e) :: yo l r)=_
    rw [assoc,assoc,Z5]
    by_cases h:j=k <;> simp [h]
theorem Z6 {k:Nat} {r:List (Nat × IE)}:∀{n a b:Nat},assoc k (yr a b n r)=if k<=a/\a<k+n then some (.var (b-(a-k))) else assoc k r
  | 0,a,b=>by rw [yr,iN]
  | n+1,a,b=>by
    rw [yr,assoc,Z6 (n:=n)]
    by_cases h:a=k
    · simp [h]
    · rw [if_neg (by simpa using h)]
      by_cases g:k<=a/\a<k+(n+1)
      · rw [if_pos g,if_pos (by omega),show b-1-(a-1-k)=b-(a-k) by omega]
      · rw [if_neg g,iN]
abbrev nY:List Nat:=yL [(49,5),(43,6),(36,8),(69,4),(64,4),(59,8)]
abbrev FU:List Nat:=yL [(6,4),(1,2),(14,3)]
abbrev yK2:List Nat:=yL [(29,5),(23,2),(19,2)]
abbrev yK3:List Nat:=yL [(49,5),(43,2),(39,2)]
abbrev yK4:List Nat:=yL [(69,5),(63,2),(59,2)]
abbrev SN:List Nat:=yL [(67,3),(63,12),(50,4),(45,9),(85,4),(80,4),(75,8)]
abbrev yK6:List Nat:=yL [(88,5),(82,6),(75,11),(63,12),(50,4),(45,9),(108,4),(103,4),(98,8)]
abbrev yK7:List Nat:=yL [(89,1),(83,1),(76,1),(64,1),(51,1),(46,1),(104,1),(99,1)]
abbrev iE:List Nat:=yL [(111,5),(105,6),(98,11),(86,12),(73,4),(68,9),(131,4),(126,4),(121,8)]
abbrev l7:List Nat:=yL [(112,1),(106,1),(99,1),(87,1),(74,1),(69,1),(127,1),(122,1)]
abbrev PK:List Nat:=yL [(37,4),(29,4)]
abbrev mQ:List Nat:=yL [(67,2),(58,1),(55,1),(51,1),(48,1),(46,1),(41,1),(36,1),(31,1),(17,1),(12,1)]
abbrev agw:List Nat:=yL [(155,1),(150,7),(142,2),(138,2),(154,1),(135,2),(132,1),(130,4),(125,4),(120,4),(115,13),(101,4),(96,8)]
abbrev agx:List Nat:=yL [(152,2),(143,1),(140,1),(136,1),(133,1),(131,1),(126,1),(121,1),(116,1),(102,1),(97,1)]
abbrev KS:List Nat:=yL [(138,1),(133,7),(125,2),(121,2),(137,1),(118,2),(115,1),(113,4),(108,4),(103,4),(98,13),(84,4),(79,8)]
abbrev UR:List Nat:=yL [(135,2),(126,1),(123,1),(119,1),(116,1),(114,1),(109,1),(104,1),(99,1),(85,1),(80,1),(139,1)]
abbrev agy:List Nat:=yL [(135,2),(126,1),(123,1),(119,1),(116,1),(114,1),(109,1),(104,1),(99,1),(85,1),(80,1)]
abbrev anc:List Nat:=yL [(133,7),(125,2),(121,2),(118,2),(115,1),(113,4),(108,4),(103,4),(98,13),(84,4),(79,8)]
abbrev mV:List Nat:=yL [(137,1),(132,7),(124,2),(120,2),(136,1),(117,2),(114,1),(112,4),(107,4),(102,4),(97,13),(83,4),(78,8)]
abbrev oU:List Nat:=yL [(134,2),(125,1),(122,1),(118,1),(115,1),(113,1),(108,1),(103,1),(98,1),(84,1),(79,1)]
abbrev UT:List Nat:=yL [(132,7),(124,2),(120,2),(117,2),(114,1),(112,4),(107,4),(102,4),(97,13),(83,4),(78,8)]
abbrev PL:List Nat:=yL [(70,1),(65,7),(57,2),(3,4),(53,2),(69,1),(50,2),(47,1),(45,4),(40,4),(35,4),(30,13),(16,4),(11,8),(71,1)]
abbrev yG:List Nat:=yL [(70,1),(65,7),(57,2),(3,4),(53,2),(69,1),(50,2),(47,1),(45,4),(40,4),(35,4),(30,13),(16,4),(11,8)]
abbrev jY:List Nat:=yL [(143,1),(138,7),(130,2),(126,2),(142,1),(123,2),(120,1),(118,4),(113,4),(108,4),(103,13),(89,4),(84,8)]
abbrev kL:List Nat:=yL [(140,2),(131,1),(128,1),(124,1),(121,1),(119,1),(114,1),(109,1),(104,1),(90,1),(85,1)]
abbrev UU:List Nat:=yL [(138,7),(130,2),(126,2),(123,2),(120,1),(118,4),(113,4),(108,4),(103,13),(89,4),(84,8)]
abbrev ane:List Nat:=yL [(139,1),(134,7),(126,2),(122,2),(138,1),(119,2),(116,1),(114,4),(109,4),(104,4),(99,13),(85,4),(80,8)]
abbrev anf:List Nat:=yL [(136,2),(127,1),(124,1),(120,1),(117,1),(115,1),(110,1),(105,1),(100,1),(86,1),(81,1)]
abbrev agz:List Nat:=yL [(70,1),(65,7),(57,2),(3,4),(53,2),(69,1),(50,2),(47,1),(45,4),(40,4),(35,4),(30,13),(16,4),(11,8),(72,2)]
abbrev GV:List Nat:=yL [(70,1),(65,7),(57,2),(3,4),(53,2),(69,1),(50,2),(47,1),(45,4),(40,4),(35,4),(30,13),(16,4),(11,8),(74,4)]
abbrev GX:List Nat:=yL [(67,2),(58,1),(55,1),(51,1),(48,1),(46,1),(41,1),(36,1),(31,1),(17,1),(12,1),(76,2)]
abbrev ang:List Nat:=yL [(137,1),(132,7),(124,2),(120,2),(136,1),(117,2),(114,1),(112,4),(107,4),(102,4),(97,13),(83,4),(78,8),(150,4),(145,8)]
abbrev anh:List Nat:=yL [(134,2),(125,1),(122,1),(118,1),(115,1),(113,1),(108,1),(103,1),(98,1),(84,1),(79,1),(152,2),(146,1)]
abbrev ani:List Nat:=yL [(137,1),(132,7),(124,2),(120,2),(136,1),(117,2),(114,1),(112,4),(107,4),(102,4),(97,13),(83,4),(78,8),(141,4)]
abbrev anj:List Nat:=yL [(134,2),(125,1),(122,1),(118,1),(115,1),(113,1),(108,1),(103,1),(98,1),(84,1),(79,1),(143,2)]
theorem Na:type_of% (And.intro @Sub.bT.eq_1 (And.intro @assoc.eq_1 (And.intro @assoc.eq_2 (And.intro @CV.I.eq_1 (And.intro @CV.I.eq_2 (And.intro @CV.B.eq_1 (And.intro @CV.B.eq_2 (And.intro @uI.eq_1 (And.intro @uI.eq_2 (And.intro @uJ.eq_1 (And.intro @uJ.eq_2 (And.intro @aU.I.eq_1 (And.intro @aU.B.eq_1 (And.intro @SC.I.eq_1 (And.intro @SC.I.eq_2 (And.intro @SC.B.eq_1 (And.intro @SC.B.eq_2 (And.intro @IE.den.eq_1 (And.intro @IE.den.eq_2 (And.intro @IE.den.eq_3 (And.intro @IE.den.eq_4 (And.intro @IE.den.eq_5 (And.intro @IE.den.eq_6 (And.intro @IE.den.eq_7 (And.intro @IE.den.eq_8 (And.intro @IE.den.eq_9 (And.intro @IE.den.eq_10 (And.intro @IE.den.eq_11 (And.intro @BE.den.eq_1 (And.intro @BE.den.eq_2 (And.intro @BE.den.eq_3 (And.intro @BE.den.eq_4 (And.intro @BE.den.eq_5 (And.intro @BE.den.eq_6 (And.intro @BE.den.eq_7 (And.intro @BE.den.eq_8 (And.intro @BE.den.eq_9 (And.intro @BE.den.eq_10 (And.intro @BE.den.eq_11 (And.intro @BE.den.eq_12 (And.intro @Xv (And.intro @KR (And.intro @agu (And.intro @agv (And.intro @ZY (And.intro @ZZ (And.intro @Z0 (And.intro @Z4 (And.intro @Z5 (@Z6)))))))))))))))))))))))))))))))))))))))))))))))))):=And.intro @Sub.bT.eq_1 (And.intro @assoc.eq_1 (And.intro @assoc.eq_2 (And.intro @CV.I.eq_1 (And.intro @CV.I.eq_2 (And.intro @CV.B.eq_1 (And.intro @CV.B.eq_2 (And.intro @uI.eq_1 (And.intro @uI.eq_2 (And.intro @uJ.eq_1 (And.intro @uJ.eq_2 (And.intro @aU.I.eq_1 (And.intro @aU.B.eq_1 (And.intro @SC.I.eq_1 (And.intro @SC.I.eq_2 (And.intro @SC.B.eq_1 (And.intro @SC.B.eq_2 (And.intro @IE.den.eq_1 (And.intro @IE.den.eq_2 (And.intro @IE.den.eq_3 (And.intro @IE.den.eq_4 (And.intro @IE.den.eq_5 (And.intro @IE.den.eq_6 (And.intro @IE.den.eq_7 (And.intro @IE.den.eq_8 (And.intro @IE.den.eq_9 (And.intro @IE.den.eq_10 (And.intro @IE.den.eq_11 (And.intro @BE.den.eq_1 (And.intro @BE.den.eq_2 (And.intro @BE.den.eq_3 (And.intro @BE.den.eq_4 (And.intro @BE.den.eq_5 (And.intro @BE.den.eq_6 (And.intro @BE.den.eq_7 (And.intro @BE.den.eq_8 (And.intro @BE.den.eq_9 (And.intro @BE.den.eq_10 (And.intro @BE.den.eq_11 (And.intro @BE.den.eq_12 (And.intro @Xv (And.intro @KR (And.intro @agu (And.intro @agv (And.intro @ZY (And.intro @ZZ (And.intro @Z0 (And.intro @Z4 (And.intro @Z5 (@Z6)))))))))))))))))))))))))))))))))))))))))))))))))
theorem oS {post:Env->Prop} {cs:List (dJ × (Env->Prop) × (Env->Prop))} {Γ:List (Env->Prop)} {ρ:Env} {b:BE} {k:Out} (a:Sat post cs Γ ρ k) (c:b.den ρ=true:=by simp only [Da];omega):Sat post cs Γ ρ (.ob b k):=Sat.ob c a
structure Wd where
 slot:Int
 gen:Int
 tag:Int
 num:Int
 mark:Bool
 deriving DecidableEq
def Wd.zero:Wd:=⟨0,0,0,0,false⟩
structure Ac where
 kind:Int
 slot:Int
 gen:Int
 field:Int
 ay:Wd
 new:Wd
structure Rp where
 word:Wd
 ok:Bool
 deriving DecidableEq
structure PS where
 nb:Int
 ns:Int
 nf:Int
 steps:Int
 made:Int
 bP:Bool
 bd:Nat->Wd
 gen:Nat->Int
 used:Nat->Bool
 cell:Nat->Nat->Wd
 fr:Nat->Int
def PS.is (p:PS) (n:Int):Prop:=1<=n/\n<=p.ns
instance (p:PS) (n:Int):Decidable (p.is n):=by unfold PS.is;exact inferInstance
def PS.has (p:PS) (slot gen field:Int):Prop:=if slot=0 then gen=0/\0<=field/\field<p.nb else p.is slot/\0<=field/\field<10
instance (p:PS) (s g f:Int):Decidable (p.has s g f):=by unfold PS.has;exact inferInstance
def PS.valid (p:PS) (a:Ac):Prop :=
 if a.kind=1\/a.kind=2\/a.kind=3 then p.has a.slot a.gen a.field else if a.kind=4 then True else if a.kind=5 then p.is a.ay.slot else False
instance (p:PS) (a:Ac):Decidable (p.valid a):=by unfold PS.valid;exact inferInstance
def PS.live (p:PS) (slot gen:Int):Prop:=slot=0\/(p.used (slot-1).toNat=true/\p.gen (slot-1).toNat=gen)
instance (p:PS) (s g:Int):Decidable (p.live s g):=by unfold PS.live;exact inferInstance
def PS.right (p:PS) (a:Ac):Prop:=if a.kind=4 then True else if a.kind=5 then p.live a.ay.slot a.ay.gen else p.live a.slot a.gen
instance (p:PS) (a:Ac):Decidable (p.right a):=by unfold PS.right;exact inferInstance
def PS.at (p:PS) (slot field:Int):Wd:=if slot=0 then p.bd field.toNat else p.cell (slot-1).toNat field.toNat
def PS.put (p:PS) (slot field:Int) (w:Wd):PS :=
 if slot=0 then {p with bd:=λi=>if i=field.toNat then w else p.bd i}
 else {p with cell:=λi k=>if i=(slot-1).toNat/\k=field.toNat then w else p.cell i k}
def eY (a b:Wd):Prop:=a.slot=b.slot/\a.tag=b.tag/\a.num=b.num/\a.mark=b.mark
instance (a b:Wd):Decidable (eY a b):=by unfold eY;exact inferInstance
def Rp.no:Rp:=⟨Wd.zero,false⟩
def iF (bU:Int) (k:Nat):Wd:=if k=9 then {Wd.zero with num:=bU} else Wd.zero
def PS.alloc (p:PS) (bU:Int):PS × Rp :=
 if p.nf=0 then (p,Rp.no) else
  let n:=p.fr (p.nf-1).toNat
  let g:=p.gen (n-1).toNat+1
  ({p with nf:=p.nf-1,made:=p.made+1,gen:=λi=>if i=(n-1).toNat then g else p.gen i,used:=λi=>if i=(n-1).toNat then true else p.used i,
            cell:=λi k=>if i=(n-1).toNat/\k<10 then iF bU k else p.cell i k},⟨⟨n,g,0,0,false⟩,true⟩)
def PS.free (p:PS) (n:Int):PS:={p with used:=λi=>if i=(n-1).toNat then false else p.used i,fr:=λi=>if i=p.nf.toNat then n else p.fr i,nf:=p.nf+1}
def wT (kind:Int):Rp:=if kind=1\/kind=3 then ⟨{Wd.zero with num:=-1},false⟩ else Rp.no
def PS.makes (p:PS) (a:Ac):PS × Rp :=
 if a.kind=4 then p.alloc a.new.num else
 if a.kind=5 then (p.free a.ay.slot,⟨Wd.zero,true⟩) else
 if a.kind=1 then (p,⟨p.at a.slot a.field,true⟩) else
 if a.kind=2 then (p.put a.slot a.field a.new,⟨Wd.zero,true⟩) else
 if eY (p.at a.slot a.field) a.ay then (p.put a.slot a.field a.new,⟨p.at a.slot a.field,true⟩) else (p,⟨p.at a.slot a.field,false⟩)
def PS.act (p:PS) (a:Ac):PS × Option Rp :=
 if p.valid a then
  if p.right a then
   let r:=PS.makes {p with steps:=p.steps+1} a
   (r.1,some r.2)
  else ({p with steps:=p.steps+1,bP:=false},some (wT a.kind))
 else (p,none)
def l8 (u:Nat->Bool):Nat->Nat
 | 0=>0
 | n+1=>l8 u n+if u n then 1 else 0
theorem vz {u v:Nat->Bool}:∀{n:Nat},(∀i,i<n->u i=v i)->l8 u n=l8 v n
 | 0,_=>rfl
 | n+1,h=>by simp only [l8,vz λi a=>h i (Nat.lt_succ_of_lt a),h n (Nat.lt_succ_self n)]
theorem PM {u:Nat->Bool} {k:Nat}:∀{n:Nat},k<n->u k=false->l8 (λi=>if i=k then true else u i) n=l8 u n+1
 | n+1,h,b=>by
  simp only [l8]
  by_cases a:k=n
  ·subst a
   rw [vz (v:=u) λi c=>(iN)]
   simp [b]
  ·have e:(if n=k then true else u n)=u n:=if_neg λe=>a e.symm
   simp only [PM (show k<n by omega) b,e]
   omega
theorem ME {u:Nat->Bool} {k:Nat}:∀{n:Nat},k<n->u k=true->l8 (λi=>if i=k then false else u i) n+1=l8 u n
 | n+1,h,b=>by
  simp only [l8]
  by_cases a:k=n
  ·subst a
   rw [vz (v:=u) λi c=>(iN)]
   simp [b]
  ·have:=ME (n:=n) (by omega) b
   have e:(if n=k then false else u n)=u n:=if_neg λe=>a e.symm
   simp only [e]
   omega
theorem Jv:∀n,l8 (λ_=>false) n=0
 | 0=>rfl
 | n+1=>by simp [l8,Jv n]
structure PS.OK (p:PS):Prop where
 nb:0<=p.nb/\p.nb<=200
 ns:0<=p.ns/\p.ns<=1024
 nf:0<=p.nf
 made:0<=p.made/\p.made<=p.steps
 gen:∀i:Nat,0<=p.gen i/\p.gen i<=p.made
 fr:∀i:Nat,(i:Int)<p.nf->1<=p.fr i/\p.fr i<=p.ns/\p.used (p.fr i-1).toNat=false
 one:∀i j:Nat,i<j->(j:Int)<p.nf->p.fr i≠p.fr j
 cnt:(l8 p.used p.ns.toNat:Int)+p.nf=p.ns
theorem PS.OK.SQ {p:PS} (h:p.OK):({p with steps:=p.steps+1}:PS).OK:=⟨h.nb,h.ns,h.nf,⟨h.made.1,by have:=h.made.2;show p.made<=p.steps+1;omega⟩,h.gen,h.fr,h.one,h.cnt⟩
theorem PS.OK.bad {p:PS} (h:p.OK):({p with steps:=p.steps+1,bP:=false}:PS).OK:=⟨h.nb,h.ns,h.nf,⟨h.made.1,by have:=h.made.2;show p.made<=p.steps+1;omega⟩,h.gen,h.fr,h.one,h.cnt⟩
theorem PS.OK.put {p:PS} (h:p.OK) (s f:Int) (w:Wd):(p.put s f w).OK:=by
 unfold PS.put
 split <;> exact ⟨h.nb,h.ns,h.nf,h.made,h.gen,h.fr,h.one,h.cnt⟩
theorem PS.OK.alloc {p:PS} (h:p.OK) (w:p.made<p.steps) (b:Int):(p.alloc b).1.OK:=by
 unfold PS.alloc
 split
 ·exact h
 ·rename_i o
  have r:=h.nf
  obtain ⟨q,t,l⟩:=h.fr (p.nf-1).toNat (by omega)
  have m:=h.made
  refine ⟨h.nb,h.ns,by show 0<=p.nf-1;omega,⟨by show 0<=p.made+1;omega,by show p.made+1<=p.steps;omega⟩,λi=>?_,λi a=>?_,λi j a f=>?_,?_⟩
  ·show 0<=(if i=_ then _ else _)/\(if i=_ then _ else _)<=p.made+1
   have g:=h.gen i
   have g2:=h.gen (p.fr (p.nf-1).toNat-1).toNat
   split <;> omega
  ·replace a:(i:Int)<p.nf-1:=a
   obtain ⟨d,c,e⟩:=h.fr i (by omega)
   refine ⟨d,c,?_⟩
   show (if (p.fr i-1).toNat=_ then true else _)=false
   have:=h.one i (p.nf-1).toNat (by omega) (by omega)
   rw [iN]
   exact e
  ·exact h.one i j a (by have:(j:Int)<p.nf-1:=f;omega)
  ·have:=PM (u:=p.used) (n:=p.ns.toNat) (k:=(p.fr (p.nf-1).toNat-1).toNat) (by omega) l
   have s:=h.cnt
   show ((l8 (λi=>if i=_ then true else p.used i) p.ns.toNat:Nat):Int)+(p.nf-1)=p.ns
   omega
theorem PS.OK.free {p:PS} (h:p.OK) {n:Int} (q:p.is n) (g:p.used (n-1).toNat=true):(p.free n).OK:=by
 obtain ⟨m,o⟩:=q
 have r:=h.nf
 refine ⟨h.nb,h.ns,by show 0<=p.nf+1;omega,h.made,h.gen,λi c=>?_,λi j c e=>?_,?_⟩
 ·replace c:(i:Int)<p.nf+1:=c
  show 1<=(if i=p.nf.toNat then n else p.fr i)/\(if i=p.nf.toNat then n else p.fr i)<=p.ns/\(if ((if i=p.nf.toNat then n else p.fr i)-1).toNat=(n-1).toNat then false else p.used ((if i=p.nf.toNat then n else p.fr i)-1).toNat)=false
  by_cases a:i=p.nf.toNat
  ·simp only [if_pos a]
   exact ⟨m,o,by simp⟩
  ·simp only [if_neg a]
   obtain ⟨d,f,b⟩:=h.fr i (by omega)
   refine ⟨d,f,?_⟩
   split
   ·rfl
   ·exact b
 ·replace e:(j:Int)<p.nf+1:=e
  show (if i=p.nf.toNat then n else p.fr i)≠(if j=p.nf.toNat then n else p.fr j)
  rw [iN]
  by_cases a:j=p.nf.toNat
  ·rw [if_pos a]
   intro l
   obtain ⟨d,f,b⟩:=h.fr i (by omega)
   rw [l,g] at b
   cases b
  ·rw [if_neg a]
   exact h.one i j c (by omega)
 ·have:=ME (u:=p.used) (n:=p.ns.toNat) (k:=(n-1).toNat) (by omega) g
  have s:=h.cnt
  show ((l8 (λi=>if i=_ then false else p.used i) p.ns.toNat:Nat):Int)+(p.nf+1)=p.ns
  omega
theorem PS.OK.act {p:PS} (h:p.OK) (a:Ac):(p.act a).1.OK:=by
 unfold PS.act
 split
 ·rename_i e
  split
  ·rename_i g
   have b:=h.SQ
   show (PS.makes {p with steps:=p.steps+1} a).1.OK
   unfold PS.makes
   split
   ·exact b.alloc (by have:=h.made.2;show p.made<p.steps+1;omega) _
   split
   ·rename_i i j
    have c:p.is a.ay.slot:=by
     unfold PS.valid at e
     rw [iN,if_neg i,if_pos j] at e
     exact e
    have f:p.live a.ay.slot a.ay.gen:=by
     unfold PS.right at g
     rw [if_neg i,if_pos j] at g
     exact g
    have d:a.ay.slot≠0:=by have:=c.1;omega
    exact b.free c (by
      rcases f with h | h
      · exact absurd h d
      · exact h.1)
   split
   ·exact b
   split
   ·exact b.put _ _ _
   split
   ·exact b.put _ _ _
   ·exact b
  ·exact h.bad
 ·exact h
deriving instance DecidableEq for Ac
structure Ca where
 kind:Int
 slot:Int
 gen:Int
 field:Int
 ay:Wd
 new:Wd
 i:Int
 j:Int
 code:Int
 val:Int
 deriving DecidableEq
structure Nt where
 ref:Wd
 bU:Int
 iY:Int
 deriving DecidableEq
structure Sp where
 is:Bool
 low:Int
 high:Int
 deriving DecidableEq
def Ac.zero:Ac:=⟨0,0,0,0,Wd.zero,Wd.zero⟩
def Ca.zero:Ca:=⟨0,0,0,0,Wd.zero,Wd.zero,0,0,0,0⟩
def Sp.zero:Sp:=⟨false,0,0⟩
def Wd.ig (n:Int):Wd:=⟨0,0,0,n,false⟩
def Wd.bN (w:Wd):Wd:=⟨w.slot,w.gen,0,0,false⟩
structure RS where
 call:Ca
 step:Int
 acc:Ac
 word:Wd
 clock:Wd
 index:Int
 seen:List Wd
 bK:List Nt
 af:Int
 me:Int
 threads:Int
 most:Int
 holds:Nat->Wd
 span:Sp
 notes:List Nt
 freed:Int
 bS:Rp
namespace RS
variable (r:RS)
def bg:Prop:=r.af=2\/r.af=3
def bF:Prop:=r.af=3\/r.af=5
def bJ:Prop:=r.af=4\/r.af=5
instance:Decidable r.bg:=by unfold bg;exact inferInstance
instance:Decidable r.bF:=by unfold bF;exact inferInstance
instance:Decidable r.bJ:=by unfold bJ;exact inferInstance
def ask (step:Int) (a:Ac):RS:={r with step:=step,acc:=a}
def load (step slot gen field:Int):RS:=r.ask step ⟨1,slot,gen,field,Wd.zero,Wd.zero⟩
def era (step:Int):RS:=r.load step 0 0 24
def advance (step:Int):RS:=r.ask step ⟨3,0,0,24,r.clock,⟨0,0,r.clock.tag+1,r.clock.num+1,false⟩⟩
def hold (n:Int) (w:Wd):RS:={r with holds:=λi=>if i=n.toNat then w else r.holds i}
def post (step n:Int) (w:Wd):RS:=(r.hold n w).ask step ⟨2,0,0,25+r.me * 9+n,Wd.zero,w⟩
def iZ (s:Sp):Wd:=if s.is=true then ⟨0,0,s.high,s.low,true⟩ else Wd.zero
def kM (step:Int) (s:Sp):RS:={r with span:=s}.ask step ⟨2,0,0,79+r.me,Wd.zero,iZ s⟩
def finish (x:Rp):RS:={r with call:=Ca.zero,step:=0,acc:=Ac.zero,word:=Wd.zero,clock:=Wd.zero,index:=0,seen:=[],bK:=[],bS:=x}
def done:RS:=r.finish ⟨Wd.zero,true⟩
def first (h:Nat->Wd) (n:Nat):Nat->Option Nat
 | 0=>none
 | k+1=>if h n≠Wd.zero then some n else first h (n+1) k
def leave (start:Int):RS :=
 if r.bJ/\r.span≠Sp.zero then r.kM 2 Sp.zero
 else if r.bg then
  match first r.holds start.toNat (9-start.toNat) with
  | some n=>{r with index:=n}.post 4 n Wd.zero
  | none=>r.done
 else r.done
def look (n:Int):Option RS :=
 if r.bg then
  if n>=r.threads * 9 then none else some ({r with index:=n}.load 13 0 0 (25+n))
 else if n>=r.threads then none else some ({r with index:=n}.load 13 0 0 (79+n))
def scan:RS :=
 if r.af=1 then r.done
 else if r.af=4 then r.era 12
 else (r.look 0).getD r
def note (bU a:Int):RS:={r with notes:=r.notes ++ [⟨r.call.ay.bN,bU,a⟩]}
def bQ:RS:=if r.notes.length>=r.most then r.scan else r.done
def fC:RS :=
 if r.af=2 then (r.note 0 0).bQ
 else if r.af=4 then r.era 10
 else if r.af=3\/r.af=5 then r.load 9 r.call.ay.slot r.call.ay.gen 9
 else r.done
def opened:RS :=
 let c:=r.call
 if c.kind=1 then (if r.bJ then r.era 3 else r.done)
 else if c.kind=2 then r.leave 0
 else if c.kind=3 then r.load 1 c.slot c.gen c.field
 else if c.kind=4 then r.ask 1 ⟨2,c.slot,c.gen,c.field,c.ay,c.new⟩
 else if c.kind=5 then r.ask 1 ⟨3,c.slot,c.gen,c.field,c.ay,c.new⟩
 else if c.kind=6 then r.load 5 c.slot c.gen c.field
 else if c.kind=7 then (if r.bg/\r.holds c.i.toNat≠r.holds c.j.toNat then r.post 2 c.i (r.holds c.j.toNat) else r.done)
 else if c.kind=8 then (if r.bF then r.era 8 else r.ask 1 ⟨4,0,0,0,Wd.zero,Wd.zero⟩)
 else if c.kind=9 then r.ask 2 ⟨5,0,0,0,c.ay,Wd.zero⟩
 else if c.kind=10 then r.fC
 else if c.kind=11 then r.scan
 else r
def begin (c:Ca):RS × Bool :=
 if r.step≠0 then (r,false)
 else if c.kind<1\/c.kind > 11 then (r,false)
 else if (c.kind=6\/c.kind=7)/\(c.i<0\/c.i>=9\/c.j<0\/c.j>=9) then (r,false)
 else ({r with call:=c,step:=0,acc:=Ac.zero,word:=Wd.zero,clock:=Wd.zero,index:=0,seen:=[],bK:=[]}.opened,true)
def gB (i now:Int):Prop :=
 if r.af=3 then r.holds i.toNat≠Wd.zero/\(r.holds i.toNat).num=now
 else r.span.is=true/\r.span.high=now
instance (i now:Int):Decidable (r.gB i now):=by unfold gB;exact inferInstance
def kH (x:Rp):RS :=
 let i:=r.call.i
 if r.step=7 then r.load 5 r.call.slot r.call.gen r.call.field
 else if r.step=5 then
  if r.bF then {r with word:=x.word}.era 6
  else if r.af=2/\x.word.slot≠0/\r.holds i.toNat≠x.word.bN then {r with word:=x.word}.post 7 i x.word.bN
  else {r with word:=x.word}.finish ⟨x.word,true⟩
 else if r.step=6 then
  let now:=x.word.num
  if r.gB i now then r.finish ⟨r.word,true⟩
  else if r.af=3 then r.post 7 i (Wd.ig now)
  else r.kM 7 ⟨true,if r.span.is=true then r.span.low else now,now⟩
 else r
def gL (x:Rp):RS :=
 if r.step=9 then {r with word:=x.word}.era 10
 else if r.step=10 then
  let s:={r with clock:=x.word}.note r.word.num x.word.num
  if r.bF then s.advance 11 else s.bQ
 else if r.step=11 then r.bQ
 else r
def jF (w:Wd):Sp:=if w.mark=true then ⟨true,w.num,w.tag⟩ else Sp.zero
def may (now:Int) (l:List Sp):Bool:=l.all λs=>!(s.is && s.low != now)
def ek:RS :=
 match r.bK with
 | []=>r.done
 | d :: _=>r.ask 16 ⟨5,0,0,0,d.ref,Wd.zero⟩
def tJ (w:Wd) (n:Nt):Bool:=w.slot == n.ref.slot
def tK (e:Int) (n:Nt):Bool:=decide (0<e/\n.bU<=e/\e<=n.iY)
def qM (s:Sp) (n:Nt):Bool:=s.is && decide (s.low<=n.iY/\s.high>=n.bU)
def ny (now:Int) (n:Nt):Bool:=decide (now < -9223372036854775808+2\/n.iY > now-2)
def kept (n:Nt):Bool :=
 if r.af=2 then r.seen.any λw=>tJ w n
 else if r.af=3 then r.seen.any λw=>tK w.num n
 else if r.af=5 then r.seen.any λw=>qM (jF w) n
 else if r.af=4 then ny r.clock.num n
 else true
def eO:RS :=
 (if 2<=r.af/\r.af<=5 then {r with bK:=r.notes.filter λn=>!r.kept n} else r).ek
def cz (x:Rp):RS :=
 if r.step=12 then (({r with clock:=x.word}:RS).look 0).getD {r with clock:=x.word}
 else if r.step=13 then
  let s:RS:={r with seen:=r.seen ++ [x.word]}
  match s.look (r.index+1) with
  | some t=>t
  | none =>
   if r.af≠4 then s.eO
   else if may s.clock.num (s.seen.map jF)=true then s.advance 14
   else s.era 15
 else if r.step=14 then r.era 15
 else if r.step=15 then {r with clock:=x.word}.eO
 else if r.step=16 then
  match r.bK with
  | []=>r
  | d :: l=>{r with notes:=r.notes.erase d,freed:=r.freed+1,bK:=l}.ek
 else r
def aB (x:Rp):RS × Bool :=
 if r.step=0 then (r,false)
 else if r.step=1 then (r.finish x,true)
 else if r.step=2 then (r.done,true)
 else if r.step=3 then (r.kM 2 ⟨true,x.word.num,x.word.num⟩,true)
 else if r.step=4 then (r.leave (r.index+1),true)
 else if r.step=8 then (r.ask 1 ⟨4,0,0,0,Wd.zero,Wd.ig x.word.num⟩,true)
 else if r.step=5\/r.step=6\/r.step=7 then (r.kH x,true)
 else if r.step=9\/r.step=10\/r.step=11 then (r.gL x,true)
 else (r.cz x,true)
end RS
def RS.new (c b threads a:Int):RS:=⟨Ca.zero,0,Ac.zero,Wd.zero,Wd.zero,0,[],[],c,b,threads,a,λ_=>Wd.zero,Sp.zero,[],0,⟨Wd.zero,false⟩⟩
end Go.Proofs.YthomdlajobnmnaaGreatDoor
namespace Go.Rex
variable {post:Env->Prop} {cs:List (dJ × (Env->Prop) × (Env->Prop))} {Γ:List (Env->Prop)} {ρ:Env}
theorem Sat.uK {nv:Nat} {b:BE} {k:Out} (K:Env->Prop) (c:∀e,K (ρ.join nv e)) (h:∀q,K q->b.den q=true->Sat post cs Γ q k):Sat post cs Γ ρ (.new nv [.be b] k) :=
 λe a=>h _ (c e) (a _ (List.mem_singleton.2 rfl))
theorem Sat.qD {nv:Nat} {σ:Sub} {k:Out} (Inv:Env->Prop) (m:Env->Nat) (K:Env->Prop) (c:Inv (σ.bT ρ)) (b:∀e,K (ρ.join nv e))
  (h:∀q,K q->Inv q.num->Sat post cs ((λρ'=>Inv ρ'/\m ρ'<m q.num) :: Γ) q k):Sat post cs Γ ρ (.loop nv σ k) :=
 ⟨Inv,m,c,λe a=>h _ (b e) a⟩
theorem Sat.dF {g:Nat} {σ:Sub} {nv:Nat} {k:Out} {c:dJ} {pre a:Env->Prop} (i:cs[g]?=some (c,pre,a)) (b:pre (σ.bT ρ)) (K:Env->Prop)
  (f:∀e,a (aV σ c.nv nv ρ (ρ.join nv e))->K (ρ.join nv e)) (h:∀q,K q->Sat post cs Γ q k):Sat post cs Γ ρ (.call g σ nv k) :=
 ⟨c,pre,a,i,b,λe d=>h _ (f e d)⟩
end Go.Rex
namespace Go.Proofs.YthomdlajobnmnaaGreatDoor
open Go.Rex
def bu (f:Nat->Int) (g:Nat->Bool):Wd:=⟨f 0,f 1,f 2,f 3,g 4⟩
def aC (ρ:Env) (v:Nat):Wd:=⟨ρ.iv v,ρ.iv (v+1),ρ.iv (v+2),ρ.iv (v+3),ρ.bv (v+4)⟩
def bL (ρ:Env) (v:Nat):Ac:=⟨ρ.iv v,ρ.iv (v+1),ρ.iv (v+2),ρ.iv (v+3),aC ρ (v+4),aC ρ (v+9)⟩
def az (ρ:Env) (v:Nat):Rp:=⟨aC ρ v,ρ.bv (v+5)⟩
def bA (ρ:Env) (n m:Int) (w:Nat):PS where
 nb:=n
 ns:=m
 nf:=ρ.iv (w+1)
 steps:=ρ.iv (w+3)
 made:=ρ.iv (w+4)
 bP:=ρ.bv (w+5)
 bd:=λi=>bu (ρ.ic (w+6) i 0) (ρ.bc (w+6) i 0)
 gen:=λi=>ρ.ic (w+7) i 0 0
 used:=λi=>ρ.bc (w+7) i 0 1
 cell:=λi k=>bu (ρ.ic (w+8) i k) (ρ.bc (w+8) i k)
 fr:=λi=>ρ.ic (w+9) i 0 0
def bE (ρ:Env) (b:Nat):Prop:=(ρ.bv b=true->ρ.iv (b+1)=0)/\0<=ρ.iv (b+1)/\ρ.iv (b+1)<=ρ.iv (b+2)/\ρ.iv (b+2)<=9223372036854775807
theorem dP {ρ:Env} {b:Nat} (h:bE ρ b):(BE.or (.not (.var b)) (.ag (.var (b+1)) (.lit 0))).den ρ=true:=by
 have a:=h.1
 simp only [BE.den,IE.den,Bool.or_eq_true,Bool.not_eq_true',beq_iff_eq]
 cases c:ρ.bv b
 ·exact .inl rfl
 ·exact .inr (a c)
theorem uo {ρ:Env} {b:Nat} (h:bE ρ b) (d:0<ρ.iv (b+1)):(BE.not (.var b)).den ρ=true:=by
 have a:=h.1
 simp only [BE.den,Bool.not_eq_true']
 cases c:ρ.bv b
 ·rfl
 ·have:=a c
  omega
theorem PS.ext' {p q:PS} (g:p.nb=q.nb) (e:p.ns=q.ns) (l:p.nf=q.nf) (f:p.steps=q.steps) (j:p.made=q.made) (b:p.bP=q.bP) (h:∀i,p.bd i=q.bd i) (d:∀i,p.gen i=q.gen i) (c:∀i,p.used i=q.used i)
  (h10:∀i k,p.cell i k=q.cell i k) (a:∀i,p.fr i=q.fr i):p=q:=by
 cases p
 cases q
 simp only at *
 subst g e l f j b
 obtain rfl:=funext h
 obtain rfl:=funext d
 obtain rfl:=funext c
 obtain rfl:=funext λi=>funext (h10 i)
 obtain rfl:=funext a
 rfl
theorem agA {p:PS} {a:Ac} (h:¬p.valid a):p.act a=(p,none):=by simp [PS.act,h]
theorem Xw {p:PS} {a:Ac} (h:p.valid a) (b:¬p.right a):p.act a=({p with steps:=p.steps+1,bP:=false},some (wT a.kind)):=by simp [PS.act,h,b]
theorem agB {p:PS} {a:Ac} (h:p.valid a) (b:p.right a):p.act a=((PS.makes {p with steps:=p.steps+1} a).1,some (PS.makes {p with steps:=p.steps+1} a).2):=by simp [PS.act,h,b]
section
variable {p:PS} {a:Ac}
theorem agC {P:PS} {R:Rp} (h:p.valid a) (c:p.right a) (b:PS.makes {p with steps:=p.steps+1} a=(P,R)):p.act a=(P,some R):=by rw [agB h c,b]
theorem aen (h:a.kind=1) (b:a.slot=0):p.makes a=(p,⟨p.bd a.field.toNat,true⟩):=by simp [PS.makes,h,PS.at,b]
theorem aeo (h:a.kind=1) (b:¬a.slot=0):p.makes a=(p,⟨p.cell (a.slot-1).toNat a.field.toNat,true⟩):=by simp [PS.makes,h,PS.at,b]
theorem aep (h:a.kind=2) (b:a.slot=0):p.makes a=({p with bd:=λi=>if i=a.field.toNat then a.new else p.bd i},⟨Wd.zero,true⟩):=by simp [PS.makes,h,PS.put,b]
theorem aeq (h:a.kind=2) (b:¬a.slot=0):p.makes a=({p with cell:=λi k=>if i=(a.slot-1).toNat/\k=a.field.toNat then a.new else p.cell i k},⟨Wd.zero,true⟩):=by simp [PS.makes,h,PS.put,b]
theorem aer (h:a.kind=3) (c:a.slot=0) (b:eY (p.bd a.field.toNat) a.ay):p.makes a=({p with bd:=λi=>if i=a.field.toNat then a.new else p.bd i},⟨p.bd a.field.toNat,true⟩):=by simp [-Int.pred_toNat,PS.makes,h,PS.put,PS.at,c,b]
theorem aes (h:a.kind=3) (b:¬a.slot=0) (c:eY (p.cell (a.slot-1).toNat a.field.toNat) a.ay):p.makes a=({p with cell:=λi k=>if i=(a.slot-1).toNat/\k=a.field.toNat then a.new else p.cell i k},⟨p.cell (a.slot-1).toNat a.field.toNat,true⟩):=by simp [-Int.pred_toNat,PS.makes,h,PS.put,PS.at,b,c]
theorem Z7 (h:a.kind=3) (c:a.slot=0) (b:¬eY (p.bd a.field.toNat) a.ay):p.makes a=(p,⟨p.bd a.field.toNat,false⟩):=by simp [-Int.pred_toNat,PS.makes,h,PS.at,c,b]
theorem Z8 (h:a.kind=3) (c:¬a.slot=0) (b:¬eY (p.cell (a.slot-1).toNat a.field.toNat) a.ay):p.makes a=(p,⟨p.cell (a.slot-1).toNat a.field.toNat,false⟩):=by simp [-Int.pred_toNat,PS.makes,h,PS.at,c,b]
theorem aet (h:a.kind=4) (b:p.nf=0):p.makes a=(p,Rp.no):=by simp [PS.makes,h,PS.alloc,b]
theorem aeu (h:a.kind=4) (b:¬p.nf=0):p.makes a=({p with nf:=p.nf-1,made:=p.made+1,gen:=λi=>if i=(p.fr (p.nf-1).toNat-1).toNat then p.gen (p.fr (p.nf-1).toNat-1).toNat+1 else p.gen i,used:=λi=>if i=(p.fr (p.nf-1).toNat-1).toNat then true else p.used i,cell:=λi k=>if i=(p.fr (p.nf-1).toNat-1).toNat/\k<10 then iF a.new.num k else p.cell i k},⟨⟨p.fr (p.nf-1).toNat,p.gen (p.fr (p.nf-1).toNat-1).toNat+1,0,0,false⟩,true⟩):=by
 unfold PS.makes PS.alloc
 rw [if_pos h,if_neg b]
theorem agD (h:a.kind=5):p.makes a=(p.free a.ay.slot,⟨Wd.zero,true⟩):=by simp [PS.makes,h]
end
noncomputable def doE:Ex:={sched:=sched,loops:=[],fin:=qC}
abbrev DR:List (Nat × IE):=yO [(29,4)]<|yD 17 PK
abbrev DT:List (Nat × BE):=[(38,yw 21),(33,yw 16),(32,.lit false),(31,.lit false),(30,.lit false)]
abbrev ja:List (Nat × CV):=[(42,yu 25 17 1 yI 0),(41,.up {r:=24,n1:=.var 15,s1:=52,n2:=10,s2:=5,lo:=2,ks:=yW} 1 [] y0),(40,yu 23 15 52 yB 0),(39,yu 22 14 5 yW 0)]
abbrev jM:List (Nat × SA):=[(14,yb 12),(13,yc 11 1)]
abbrev Z9:List (Nat × IE):=yU [(36,.add (.var 19) y1),(29,.cell 22 (.var 3) y0 3),(28,.cell 22 (.var 3) y0 2),(27,.cell 22 (.var 3) y0 1),(26,.cell 22 (.var 3) y0 0)]<|yD 17 PK
abbrev agE:List (Nat × BE):=[(38,yw 21),(33,yw 16),(32,.lit true),(31,.lit true),(30,.cell 22 (.var 3) y0 4)]
abbrev DU:List (Nat × IE):=yO [(28,3)]<|yU [(36,.add (.var 19) y1),(29,.lit (-1))]<|yD 17 PK
abbrev DV:List (Nat × BE):=[(38,.lit false),(33,yw 16),(32,.lit true),(31,.lit false),(30,.lit false)]
abbrev KT:List (Nat × SA):=[(14,yb 18),(13,yc 11 1)]
abbrev Bd:List (Nat × BE):=[(38,yw 21),(33,yw 16),(32,.lit true),(31,.lit false),(30,.lit false)]
abbrev aaa:List (Nat × IE):=yU [(36,.add (.var 19) y1),(29,.cell 24 (.sub (.var 1) y1) (.var 3) 3),(28,.cell 24 (.sub (.var 1) y1) (.var 3) 2),(27,.cell 24 (.sub (.var 1) y1) (.var 3) 1),(26,.cell 24 (.sub (.var 1) y1) (.var 3) 0)]<|yD 17 PK
abbrev agF:List (Nat × BE):=[(38,yw 21),(33,yw 16),(32,.lit true),(31,.lit true),(30,.cell 24 (.sub (.var 1) y1) (.var 3) 4)]
abbrev wU:List (Nat × IE):=yO [(29,4)]<|yU [(36,.add (.var 19) y1)]<|yD 17 PK
abbrev aab:List (Nat × BE):=[(38,yw 21),(33,yw 16),(32,.lit true),(31,.lit true),(30,.lit false)]
abbrev agG:List (Nat × CV):=[(42,yu 25 17 1 yI 0),(41,.up {r:=24,n1:=.var 15,s1:=52,n2:=10,s2:=5,lo:=2,ks:=yW} 1 [] y0),(40,yu 23 15 52 yB 0),(39,.up {r:=22,n1:=.var 14,s1:=5,ks:=yW} 0 [⟨0,(.var 3),y0,4,.bool (.var 13)⟩,⟨0,(.var 3),y0,3,.int .i64 (.var 12)⟩,⟨0,(.var 3),y0,2,.int .i64 (.var 11)⟩,⟨0,(.var 3),y0,1,.int .i64 (.var 10)⟩,⟨0,(.var 3),y0,0,.int .i64 (.var 9)⟩] y0)]
abbrev agH:List (Nat × CV):=[(42,yu 25 17 1 yI 0),(41,.up {r:=24,n1:=.var 15,s1:=52,n2:=10,s2:=5,lo:=2,ks:=yW} 1 [⟨1,(.sub (.var 1) y1),(.var 3),4,.bool (.var 13)⟩,⟨1,(.sub (.var 1) y1),(.var 3),3,.int .i64 (.var 12)⟩,⟨1,(.sub (.var 1) y1),(.var 3),2,.int .i64 (.var 11)⟩,⟨1,(.sub (.var 1) y1),(.var 3),1,.int .i64 (.var 10)⟩,⟨1,(.sub (.var 1) y1),(.var 3),0,.int .i64 (.var 9)⟩] y0),(40,.up {r:=23,n1:=.var 15,s1:=52,ks:=yB} 0 [⟨1,(.sub (.var 1) y1),(.var 3),4,.bool (.var 13)⟩,⟨1,(.sub (.var 1) y1),(.var 3),3,.int .i64 (.var 12)⟩,⟨1,(.sub (.var 1) y1),(.var 3),2,.int .i64 (.var 11)⟩,⟨1,(.sub (.var 1) y1),(.var 3),1,.int .i64 (.var 10)⟩,⟨1,(.sub (.var 1) y1),(.var 3),0,.int .i64 (.var 9)⟩] y0),(39,yu 22 14 5 yW 0)]
abbrev agI:List (Nat × IE):=[(37,yv 20),(36,.add (.var 19) y1),(35,yv 26),(34,.add (.var 17) y1),yz 29,yz 28,yz 27,yz 26]
abbrev agJ:List (Nat × BE):=[(38,yw 21),(33,.lit false),(32,.lit true),(31,.lit true),(30,.lit false)]
abbrev agK:List (Nat × CV):=[(42,.up {r:=25,n1:=.add (.var 17) y1,s1:=1,ks:=yI} 0 [⟨0,(.var 17),y0,0,.int .i64 (.var 4)⟩] y0),(41,.up {r:=24,n1:=.var 15,s1:=52,n2:=10,s2:=5,lo:=2,ks:=yW} 1 [⟨0,(.sub (.var 4) y1),y0,1,y3⟩] y0),(40,.up {r:=23,n1:=.var 15,s1:=52,ks:=yB} 0 [⟨0,(.sub (.var 4) y1),y0,1,y3⟩] y0),(39,yu 22 14 5 yW 0)]
def UW:Out :=
 .br (.ag (.var 0) y1)
 (.br (.ag (.var 1) y0)
  (.ob (.or (.not (.and (.ag (.var 2) y0) (.ah y0 (.var 3)))) (.ah y0 (.var 14))) <|
   .br (.not (.and (.and (.ag (.var 2) y0) (.ah y0 (.var 3))) (.aY (.var 3) (.var 14))))
   (.fin {lo:=26,ae:=13,iv:=DR,bv:=DT,ct:=ja,bk:=jM})
   (.ob (.inr .i64 (.add (.var 19) y1)) <|
    .fin {lo:=26,ae:=13,iv:=Z9,bv:=agE,ct:=ja,bk:=jM,nb:=[1]}))
  (.ob (.or (.not (.ah y1 (.var 1))) (.ah y0 (.var 15))) <|
   .br (.not (.and (.and (.and (.ah y1 (.var 1)) (.ah (.var 1) (.var 15))) (.ah y0 (.var 3))) (.aY (.var 3) (.lit 10))))
   (.fin {lo:=26,ae:=13,iv:=DR,bv:=DT,ct:=ja,bk:=jM})
   (.ob (.inr .i64 (.add (.var 19) y1)) <|
    .ob (.inr .i64 (.sub (.var 1) y1)) <|
    .ob (.ah y0 (.sub (.var 1) y1)) <|
    .ob (.aY (.sub (.var 1) y1) (.var 15)) <|
    .br (.not (.cell 23 (.sub (.var 1) y1) y0 1))
    (.br (.var 21)
     (.fin {lo:=26,ae:=13,iv:=DU,bv:=DV,ct:=ja,bk:=KT,nb:=[1]})
     (.fin {lo:=26,ae:=13,iv:=DU,bv:=Bd,ct:=ja,bk:=jM,nb:=[1]}))
    (.br (.not (.ag (.cell 23 (.sub (.var 1) y1) y0 0) (.var 2)))
     (.br (.var 21)
      (.fin {lo:=26,ae:=13,iv:=DU,bv:=DV,ct:=ja,bk:=KT,nb:=[1]})
      (.fin {lo:=26,ae:=13,iv:=DU,bv:=Bd,ct:=ja,bk:=jM,nb:=[1]}))
     (.fin {lo:=26,ae:=13,iv:=aaa,bv:=agF,ct:=ja,bk:=jM,nb:=[1]})))))
 (.br (.ag (.var 0) (.lit 2))
  (.br (.ag (.var 1) y0)
   (.ob (.or (.not (.and (.ag (.var 2) y0) (.ah y0 (.var 3)))) (.ah y0 (.var 14))) <|
    .br (.not (.and (.and (.ag (.var 2) y0) (.ah y0 (.var 3))) (.aY (.var 3) (.var 14))))
    (.fin {lo:=26,ae:=13,iv:=DR,bv:=DT,ct:=ja,bk:=jM})
    (.ob (.inr .i64 (.add (.var 19) y1)) <|
     .fin {lo:=26,ae:=13,iv:=wU,bv:=aab,ct:=agG,bk:=jM,nb:=[1]}))
   (.ob (.or (.not (.ah y1 (.var 1))) (.ah y0 (.var 15))) <|
    .br (.not (.and (.and (.and (.ah y1 (.var 1)) (.ah (.var 1) (.var 15))) (.ah y0 (.var 3))) (.aY (.var 3) (.lit 10))))
    (.fin {lo:=26,ae:=13,iv:=DR,bv:=DT,ct:=ja,bk:=jM})
    (.ob (.inr .i64 (.add (.var 19) y1)) <|
     .ob (.inr .i64 (.sub (.var 1) y1)) <|
     .ob (.ah y0 (.sub (.var 1) y1)) <|
     .ob (.aY (.sub (.var 1) y1) (.var 15)) <|
     .br (.not (.cell 23 (.sub (.var 1) y1) y0 1))
     (.br (.var 21)
      (.fin {lo:=26,ae:=13,iv:=wU,bv:=DV,ct:=ja,bk:=KT,nb:=[1]})
      (.fin {lo:=26,ae:=13,iv:=wU,bv:=Bd,ct:=ja,bk:=jM,nb:=[1]}))
     (.br (.not (.ag (.cell 23 (.sub (.var 1) y1) y0 0) (.var 2)))
      (.br (.var 21)
       (.fin {lo:=26,ae:=13,iv:=wU,bv:=DV,ct:=ja,bk:=KT,nb:=[1]})
       (.fin {lo:=26,ae:=13,iv:=wU,bv:=Bd,ct:=ja,bk:=jM,nb:=[1]}))
      (.fin {lo:=26,ae:=13,iv:=wU,bv:=aab,ct:=agH,bk:=jM,nb:=[1]})))))
  (.br (.ag (.var 0) (.lit 3))
   (.br (.ag (.var 1) y0)
    (.ob (.or (.not (.and (.ag (.var 2) y0) (.ah y0 (.var 3)))) (.ah y0 (.var 14))) <|
     .br (.not (.and (.and (.ag (.var 2) y0) (.ah y0 (.var 3))) (.aY (.var 3) (.var 14))))
     (.fin {lo:=26,ae:=13,iv:=DR,bv:=DT,ct:=ja,bk:=jM})
     (.ob (.inr .i64 (.add (.var 19) y1)) <|
      .br (.not (.and (.ag (.cell 22 (.var 3) y0 0) (.var 4)) (.and (.ag (.cell 22 (.var 3) y0 2) (.var 6)) (.and (.ag (.cell 22 (.var 3) y0 3) (.var 7)) (.beq (.cell 22 (.var 3) y0 4) (.var 8))))))
      (.fin {lo:=26,ae:=13,iv:=Z9,bv:=[(38,yw 21),(33,yw 16),(32,.lit true),(31,.lit false),(30,.cell 22 (.var 3) y0 4)],ct:=ja,bk:=jM,nb:=[1]})
      (.fin {lo:=26,ae:=13,iv:=Z9,bv:=agE,ct:=agG,bk:=jM,nb:=[1]})))
    (.ob (.or (.not (.ah y1 (.var 1))) (.ah y0 (.var 15))) <|
     .br (.not (.and (.and (.and (.ah y1 (.var 1)) (.ah (.var 1) (.var 15))) (.ah y0 (.var 3))) (.aY (.var 3) (.lit 10))))
     (.fin {lo:=26,ae:=13,iv:=DR,bv:=DT,ct:=ja,bk:=jM})
     (.ob (.inr .i64 (.add (.var 19) y1)) <|
      .ob (.inr .i64 (.sub (.var 1) y1)) <|
      .ob (.ah y0 (.sub (.var 1) y1)) <|
      .ob (.aY (.sub (.var 1) y1) (.var 15)) <|
      .br (.not (.cell 23 (.sub (.var 1) y1) y0 1))
      (.br (.var 21)
       (.fin {lo:=26,ae:=13,iv:=DU,bv:=DV,ct:=ja,bk:=KT,nb:=[1]})
       (.fin {lo:=26,ae:=13,iv:=DU,bv:=Bd,ct:=ja,bk:=jM,nb:=[1]}))
      (.br (.not (.ag (.cell 23 (.sub (.var 1) y1) y0 0) (.var 2)))
       (.br (.var 21)
        (.fin {lo:=26,ae:=13,iv:=DU,bv:=DV,ct:=ja,bk:=KT,nb:=[1]})
        (.fin {lo:=26,ae:=13,iv:=DU,bv:=Bd,ct:=ja,bk:=jM,nb:=[1]}))
       (.br (.not (.and (.ag (.cell 24 (.sub (.var 1) y1) (.var 3) 0) (.var 4)) (.and (.ag (.cell 24 (.sub (.var 1) y1) (.var 3) 2) (.var 6)) (.and (.ag (.cell 24 (.sub (.var 1) y1) (.var 3) 3) (.var 7)) (.beq (.cell 24 (.sub (.var 1) y1) (.var 3) 4) (.var 8))))))
        (.fin {lo:=26,ae:=13,iv:=aaa,bv:=[(38,yw 21),(33,yw 16),(32,.lit true),(31,.lit false),(30,.cell 24 (.sub (.var 1) y1) (.var 3) 4)],ct:=ja,bk:=jM,nb:=[1]})
        (.fin {lo:=26,ae:=13,iv:=aaa,bv:=agF,ct:=agH,bk:=jM,nb:=[1]}))))))
   (.br (.ag (.var 0) (.lit 4))
    (.ob (.inr .i64 (.add (.var 19) y1)) <|
     .ob (.or (.not (.var 16)) (.ag (.var 17) y0)) <|
     .ob (.ah y0 (.var 17)) <|
     .br (.ag (.var 17) y0)
     (.fin {lo:=26,ae:=13,iv:=wU,bv:=Bd,ct:=ja,bk:=jM,nb:=[1]})
     (.ob (.inr .i64 yY) <|
      .ob (.not (.var 16)) <|
      .ob (.ah y0 yY) <|
      .ob (.aY yY (.var 17)) <|
      .ob (.ah yY (.var 18)) <|
      .ob (.inr .i64 yX) <|
      .ob (.ah y0 yX) <|
      .ob (.aY yX (.var 15)) <|
      .ob (.inr .i64 (.add (.cell 23 yX y0 0) y1)) <|
      .ob (.inr .i64 (.add (.var 20) y1)) <|
      .ob (.ah yY (.var 17)) <|
      .fin {lo:=26,ae:=13,iv:=[(37,.add (.var 20) y1),(36,.add (.var 19) y1),(35,yv 18),(34,.sub (.var 17) y1),yz 29,yz 28,(27,.add (.cell 23 yX y0 0) y1),(26,.cell 25 yY y0 0)],bv:=aab,ct:=[(42,yu 25 17 1 yI 0),(41,.up {r:=24,n1:=.var 15,s1:=52,n2:=10,s2:=5,lo:=2,ks:=yW} 1 [⟨1,yX,(.lit 9),4,y3⟩,⟨1,yX,(.lit 9),3,.int .i64 (.var 12)⟩,⟨1,yX,(.lit 9),2,y2⟩,⟨1,yX,(.lit 9),1,y2⟩,⟨1,yX,(.lit 9),0,y2⟩,⟨1,yX,(.lit 8),4,y3⟩,⟨1,yX,(.lit 8),3,y2⟩,⟨1,yX,(.lit 8),2,y2⟩,⟨1,yX,(.lit 8),1,y2⟩,⟨1,yX,(.lit 8),0,y2⟩,⟨1,yX,(.lit 7),4,y3⟩,⟨1,yX,(.lit 7),3,y2⟩,⟨1,yX,(.lit 7),2,y2⟩,⟨1,yX,(.lit 7),1,y2⟩,⟨1,yX,(.lit 7),0,y2⟩,⟨1,yX,(.lit 6),4,y3⟩,⟨1,yX,(.lit 6),3,y2⟩,⟨1,yX,(.lit 6),2,y2⟩,⟨1,yX,(.lit 6),1,y2⟩,⟨1,yX,(.lit 6),0,y2⟩,⟨1,yX,(.lit 5),4,y3⟩,⟨1,yX,(.lit 5),3,y2⟩,⟨1,yX,(.lit 5),2,y2⟩,⟨1,yX,(.lit 5),1,y2⟩,⟨1,yX,(.lit 5),0,y2⟩,⟨1,yX,(.lit 4),4,y3⟩,⟨1,yX,(.lit 4),3,y2⟩,⟨1,yX,(.lit 4),2,y2⟩,⟨1,yX,(.lit 4),1,y2⟩,⟨1,yX,(.lit 4),0,y2⟩,⟨1,yX,(.lit 3),4,y3⟩,⟨1,yX,(.lit 3),3,y2⟩,⟨1,yX,(.lit 3),2,y2⟩,⟨1,yX,(.lit 3),1,y2⟩,⟨1,yX,(.lit 3),0,y2⟩,⟨1,yX,(.lit 2),4,y3⟩,⟨1,yX,(.lit 2),3,y2⟩,⟨1,yX,(.lit 2),2,y2⟩,⟨1,yX,(.lit 2),1,y2⟩,⟨1,yX,(.lit 2),0,y2⟩,⟨1,yX,y1,4,y3⟩,⟨1,yX,y1,3,y2⟩,⟨1,yX,y1,2,y2⟩,⟨1,yX,y1,1,y2⟩,⟨1,yX,y1,0,y2⟩,⟨1,yX,y0,4,y3⟩,⟨1,yX,y0,3,y2⟩,⟨1,yX,y0,2,y2⟩,⟨1,yX,y0,1,y2⟩,⟨1,yX,y0,0,y2⟩,⟨0,yX,y0,1,.bool (.lit true)⟩,⟨0,yX,y0,0,.int .i64 (.add (.cell 23 yX y0 0) y1)⟩] y0),(40,.up {r:=23,n1:=.var 15,s1:=52,ks:=yB} 0 [⟨1,yX,(.lit 9),4,y3⟩,⟨1,yX,(.lit 9),3,.int .i64 (.var 12)⟩,⟨1,yX,(.lit 9),2,y2⟩,⟨1,yX,(.lit 9),1,y2⟩,⟨1,yX,(.lit 9),0,y2⟩,⟨1,yX,(.lit 8),4,y3⟩,⟨1,yX,(.lit 8),3,y2⟩,⟨1,yX,(.lit 8),2,y2⟩,⟨1,yX,(.lit 8),1,y2⟩,⟨1,yX,(.lit 8),0,y2⟩,⟨1,yX,(.lit 7),4,y3⟩,⟨1,yX,(.lit 7),3,y2⟩,⟨1,yX,(.lit 7),2,y2⟩,⟨1,yX,(.lit 7),1,y2⟩,⟨1,yX,(.lit 7),0,y2⟩,⟨1,yX,(.lit 6),4,y3⟩,⟨1,yX,(.lit 6),3,y2⟩,⟨1,yX,(.lit 6),2,y2⟩,⟨1,yX,(.lit 6),1,y2⟩,⟨1,yX,(.lit 6),0,y2⟩,⟨1,yX,(.lit 5),4,y3⟩,⟨1,yX,(.lit 5),3,y2⟩,⟨1,yX,(.lit 5),2,y2⟩,⟨1,yX,(.lit 5),1,y2⟩,⟨1,yX,(.lit 5),0,y2⟩,⟨1,yX,(.lit 4),4,y3⟩,⟨1,yX,(.lit 4),3,y2⟩,⟨1,yX,(.lit 4),2,y2⟩,⟨1,yX,(.lit 4),1,y2⟩,⟨1,yX,(.lit 4),0,y2⟩,⟨1,yX,(.lit 3),4,y3⟩,⟨1,yX,(.lit 3),3,y2⟩,⟨1,yX,(.lit 3),2,y2⟩,⟨1,yX,(.lit 3),1,y2⟩,⟨1,yX,(.lit 3),0,y2⟩,⟨1,yX,(.lit 2),4,y3⟩,⟨1,yX,(.lit 2),3,y2⟩,⟨1,yX,(.lit 2),2,y2⟩,⟨1,yX,(.lit 2),1,y2⟩,⟨1,yX,(.lit 2),0,y2⟩,⟨1,yX,y1,4,y3⟩,⟨1,yX,y1,3,y2⟩,⟨1,yX,y1,2,y2⟩,⟨1,yX,y1,1,y2⟩,⟨1,yX,y1,0,y2⟩,⟨1,yX,y0,4,y3⟩,⟨1,yX,y0,3,y2⟩,⟨1,yX,y0,2,y2⟩,⟨1,yX,y0,1,y2⟩,⟨1,yX,y0,0,y2⟩,⟨0,yX,y0,1,.bool (.lit true)⟩,⟨0,yX,y0,0,.int .i64 (.add (.cell 23 yX y0 0) y1)⟩] y0),(39,yu 22 14 5 yW 0)],bk:=jM,nb:=[1]}))
    (.br (.ag (.var 0) (.lit 5))
     (.ob (.or (.not (.ah y1 (.var 4))) (.ah y0 (.var 15))) <|
      .br (.not (.and (.ah y1 (.var 4)) (.ah (.var 4) (.var 15))))
      (.fin {lo:=26,ae:=13,iv:=DR,bv:=DT,ct:=ja,bk:=jM})
      (.ob (.inr .i64 (.add (.var 19) y1)) <|
       .br (.ag (.var 4) y0)
       (.ob (.inr .i64 (.sub (.var 4) y1)) <|
        .ob (.ah y0 (.sub (.var 4) y1)) <|
        .ob (.aY (.sub (.var 4) y1) (.var 15)) <|
        .ob (.ah (.mul (.add (.var 17) y1) (.lit 8)) (.lit 140737488355328)) <|
        .ob (.ah y0 (.var 17)) <|
        .ob (.ah (.var 17) (.var 18)) <|
        .ob (.ah (.var 18) (.lit 9223372036854775807)) <|
        .ob (.or (.not (.var 16)) (.ag (.var 17) y0)) <|
        .new 26 [.be (.and (.ah (.add (.var 17) y1) (.var 26)) (.ah (.var 26) (.lit 9223372036854775807)))] <|
        .fin {lo:=26,ae:=13,iv:=agI,bv:=agJ,ct:=agK,bk:=[(14,yb 12),(13,yc 18 1)],nb:=[1]})
       (.ob (.inr .i64 (.sub (.var 4) y1)) <|
        .ob (.ah y0 (.sub (.var 4) y1)) <|
        .ob (.aY (.sub (.var 4) y1) (.var 15)) <|
        .br (.not (.cell 23 (.sub (.var 4) y1) y0 1))
        (.br (.var 21)
         (.fin {lo:=26,ae:=13,iv:=wU,bv:=DV,ct:=ja,bk:=[(14,yb 17),(13,yc 11 1)],nb:=[1]})
         (.fin {lo:=26,ae:=13,iv:=wU,bv:=Bd,ct:=ja,bk:=jM,nb:=[1]}))
        (.br (.not (.ag (.cell 23 (.sub (.var 4) y1) y0 0) (.var 5)))
         (.br (.var 21)
          (.fin {lo:=26,ae:=13,iv:=wU,bv:=DV,ct:=ja,bk:=[(14,yb 17),(13,yc 11 1)],nb:=[1]})
          (.fin {lo:=26,ae:=13,iv:=wU,bv:=Bd,ct:=ja,bk:=jM,nb:=[1]}))
         (.ob (.ah (.mul (.add (.var 17) y1) (.lit 8)) (.lit 140737488355328)) <|
          .ob (.ah y0 (.var 17)) <|
          .ob (.ah (.var 17) (.var 18)) <|
          .ob (.ah (.var 18) (.lit 9223372036854775807)) <|
          .ob (.or (.not (.var 16)) (.ag (.var 17) y0)) <|
          .new 26 [.be (.and (.ah (.add (.var 17) y1) (.var 26)) (.ah (.var 26) (.lit 9223372036854775807)))] <|
          .fin {lo:=26,ae:=13,iv:=agI,bv:=agJ,ct:=agK,bk:=[(14,yb 12),(13,yc 18 1)],nb:=[1]})))))
     (.fin {lo:=26,ae:=13,iv:=DR,bv:=DT,ct:=ja,bk:=jM})))))
theorem agL:exec tab doE 8000 [] (bZ qC.f qC.nv [] qC.gl qC.hp qC.args)=UW:=by kernel_rfl
def UX (ρ:Env):Prop:=bE ρ 16/\(bA ρ (ρ.iv 14) (ρ.iv 15) 16).OK/\ρ.iv 19<=1000000
def zC (ρ:Env):Prop:=bE ρ 33/\(bA ρ (ρ.iv 14) (ρ.iv 15) 16).act (bL ρ 0)=(bA ρ (ρ.iv 14) (ρ.iv 15) 33,if ρ.bv 32=true then some (az ρ 26) else none)/\(ρ.bv 32=false->az ρ 26=Rp.no)
theorem KU {v:Env} {p:PS} {a:Ac} {e:PS} {R:Option Rp} (f:bA v (v.iv 14) (v.iv 15) 16=p) (i:bL v 0=a) (b:p.act a=(e,R)) (g:bE v 33) (j:bA v (v.iv 14) (v.iv 15) 33=e) (c:v.bv 32=R.isSome) (d:az v 26=R.getD Rp.no):zC v:=by
 refine ⟨g,?_,λh=>?_⟩
 ·rw [f,i,b,j,c,d]
  cases R <;> simp
 ·rw [c] at h
  rw [d]
  cases R
  ·rfl
  ·cases h
theorem PN {p q:PS} (b:p.bP=q.bP:=by first | exact rfl | assumption) (g:∀i,p.bd i=q.bd i:=by intro i;first | (simp [bA,bu,bL,aC,PS.free,-Int.pred_toNat,Na];done) | (simp [bA,bu,bL,aC,PS.free,-Int.pred_toNat,Na];grind))
  (d:∀i,p.gen i=q.gen i:=by intro i;first | (simp [bA,bL,aC,PS.free,-Int.pred_toNat,Na];done) | (simp [bA,bL,aC,PS.free,-Int.pred_toNat,Na];grind)) (c:∀i,p.used i=q.used i:=by intro i;first | (simp [bA,bL,aC,PS.free,-Int.pred_toNat,Na];done) | (simp [bA,bL,aC,PS.free,-Int.pred_toNat,Na];grind))
  (h10:∀i k,p.cell i k=q.cell i k:=by intro i k;first | (simp [bA,bu,bL,aC,PS.free,-Int.pred_toNat,Na];done) | (simp [bA,bu,bL,aC,PS.free,-Int.pred_toNat,Na];grind)) (a:∀i,p.fr i=q.fr i:=by intro i;first | (simp [bA,bL,aC,PS.free,-Int.pred_toNat,Na];done) | (simp [bA,bL,aC,PS.free,-Int.pred_toNat,Na];grind))
  (h:p.nb=q.nb:=by exact rfl) (e:p.ns=q.ns:=by exact rfl) (l:p.nf=q.nf:=by exact rfl) (f:p.steps=q.steps:=by exact rfl) (j:p.made=q.made:=by exact rfl):p=q:=PS.ext' h e l f j b g d c h10 a
section
variable {v:Env} {j:PS} {R:Rp}
theorem ank (r:Env) (c:¬(bA r (r.iv 14) (r.iv 15) 16).valid (bL r 0)) (b:bE v 33) (f:bA v (v.iv 14) (v.iv 15) 33=bA r (r.iv 14) (r.iv 15) 16:=by exact PN) (e:v.bv 32=false:=by exact rfl) (g:az v 26=Rp.no:=by exact rfl) (a:bA v (v.iv 14) (v.iv 15) 16=bA r (r.iv 14) (r.iv 15) 16:=by exact rfl) (d:bL v 0=bL r 0:=by exact rfl):zC v:=KU a d (agA c) b f e g
theorem anl (r:Env) (d:(bA r (r.iv 14) (r.iv 15) 16).valid (bL r 0)) (a:¬(bA r (r.iv 14) (r.iv 15) 16).right (bL r 0)) (h:az v 26=wT (bL r 0).kind) (c:bE v 33) (g:bA v (v.iv 14) (v.iv 15) 33={bA r (r.iv 14) (r.iv 15) 16 with steps:=r.iv 19+1,bP:=false}:=by exact PN) (f:v.bv 32=true:=by exact rfl) (b:bA v (v.iv 14) (v.iv 15) 16=bA r (r.iv 14) (r.iv 15) 16:=by exact rfl) (e:bL v 0=bL r 0:=by exact rfl):zC v:=KU b e (Xw d a) c g f h
theorem wV (r:Env) (b:PS.makes {bA r (r.iv 14) (r.iv 15) 16 with steps:=r.iv 19+1} (bL r 0)=(j,R)) (e:(bA r (r.iv 14) (r.iv 15) 16).valid (bL r 0)) (a:(bA r (r.iv 14) (r.iv 15) 16).right (bL r 0)) (i:az v 26=R) (d:bE v 33) (h:bA v (v.iv 14) (v.iv 15) 33=j:=by exact PN) (g:v.bv 32=true:=by exact rfl) (c:bA v (v.iv 14) (v.iv 15) 16=bA r (r.iv 14) (r.iv 15) 16:=by exact rfl) (f:bL v 0=bL r 0:=by exact rfl):zC v:=KU c f (agC e a b) d h g i
end
set_option maxHeartbeats 40000000 in
theorem agM (r:Env) (b:UX r.num):Sat zC [] [] r UW:=by
 replace b:UX r:=b
 obtain ⟨a,d,o⟩:=b
 have l:0<=r.iv 14/\r.iv 14<=200:=d.nb
 have y:0<=r.iv 15/\r.iv 15<=1024:=d.ns
 have n:0<=r.iv 17:=d.nf
 have z:0<=r.iv 20/\r.iv 20<=r.iv 19:=d.made
 have m:r.iv 17<=r.iv 15:=by
  have h:((l8 (bA r (r.iv 14) (r.iv 15) 16).used (r.iv 15).toNat:Nat):Int)+r.iv 17=r.iv 15:=d.cnt
  omega
 have g:=a.2.2
 simp only [Nat.reduceAdd] at g
 have w:r.iv 17=0\/(1<=r.ic 25 (r.iv 17-1).toNat 0 0/\r.ic 25 (r.iv 17-1).toNat 0 0<=r.iv 15):=by
  by_cases h:r.iv 17=0
  ·exact .inl h
  ·obtain ⟨p,B,-⟩:=d.fr (r.iv 17-1).toNat (by show (((r.iv 17-1).toNat:Nat):Int)<r.iv 17;omega)
   exact .inr ⟨p,B⟩
 have E:0<=r.ic 23 (r.ic 25 (r.iv 17-1).toNat 0 0-1).toNat 0 0/\r.ic 23 (r.ic 25 (r.iv 17-1).toNat 0 0-1).toNat 0 0<=r.iv 20:=d.gen _
 clear d
 unfold UW
 repeat' first
  | ((refine Sat.br (λc=>?_) (λc=>?_)) <;> simp only [Da] at c)
  | refine Sat.ob (by first | exact dP a | exact uo a (by simp only [Nat.reduceAdd];omega) | (simp only [Da];omega)) ?_
  | (refine Sat.new λe f=>?_
     have f:=f _ (List.mem_singleton.2 rfl)
     simp only [D.be,Da] at f
     skip)
  | (exfalso;omega)
 all_goals try clear l y n z m g w E
 all_goals first
  | (refine Sat.fin (ank r ?_ a) <;> simp [-Int.pred_toNat,PS.valid,PS.has,PS.is,bA,bL,aC, *] <;> omega)
  | (refine Sat.fin (anl r ?_ ?_ ?_ a)
     · simp [-Int.pred_toNat,PS.valid,PS.has,PS.is,bA,bL,aC, *] <;> omega
     · simp [-Int.pred_toNat,PS.right,PS.live,bA,bL,aC, *] <;> omega
     · simp [az,aC,wT,bL,Rp.no,Wd.zero, *,-Int.pred_toNat,Na])
  | (refine Sat.fin (wV r (aen ?_ ?_) ?_ ?_ ?_ a) <;> first | assumption | (simp [-Int.pred_toNat,PS.valid,PS.has,PS.is,PS.right,PS.live,bA,bL,aC, *] <;> omega) | (simp [az,bA,aC,bu,bL,Rp.no,Wd.zero, *,-Int.pred_toNat,Na];done) | (simp [eY,bA,bL,bu,aC];grind))
  | (refine Sat.fin (wV r (aeo ?_ ?_) ?_ ?_ ?_ a) <;> first | assumption | (simp [-Int.pred_toNat,PS.valid,PS.has,PS.is,PS.right,PS.live,bA,bL,aC, *] <;> omega) | (simp [az,bA,aC,bu,bL,Rp.no,Wd.zero, *,-Int.pred_toNat,Na];done) | (simp [eY,bA,bL,bu,aC];grind))
  | (refine Sat.fin (wV r (aep ?_ ?_) ?_ ?_ ?_ a) <;> first | assumption | (simp [-Int.pred_toNat,PS.valid,PS.has,PS.is,PS.right,PS.live,bA,bL,aC, *] <;> omega) | (simp [az,bA,aC,bu,bL,Rp.no,Wd.zero, *,-Int.pred_toNat,Na];done) | (simp [eY,bA,bL,bu,aC];grind))
  | (refine Sat.fin (wV r (aeq ?_ ?_) ?_ ?_ ?_ a) <;> first | assumption | (simp [-Int.pred_toNat,PS.valid,PS.has,PS.is,PS.right,PS.live,bA,bL,aC, *] <;> omega) | (simp [az,bA,aC,bu,bL,Rp.no,Wd.zero, *,-Int.pred_toNat,Na];done) | (simp [eY,bA,bL,bu,aC];grind))
  | (refine Sat.fin (wV r (aer ?_ ?_ ?_) ?_ ?_ ?_ a) <;> first | assumption | (simp [-Int.pred_toNat,PS.valid,PS.has,PS.is,PS.right,PS.live,bA,bL,aC, *] <;> omega) | (simp [az,bA,aC,bu,bL,Rp.no,Wd.zero, *,-Int.pred_toNat,Na];done) | (simp [eY,bA,bL,bu,aC];grind))
  | (refine Sat.fin (wV r (aes ?_ ?_ ?_) ?_ ?_ ?_ a) <;> first | assumption | (simp [-Int.pred_toNat,PS.valid,PS.has,PS.is,PS.right,PS.live,bA,bL,aC, *] <;> omega) | (simp [az,bA,aC,bu,bL,Rp.no,Wd.zero, *,-Int.pred_toNat,Na];done) | (simp [eY,bA,bL,bu,aC];grind))
  | (refine Sat.fin (wV r (Z7 ?_ ?_ ?_) ?_ ?_ ?_ a) <;> first | assumption | (simp [-Int.pred_toNat,PS.valid,PS.has,PS.is,PS.right,PS.live,bA,bL,aC, *] <;> omega) | (simp [az,bA,aC,bu,bL,Rp.no,Wd.zero, *,-Int.pred_toNat,Na];done) | (simp [eY,bA,bL,bu,aC];grind))
  | (refine Sat.fin (wV r (Z8 ?_ ?_ ?_) ?_ ?_ ?_ a) <;> first | assumption | (simp [-Int.pred_toNat,PS.valid,PS.has,PS.is,PS.right,PS.live,bA,bL,aC, *] <;> omega) | (simp [az,bA,aC,bu,bL,Rp.no,Wd.zero, *,-Int.pred_toNat,Na];done) | (simp [eY,bA,bL,bu,aC];grind))
  | (refine Sat.fin (wV r (aet ?_ ?_) ?_ ?_ ?_ a) <;> first | assumption | (simp [-Int.pred_toNat,PS.valid,PS.has,PS.is,PS.right,PS.live,bA,bL,aC, *] <;> omega) | (simp [az,bA,aC,bu,bL,Rp.no,Wd.zero, *,-Int.pred_toNat,Na];done) | (simp [eY,bA,bL,bu,aC];grind))
  | skip
 ·refine Sat.fin (wV r (aeu ?_ ?_) ?_ ?_ ?_ ?_ (PN (h10:=?_)))
  any_goals first | assumption | (simp [-Int.pred_toNat,PS.valid,PS.has,PS.is,PS.right,PS.live,bA,bL,aC, *] <;> omega)
  ·simp [az,aC,bA,bu,bL,Wd.zero,-Int.pred_toNat,Na]
  ·obtain ⟨t,s,x,A⟩:=a
   refine ⟨λh=>absurd (t h) ‹_›,?_,?_,A⟩
   ·show 0<=r.iv 17-1
    have:0<=r.iv 17:=s
    omega
   ·show r.iv 17-1<=r.iv 18
    have:r.iv 17<=r.iv 18:=x
    omega
  ·intro i k
   by_cases h:i=(r.ic 25 (r.iv 17-1).toNat 0 0-1).toNat
   ·subst h
    by_cases d:k<10
    ·have:k=0\/k=1\/k=2\/k=3\/k=4\/k=5\/k=6\/k=7\/k=8\/k=9:=by omega
     rcases this with rfl | rfl | rfl | rfl | rfl | rfl | rfl | rfl | rfl | rfl <;> simp [bA,bu,bL,aC,iF,Wd.zero,-Int.pred_toNat,Na]
    ·have q:∀j,j<10->¬j=k:=λj F=>by omega
     simp [bA,bu,bL,aC,-Int.pred_toNat,Na,d,q]
   ·simp [bA,bu,bL,aC,-Int.pred_toNat,Na,h,Ne.symm h]
 ·have C:(bA r (r.iv 14) (r.iv 15) 16).valid (bL r 0):=by simp [-Int.pred_toNat,PS.valid,PS.is,bL,aC,bA, *]
  have u:(bA r (r.iv 14) (r.iv 15) 16).right (bL r 0):=by simp [-Int.pred_toNat,PS.right,PS.live,bL,aC,bA, *]
  rename_i f
  refine Sat.fin (wV (r.join 26 e) (agD ?_) C u ?_ ?_ (PN))
  ·assumption
  ·simp [az,aC,Wd.zero,-Int.pred_toNat,Na]
  ·refine ⟨λh=>(by cases h),?_,f.1,f.2⟩
   show 0<=r.iv 17+1
   have:0<=r.iv 17:=a.2.1
   omega
theorem agN:aK Tryz.prog qC UX zC :=
 bq bM (E:=doE) (cs:=[]) rfl (λk pre post h=>by cases h) aO rfl agL (by kernel_rfl) (λb _ p a=>by cases a) agM
end Go.Proofs.YthomdlajobnmnaaGreatDoor
namespace Go.Rex
theorem cK.alloc {a w:World} {W:Nat->Prop} (h:cK a W w) (o:Obj):cK a W (w.alloc o) :=
 h.step rfl rfl rfl (by simp) λk b _=>heap_alloc_old w _ (Nat.lt_of_lt_of_le b h.size)
section
variable {H:Type} {enc:TypeId × Value->H} {P:Program} {W:World}
open Go.WideShapes Go.ChangeShapes Go.RowKit
end
section
variable {σ:Sub} {ρ ρ':Env} {N:Nat}
theorem uA (m k:Nat):(aV σ m N ρ ρ').iv (m+k)=ρ'.iv (N+k):=by
 show (if m+k<m then (σ.bT ρ).iv (m+k) else ρ'.iv (m+k-m+N))=_
 all_goals grind
theorem DW (m k:Nat):(aV σ m N ρ ρ').bv (m+k)=ρ'.bv (N+k):=by
 show (if m+k<m then (σ.bT ρ).bv (m+k) else ρ'.bv (m+k-m+N))=_
 all_goals grind
theorem Xx (m k:Nat):(aV σ m N ρ ρ').ic (m+k)=ρ'.ic (N+k):=by
 show (if m+k<m then (σ.bT ρ).ic (m+k) else ρ'.ic (m+k-m+N))=_
 all_goals grind
theorem Xy (m k:Nat):(aV σ m N ρ ρ').bc (m+k)=ρ'.bc (N+k):=by
 show (if m+k<m then (σ.bT ρ).bc (m+k) else ρ'.bc (m+k-m+N))=_
 all_goals grind
end
end Go.Rex
namespace Go.Proofs.YthomdlajobnmnaaGreatDoor
open Go.Rex
def dX (ρ:Env) (r:Nat) (n:Int):List Wd:=(List.range n.toNat).map λi=>bu (ρ.ic r i 0) (ρ.bc r i 0)
def bB (ρ:Env) (r:Nat) (i:Nat):Nt:=⟨bu (ρ.ic r i 0) (ρ.bc r i 0),ρ.ic r i 0 5,ρ.ic r i 0 6⟩
def aN (ρ:Env) (r:Nat) (n:Int):List Nt:=(List.range n.toNat).map (bB ρ r)
def gX (ρ:Env) (r:Nat) (o n:Int):List Nt:=(List.range n.toNat).map λi=>bB ρ r (o.toNat+i)
def fe (ρ:Env) (v:Nat):Ca:=⟨ρ.iv v,ρ.iv (v+1),ρ.iv (v+2),ρ.iv (v+3),aC ρ (v+4),aC ρ (v+9),ρ.iv (v+14),ρ.iv (v+15),ρ.iv (v+16),ρ.iv (v+17)⟩
def aa (ρ:Env) (s v:Nat):RS where
 call:=fe ρ v
 step:=ρ.iv (v+18)
 acc:=bL ρ (v+19)
 word:=aC ρ (v+33)
 clock:=aC ρ (v+38)
 index:=ρ.iv (v+43)
 seen:=dX ρ (v+64) (ρ.iv (v+45))
 bK:=gX ρ (v+65) (ρ.iv (v+65)) (ρ.iv (v+48))
 af:=ρ.iv s
 me:=ρ.iv (s+1)
 threads:=ρ.iv (s+2)
 most:=ρ.iv (s+3)
 holds:=λi=>bu (ρ.ic (v+50) i 0) (ρ.bc (v+50) i 0)
 span:=⟨ρ.bv (v+51),ρ.iv (v+52),ρ.iv (v+53)⟩
 notes:=aN ρ (v+66) (ρ.iv (v+55))
 freed:=ρ.iv (v+57)
 bS:=az ρ (v+58)
def dw (ρ:Env) (v:Nat):Prop:=bE ρ (v+44)/\(bE ρ (v+47)/\0<=ρ.iv (v+65)/\(ρ.iv (v+48)=0\/ρ.iv (v+65)+ρ.iv (v+48)<=ρ.iv (v+66)))/\bE ρ (v+54)
theorem RS.ext' {p q:RS} (h:p.call=q.call) (d:p.step=q.step) (n:p.acc=q.acc) (g:p.word=q.word) (k:p.clock=q.clock) (o:p.index=q.index) (j:p.seen=q.seen) (m:p.bK=q.bK) (r:p.af=q.af) (h10:p.me=q.me) (b:p.threads=q.threads) (a:p.most=q.most)
  (e:∀i,p.holds i=q.holds i) (f:p.span=q.span) (s:p.notes=q.notes) (c:p.freed=q.freed) (l:p.bS=q.bS):p=q:=by
 cases p
 cases q
 simp only at *
 subst h d n g k o j m r h10 b a f s c l
 obtain rfl:=funext e
 rfl
theorem Be {ρ ρ':Env} {r a:Nat} {n b:Int} (c:n=b) (h:∀i,bu (ρ.ic r i 0) (ρ.bc r i 0)=bu (ρ'.ic a i 0) (ρ'.bc a i 0)):dX ρ r n=dX ρ' a b:=by
 subst c
 unfold dX
 congr 1
 funext i
 exact h i
theorem eU {ρ ρ':Env} {r b:Nat} {n a:Int} (c:n=a) (h:∀i,bB ρ r i=bB ρ' b i):aN ρ r n=aN ρ' b a:=by
 subst c
 unfold aN
 congr 1
 funext i
 exact h i
theorem DX {ρ:Env} {r:Nat} {n:Int} (a:n=0):dX ρ r n=[]:=by subst a;rfl
theorem DY {ρ:Env} {r:Nat} {n:Int} (a:n=0):aN ρ r n=[]:=by subst a;rfl
theorem Bf {ρ ρ':Env} {r b:Nat} {o c n a:Int} (e:n=a) (d:o=c) (h:∀i,bB ρ r i=bB ρ' b i):gX ρ r o n=gX ρ' b c a:=by
 subst e d
 unfold gX
 congr 1
 funext i
 exact h _
theorem oV {ρ:Env} {r:Nat} {o n:Int} (a:n=0):gX ρ r o n=[]:=by subst a;rfl
theorem FV {a b:List Wd} (h:a=b:=by first | exact DX rfl | exact Be rfl λi=>by simp [bu,-Int.pred_toNat,Na] | assumption):a=b:=h
theorem MG {a b:List Nt} (h:a=b:=by first | exact DY rfl | exact eU rfl λi=>by simp [bB,bu,-Int.pred_toNat,Na] | assumption):a=b:=h
theorem XC {a b:List Nt} (h:a=b:=by first | exact oV rfl | exact Bf rfl rfl λi=>by simp [bB,bu,-Int.pred_toNat,Na] | assumption):a=b:=h
theorem FW {a b:Nat->Wd} (h:∀i,a i=b i:=by intro i;first | rfl | (simp [aa,bu,-Int.pred_toNat,Na];done) | (simp [aa,bu,-Int.pred_toNat,Na];rfl)):∀i,a i=b i:=h
theorem bI {p q:RS} (h:p.call=q.call:=by exact rfl) (d:p.step=q.step:=by exact rfl) (n:p.acc=q.acc:=by exact rfl) (g:p.word=q.word:=by exact rfl) (k:p.clock=q.clock:=by exact rfl) (o:p.index=q.index:=by exact rfl) (j:p.seen=q.seen:=by exact FV) (m:p.bK=q.bK:=by exact XC) (r:p.af=q.af:=by exact rfl) (h10:p.me=q.me:=by exact rfl) (b:p.threads=q.threads:=by exact rfl) (a:p.most=q.most:=by exact rfl) (e:∀i,p.holds i=q.holds i:=by exact FW) (f:p.span=q.span:=by exact rfl) (s:p.notes=q.notes:=by exact MG) (c:p.freed=q.freed:=by exact rfl) (l:p.bS=q.bS:=by exact rfl):p=q:=RS.ext' h d n g k o j m r h10 b a e f s c l
theorem UY {ρ:Env} {r:Nat} {n:Int}:gX ρ r 0 n=aN ρ r n:=by
 unfold gX aN
 congr 1
 funext i
 simp
theorem Jw {ρ:Env} {r:Nat} {o n:Int} (b:0<n) (a:0<=o):gX ρ r o n=bB ρ r o.toNat :: gX ρ r (o+1) (n-1):=by
 unfold gX
 rw [show n.toNat=(n-1).toNat+1 by omega,List.range_succ_eq_map,List.map_cons,List.map_map,Nat.add_zero]
 congr 1
 congr 1
 funext i
 simp only [Function.comp]
 congr 1
 omega
theorem xK {ρ:Env} {r:Nat} {n:Int}:(dX ρ r n).length=n.toNat:=by simp [dX]
theorem jN {ρ:Env} {r:Nat} {n:Int}:(aN ρ r n).length=n.toNat:=by simp [aN]
theorem UZ {ρ ρ':Env} {r a:Nat} {n b:Int} {w:Wd} (f:0<=n) (e:b=n+1) (h:∀i:Nat,(i:Int)<n->bu (ρ'.ic a i 0) (ρ'.bc a i 0)=bu (ρ.ic r i 0) (ρ.bc r i 0)) (c:bu (ρ'.ic a n.toNat 0) (ρ'.bc a n.toNat 0)=w) :
  dX ρ' a b=dX ρ r n ++ [w]:=by
 subst e c
 unfold dX
 rw [show (n+1).toNat=n.toNat+1 by omega,List.range_succ,List.map_append]
 congr 1
 exact List.map_congr_left λi d=>h i (by have:=List.mem_range.1 d;omega)
theorem Bh {ρ ρ':Env} {r a:Nat} {n b:Int} {w:Nt} (f:0<=n) (e:b=n+1) (h:∀i:Nat,(i:Int)<n->bB ρ' a i=bB ρ r i) (c:bB ρ' a n.toNat=w) :
  aN ρ' a b=aN ρ r n ++ [w]:=by
 subst e c
 unfold aN
 rw [show (n+1).toNat=n.toNat+1 by omega,List.range_succ,List.map_append]
 congr 1
 exact List.map_congr_left λi d=>h i (by have:=List.mem_range.1 d;omega)
theorem DZ {a b:Wd}:a=b↔a.slot=b.slot/\a.gen=b.gen/\a.tag=b.tag/\a.num=b.num/\a.mark=b.mark:=by
 cases a;cases b;simp
section
variable {σ:Sub} {ρ q:Env} {m d i:Nat}
theorem Jy (h:i<m):(aV σ m d ρ q).iv i=(σ.bT ρ).iv i:=if_pos h
theorem ajY (h:i<m):(aV σ m d ρ q).bv i=(σ.bT ρ).bv i:=if_pos h
theorem acf (h:i<m):(aV σ m d ρ q).ic i=(σ.bT ρ).ic i:=if_pos h
theorem acg (h:i<m):(aV σ m d ρ q).bc i=(σ.bT ρ).bc i:=if_pos h
theorem XD (h:i<m):bB (aV σ m d ρ q) i=bB (σ.bT ρ) i:=by
 funext k
 unfold bB
 rw [acf h,acg h]
theorem MH (k:Nat):bB (aV σ m d ρ q) (m+k)=bB q (d+k):=by
 funext j
 unfold bB
 rw [Xx,Xy]
theorem KV (h:71<=m):aa (aV σ m d ρ q) 0 4=aa (σ.bT ρ) 0 4:=by
 unfold aa fe bL az aC dX aN gX
 simp (disch:=omega) only [XD,Jy,ajY,acf,acg]
theorem KW (h:71<=m) (a:∀i,i<4->(σ.bT ρ).iv i=q.iv i):aa (aV σ m d ρ q) 0 m=aa q 0 d:=by
 have f:=(Jy (σ:=σ) (ρ:=ρ) (q:=q) (d:=d) (show 0<m by omega)).trans (a 0 (by omega))
 have e:=(Jy (σ:=σ) (ρ:=ρ) (q:=q) (d:=d) (show 0+1<m by omega)).trans (a 1 (by omega))
 have c:=(Jy (σ:=σ) (ρ:=ρ) (q:=q) (d:=d) (show 0+2<m by omega)).trans (a 2 (by omega))
 have g:=(Jy (σ:=σ) (ρ:=ρ) (q:=q) (d:=d) (show 0+3<m by omega)).trans (a 3 (by omega))
 have z0:=uA (σ:=σ) (ρ:=ρ) (ρ':=q) (N:=d) m 0
 have b:=DW (σ:=σ) (ρ:=ρ) (ρ':=q) (N:=d) m 0
 rw [Nat.add_zero,Nat.add_zero] at z0 b
 unfold aa fe bL az aC dX aN gX
 rw [f,e,c,g]
 simp only [MH,Nat.add_assoc,Nat.reduceAdd,uA,DW,Xx,Xy,z0,b]
theorem oW (k:Nat):bE (aV σ m d ρ q) (m+k)=bE q (d+k):=by
 unfold bE
 simp only [Nat.add_assoc,uA,DW]
theorem GY:dw (aV σ m d ρ q) m=dw q d:=by
 unfold dw
 rw [oW,oW,oW,uA,uA,uA]
end
section
variable {post:Env->Prop} {cs:mo} {Γ:List (Env->Prop)} {ρ:Env}
theorem jO {g nv:Nat} {σ:Sub} {k:Out} {c:dJ} {pre l:Env->Prop} (n:cs[g]?=some (c,pre,l)) (r:RS) (M:RS)
  (m:71<=c.nv) (w:4<=nv) (f:∀i,i<4->(σ.bT ρ).iv i=ρ.iv i) (d:pre (σ.bT ρ)) (s:aa (σ.bT ρ) 0 4=r)
  (j:∀e:Env,l (aV σ c.nv nv ρ (ρ.join nv e))->aa (aV σ c.nv nv ρ (ρ.join nv e)) 0 4=r->dw (aV σ c.nv nv ρ (ρ.join nv e)) c.nv/\aa (aV σ c.nv nv ρ (ρ.join nv e)) 0 c.nv=M) (K:Env->Prop)
  (p:∀e,dw (ρ.join nv e) nv->aa (ρ.join nv e) 0 nv=M->K (ρ.join nv e)) (h:∀q,K q->Sat post cs Γ q k):Sat post cs Γ ρ (.call g σ nv k):=by
 refine Sat.dF n d K (λe o=>?_) h
 have t:∀i,i<4->(σ.bT ρ).iv i=(ρ.join nv e).iv i:=λi u=>by
  rw [f i u]
  exact (if_pos (show i<nv by omega)).symm
 obtain ⟨a,b⟩:=j e o ((KV m).trans s)
 rw [GY] at a
 rw [KW m t] at b
 exact p e a b
end
theorem qE {ρ:Env} {b:Nat} (a:ρ.iv (b+1)=0) (c:ρ.iv (b+2)=0):bE ρ b:=by
 refine ⟨λ_=>a,?_,?_,?_⟩ <;> omega
theorem ok1 {a:Prop} (h:a:=by first | exact o1 | exact o2 | exact o3 | exact qE rfl rfl | assumption):a:=h
theorem ok2 {a:Prop} (h:a:=by first | exact o2 | exact ⟨qE rfl rfl,Int.le_refl 0,.inl rfl⟩ | assumption):a:=h
theorem il {a b c:Prop} (e:a:=by exact ok1) (d:b:=by exact ok2) (f:c:=by exact ok1):a/\b/\c:=⟨e,d,f⟩
def rX (ρ:Env) (r:Nat) (n:Int):List Int:=(List.range n.toNat).map λi=>ρ.ic r i 0 0
def lu (ρ:Env) (r:Nat) (i:Nat):Sp:=⟨ρ.bc r i 0 0,ρ.ic r i 0 1,ρ.ic r i 0 2⟩
def iK (ρ:Env) (r:Nat) (n:Int):List Sp:=(List.range n.toNat).map (lu ρ r)
structure iP (ρ ρ':Env):Prop where
 iv:∀i,i<8->ρ'.iv i=ρ.iv i
 bv:∀i,i<8->ρ'.bv i=ρ.bv i
 ic:∀i,i<8->ρ'.ic i=ρ.ic i
 bc:∀i,i<8->ρ'.bc i=ρ.bc i
theorem iP.join (ρ e:Env) (N:Nat) (h:8<=N):iP ρ (ρ.join N e):=⟨λi a=>if_pos (by omega),λi a=>if_pos (by omega),λi a=>if_pos (by omega),λi a=>if_pos (by omega)⟩
theorem iP.bT (ρ:Env) {σ:Sub} (h:8<=σ.lo):iP ρ (σ.bT ρ):=⟨λi a=>if_pos (by omega),λi a=>if_pos (by omega),λi a=>if_pos (by omega),λi a=>if_pos (by omega)⟩
theorem iP.num (ρ:Env):iP ρ ρ.num:=⟨λ_ _=>rfl,λ_ _=>rfl,λ_ _=>rfl,λ_ _=>rfl⟩
theorem iP.trans {a b c:Env} (h:iP a b) (k:iP b c):iP a c:=⟨λi d=>(k.iv i d).trans (h.iv i d),λi d=>(k.bv i d).trans (h.bv i d),λi d=>(k.ic i d).trans (h.ic i d),λi d=>(k.bc i d).trans (h.bc i d)⟩
theorem iP.nt {ρ ρ':Env} (h:iP ρ ρ') (i:Nat):bB ρ' 3 i=bB ρ 3 i:=by
 unfold bB
 rw [h.ic 3 (by decide),h.bc 3 (by decide)]
theorem iP.row {ρ ρ':Env} (h:iP ρ ρ') (n:Int):aN ρ' 3 n=aN ρ 3 n:=by
 unfold aN
 rw [funext h.nt]
theorem iP.ok {ρ ρ':Env} (h:iP ρ ρ') (b:Nat) (a:b+2<8) (k:bE ρ b):bE ρ' b:=by
 unfold bE at *
 rw [h.bv b (by omega),h.iv (b+1) (by omega),h.iv (b+2) (by omega)]
 exact k
def KX (n:Nat):CV:=.up {r:=n+2,n1:=.add (.var n) (.lit 1),s1:=7,ks:=kN} 0 [⟨0,.var n,.lit 0,0,.int .i64 (.cell 3 (.var 16) (.lit 0) 0)⟩,⟨0,.var n,.lit 0,1,.int .i64 (.cell 3 (.var 16) (.lit 0) 1)⟩,⟨0,.var n,.lit 0,2,.int .i64 (.cell 3 (.var 16) (.lit 0) 2)⟩,⟨0,.var n,.lit 0,3,.int .i64 (.cell 3 (.var 16) (.lit 0) 3)⟩,⟨0,.var n,.lit 0,4,.bool (.cell 3 (.var 16) (.lit 0) 4)⟩,⟨0,.var n,.lit 0,5,.int .i64 (.cell 3 (.var 16) (.lit 0) 5)⟩,⟨0,.var n,.lit 0,6,.int .i64 (.cell 3 (.var 16) (.lit 0) 6)⟩] (.lit 0)
def D5 (n:Nat):CV:=.up {r:=n+2,n1:=.var n,s1:=7,ks:=kN} 0 [] (.lit 0)
def PO (a b c d:Nat):List (Nat × SA):=[(a,{ak:=b,i1:=.lit 0,s1:=7}),(c,{ak:=d,i1:=.lit 0,s1:=7})]
def agP (n w:Nat) (k:Out):Out :=
 .ob (.ah (.mul (.add (.var n) (.lit 1)) (.lit 56)) (.lit 140737488355328))<|.ob (.ah (.lit 0) (.var n))<|.ob (.ah (.var n) (.var (n+1)))<|.ob (.ah (.var (n+1)) (.lit 9223372036854775807))<|.ob (.or (.not (.var (n-1))) (.ag (.var n) (.lit 0))) <|
 .new w [.be (.and (.ah (.add (.var n) (.lit 1)) (.var w)) (.ah (.var w) (.lit 9223372036854775807)))]<|.ob (.inr .i64 (.add (.var 16) (.lit 1))) k
def dvH (w d ae:Nat) (bk:List (Nat × SA)):Out:=agP 13 w (.back d {lo:=8,ae:=ae,iv:=[(16,.add (.var 16) (.lit 1)),(14,.var w),(13,.add (.var 13) (.lit 1)),(10,.var 10),(9,.var 9)],bv:=[(12,.lit false),(8,.var 8)],ct:=[(15,KX 13),(11,D5 9)],bk:=bk})
def dvM (w d ae:Nat) (bk:List (Nat × SA)):Out:=agP 9 w (.back d {lo:=8,ae:=ae,iv:=[(16,.add (.var 16) (.lit 1)),(14,.var 14),(13,.var 13),(10,.var w),(9,.add (.var 9) (.lit 1))],bv:=[(12,.var 12),(8,.lit false)],ct:=[(15,D5 13),(11,KX 9)],bk:=bk})
def PT (c:BE) (b:Nat):Out :=
 .ob (.or (.not (.var 4)) (.ag (.var 5) (.lit 0)))<|.ob (.ah (.lit 0) (.var 5))<|.loop 17 {lo:=17,ae:=7,iv:=[(17,.lit 0)]}<|.br (.aY (.var 17) (.var 5))
  (.ob (.not (.var 4))<|.ob (.ah (.lit 0) (.var 17))<|.br c (dvH 18 1 3 (PO 4 b 3 3)) (.ob (.inr .i64 (.add (.var 17) (.lit 1)))<|.back 0 {lo:=17,ae:=7,iv:=[(17,.add (.var 17) (.lit 1))]})) (dvM 18 1 3 (PO 4 4 3 8))
def Fa (l:Nat) (k:Out):Out :=
 .ob (.or (.not (.var 0)) (.ag (.var 1) (.lit 0)))<|.ob (.ah (.lit 0) (.var 1)) <|
 .loop 8 {lo:=8,ae:=l+1,iv:=[(16,.lit 0),(14,.lit 0),(13,.lit 0),(10,.lit 0),(9,.lit 0)],bv:=[(12,.lit true),(8,.lit true)],nb:=[l+2,l+1]}<|.br (.aY (.var 16) (.var 1)) (.ob (.not (.var 0))<|.ob (.ah (.lit 0) (.var 16)) k)
 (.fin {lo:=8,ae:=l,iv:=[(14,.var 14),(13,.var 13),(10,.var 10),(9,.var 9)],bv:=[(12,.var 12),(8,.var 8)],ct:=[(15,D5 13),(11,D5 9)],bk:=PO (l+1) (if l=2 then 4 else 3) l (l+1)})
section
variable (f:Env->Nt->Bool) (X:Env->Prop)
def ma (ρ:Env):Prop:=((bE ρ 0/\ρ.iv 1<=1000000)/\X ρ)/\(0<=ρ.iv 16/\ρ.iv 16<=ρ.iv 1)/\(bE ρ 8/\aN ρ 11 (ρ.iv 9)=(aN ρ 3 (ρ.iv 16)).filter λn=>!f ρ n)/\bE ρ 12/\ρ.iv 13<=ρ.iv 16
def zD (ρ:Env):Prop:=bE ρ 8/\aN ρ 11 (ρ.iv 9)=(aN ρ 3 (ρ.iv 1)).filter λn=>!f ρ n
structure Dv:Prop where
 f:∀ρ ρ',iP ρ ρ'->f ρ'=f ρ
 X:∀ρ ρ',iP ρ ρ'->X ρ->X ρ'
end
section
variable {f:Env->Nt->Bool} {X:Env->Prop} {q:Env} {P:Env->Prop} {Γ:List (Env->Prop)} {G:Env->Prop} {w d L:Nat} {M:List (Nat × SA)}
theorem ma.agS (V:Dv f X) (h:ma f X q.num):ma f X q:=by
 unfold ma at *
 rw [V.f _ _ (iP.num q)] at h
 exact ⟨⟨h.1.1,V.X q.num q ⟨λ_ _=>rfl,λ_ _=>rfl,λ_ _=>rfl,λ_ _=>rfl⟩ h.1.2⟩,h.2⟩
theorem ma.len (h:ma f X q):q.iv 9<=q.iv 16:=by
 obtain ⟨-,⟨e,i⟩,⟨⟨k,c,g,j⟩,b⟩,-⟩:=h
 have:=congrArg List.length b
 rw [jN] at this
 have a:=List.length_filter_le (λn=>!f q n) (aN q 3 (q.iv 16))
 rw [jN] at a
 simp only [Nat.reduceAdd] at c
 omega
theorem PU {n:Int} (h:0<=n):aN q 3 (n+1)=aN q 3 n ++ [bB q 3 n.toNat]:=Bh h rfl (λ_ _=>rfl) rfl
theorem SS (V:Dv f X) (j:ma f X q) (z:q.iv 16<q.iv 1) (n:f q (bB q 3 (q.iv 16).toNat)=true) (r:w=17\/w=18) (t:Γ[d]?=some G) (l:∀e,ma f X e->(e.iv 1-e.iv 16).toNat<(q.iv 1-q.iv 16).toNat->G e):Sat P [] Γ q (dvH w d L M):=by
 have A:=j.len
 obtain ⟨⟨⟨a1,a2⟩,k⟩,⟨u,y⟩,⟨o,x⟩,p,m⟩:=j
 obtain ⟨s,h,c,g⟩:=id p
 simp only [Nat.reduceAdd] at s h c g
 refine oS (Sat.ob (decide_eq_true h) (Sat.ob (decide_eq_true c) (Sat.ob (decide_eq_true g) (Sat.ob (dP p) (Sat.new λe a=>Sat.ob ?_ (Sat.back t (l _ ?_ ?_)))))))
 all_goals rcases r with rfl | rfl
 all_goals
  have a:=a _ (List.mem_singleton.2 rfl)
  simp only [D.be,Da] at a
  simp [Env.join] at a
  first
  | (simp only [Da];simp [Env.join];omega)
  | (show (q.iv 1-(q.iv 16+1)).toNat<(q.iv 1-q.iv 16).toNat
     omega)
  | (refine ⟨⟨⟨?_,?_⟩,V.X _ _ ((iP.join _ _ _ (by decide)).trans (iP.bT _ (Nat.le_refl 8))) k⟩,⟨?_,?_⟩,⟨?_,?_⟩,?_,?_⟩
     · exact a1
     · exact a2
     · show 0<=q.iv 16+1
       omega
     · show q.iv 16+1<=q.iv 1
       omega
     · exact o
     · rw [V.f _ _ ((iP.join _ _ _ (by decide)).trans (iP.bT _ (Nat.le_refl 8)))]
       refine Eq.trans (b:=aN q 11 (q.iv 9)) (by exact eU rfl λi=>by simp [bB,bu,D5,KX,Env.join,-Int.pred_toNat,Na]) ?_
       rw [x,((iP.join q e _ (by decide)).trans (iP.bT _ (Nat.le_refl 8))).row]
       show _=List.filter _ (aN q 3 (q.iv 16+1))
       rw [PU u,List.filter_append]
       simp [n]
     · simp [bE,Env.join,-Int.pred_toNat,Na]
       omega
     · show q.iv 13+1<=q.iv 16+1
       omega)
theorem SX (V:Dv f X) (h:ma f X q) (A:q.iv 16<q.iv 1) (m:f q (bB q 3 (q.iv 16).toNat)=false) (s:w=17\/w=18) (u:Γ[d]?=some G) (k:∀e,ma f X e->(e.iv 1-e.iv 16).toNat<(q.iv 1-q.iv 16).toNat->G e):Sat P [] Γ q (dvM w d L M):=by
 have B:=h.len
 obtain ⟨⟨⟨a1,a2⟩,j⟩,⟨x,z⟩,⟨o,y⟩,p,l⟩:=h
 obtain ⟨t,b,c,g⟩:=id o
 simp only [Nat.reduceAdd] at t b c g
 refine oS (Sat.ob (decide_eq_true b) (Sat.ob (decide_eq_true c) (Sat.ob (decide_eq_true g) (Sat.ob (dP o) (Sat.new λe a=>Sat.ob ?_ (Sat.back u (k _ ?_ ?_)))))))
 all_goals rcases s with rfl | rfl
 all_goals
  have a:=a _ (List.mem_singleton.2 rfl)
  simp only [D.be,Da] at a
  simp [Env.join] at a
  first
  | (simp only [Da];simp [Env.join];omega)
  | (show (q.iv 1-(q.iv 16+1)).toNat<(q.iv 1-q.iv 16).toNat
     omega)
  | (refine ⟨⟨⟨?_,?_⟩,V.X _ _ ((iP.join _ _ _ (by decide)).trans (iP.bT _ (Nat.le_refl 8))) j⟩,⟨?_,?_⟩,⟨?_,?_⟩,?_,?_⟩
     · exact a1
     · exact a2
     · show 0<=q.iv 16+1
       omega
     · show q.iv 16+1<=q.iv 1
       omega
     · simp [bE,Env.join,-Int.pred_toNat,Na]
       omega
     · rw [V.f _ _ ((iP.join _ _ _ (by decide)).trans (iP.bT _ (Nat.le_refl 8))),((iP.join q e _ (by decide)).trans (iP.bT _ (Nat.le_refl 8))).row]
       show _=List.filter _ (aN q 3 (q.iv 16+1))
       rw [PU x,List.filter_append,<-y]
       refine Eq.trans (Bh (ρ:=q) (r:=11) (n:=q.iv 9) (w:=bB q 3 (q.iv 16).toNat) b rfl (λi C=>?_) ?_) ?_
       · have:¬(q.iv 9).toNat=i:=by omega
         simp [bB,bu,D5,KX,Env.join,this,-Int.pred_toNat,Na]
       · simp [bB,bu,D5,KX,Env.join,-Int.pred_toNat,Na]
       · simp [m]
     · exact p
     · show q.iv 13<=q.iv 16+1
       omega)
theorem aad {c:BE} {b:Nat} {H:Env->Nat->Nt->Prop} (V:Dv f X) (A:∀q,X q->bE q 4/\q.iv 5<=1000000) (D:∀ρ ρ' j n,iP ρ ρ'->H ρ j n->H ρ' j n) (F:∀q,c.den q=true↔H q (q.iv 17).toNat (bB q 3 (q.iv 16).toNat))
  (C:∀q n,f q n=true↔∃j:Nat,(j:Int)<q.iv 5/\H q j n) (k:ma f X q) (s:q.iv 16<q.iv 1) (p:∀e,ma f X e->(e.iv 1-e.iv 16).toNat<(q.iv 1-q.iv 16).toNat->G e):Sat P [] [G] q (PT c b):=by
 obtain ⟨o,I⟩:=A q k.1.2
 refine Sat.ob (dP o) (Sat.ob (decide_eq_true o.2.1) (Sat.qD (λr=>(0<=r.iv 17/\r.iv 17<=r.iv 5)/\∀j:Nat,(j:Int)<r.iv 17->¬H r j (bB r 3 (r.iv 16).toNat)) (λr=>(r.iv 5-r.iv 17).toNat)
   (λr=>(ma f X r/\r.iv 16<r.iv 1)/\∀e,ma f X e->(e.iv 1-e.iv 16).toNat<(r.iv 1-r.iv 16).toNat->G e) ⟨⟨Int.le_refl 0,o.2.1⟩,λj l=>absurd (show (j:Int)<0 from l) (by omega)⟩ (λe=>⟨⟨?_,s⟩,p⟩) λr K x=>?_))
 ·obtain ⟨B,a,⟨g,u⟩,J⟩:=k
  refine ⟨⟨B.1,V.X _ _ (iP.join _ _ _ (by decide)) B.2⟩,a,⟨g,?_⟩,J⟩
  rw [V.f _ _ (iP.join q e 17 (by decide))]
  exact u
 ·obtain ⟨⟨k,s⟩,p⟩:=K
  obtain ⟨⟨t,E⟩,m⟩:=x
  replace m:∀j:Nat,(j:Int)<r.iv 17->¬H r j (bB r 3 (r.iv 16).toNat):=λj l h=>m j l (D _ _ _ _ (iP.num r) h)
  obtain ⟨o,I⟩:=A r k.1.2
  replace t:0<=r.iv 17:=t
  replace E:r.iv 17<=r.iv 5:=E
  refine Sat.br (λh=>?_) (λh=>?_)
  ·replace h:r.iv 17<r.iv 5:=of_decide_eq_true h
   refine Sat.ob (uo o (by simp only [Nat.reduceAdd];omega)) (Sat.ob (decide_eq_true t) (Sat.br (λa=>?_) (λa=>?_)))
   ·exact SS V k s ((C _ _).2 ⟨_,by omega,(F r).1 a⟩) (.inr rfl) rfl p
   ·refine oS (Sat.back rfl ⟨⟨⟨?_,?_⟩,λj l=>?_⟩,?_⟩)
    ·show 0<=r.iv 17+1
     omega
    ·show r.iv 17+1<=r.iv 5
     omega
    ·replace l:(j:Int)<r.iv 17+1:=l
     intro g
     have g:=D _ r _ _ ⟨λi y=>(if_pos (show i<17 by omega)).symm,λi y=>(if_pos (show i<17 by omega)).symm,λi y=>(if_pos (show i<17 by omega)).symm,λi y=>(if_pos (show i<17 by omega)).symm⟩ g
     by_cases z:j=(r.iv 17).toNat
     ·subst z
      exact Bool.false_ne_true (a.symm.trans ((F r).2 g))
     ·exact m j (by omega) g
    ·show (r.iv 5-(r.iv 17+1)).toNat<(r.iv 5-r.iv 17).toNat
     omega
  ·replace h:¬r.iv 17<r.iv 5:=of_decide_eq_false h
   refine SX V k s (Bool.eq_false_iff.2 λa=>?_) (.inr rfl) rfl p
   obtain ⟨j,g,u⟩:=(C _ _).1 a
   exact m j (by omega) u
theorem XE {l:Nat} {k:Out} (V:Dv f X) (b:bE q 0/\q.iv 1<=1000000) (o:X q) (m:∀r G,ma f X r->r.iv 16<r.iv 1->(∀e,ma f X e->(e.iv 1-e.iv 16).toNat<(r.iv 1-r.iv 16).toNat->G e)->Sat (zD f) [] [G] r k):Sat (zD f) [] [] q (Fa l k):=by
 refine Sat.ob (dP b.1) (Sat.ob (decide_eq_true b.1.2.1) (Sat.loop (ma f X) (λr=>(r.iv 1-r.iv 16).toNat) ?_ λe a=>?_))
 ·refine ⟨⟨b,V.X _ _ (iP.bT q (Nat.le_refl 8)) o⟩,⟨Int.le_refl 0,b.1.2.1⟩,⟨?_,rfl⟩,?_,Int.le_refl 0⟩ <;> simp [bE,-Int.pred_toNat,Na]
 ·have a:=a.agS V
  generalize q.join 8 e=r at *
  refine Sat.br (λh=>?_) (λh=>?_)
  ·replace h:r.iv 16<r.iv 1:=of_decide_eq_true h
   exact Sat.ob (uo a.1.1.1 (by have:=a.2.1.1;simp only [Nat.reduceAdd];omega)) (Sat.ob (decide_eq_true a.2.1.1) (m r _ a h λe j c=>⟨j,c⟩))
  ·replace h:¬r.iv 16<r.iv 1:=of_decide_eq_false h
   obtain ⟨j,c,⟨n,g⟩,p⟩:=a
   refine Sat.fin ⟨n,?_⟩
   rw [V.f _ _ (iP.bT r (Nat.le_refl 8)),(iP.bT r (Nat.le_refl 8)).row]
   rw [show r.iv 16=r.iv 1 by omega] at g
   exact Eq.trans (by exact eU rfl λi=>by simp [bB,bu,D5,KX,-Int.pred_toNat,Na]) g
end
theorem ok4 {ρ ρ':Env} (h:iP ρ ρ') (k:bE ρ 4/\ρ.iv 5<=1000000):bE ρ' 4/\ρ'.iv 5<=1000000:=⟨h.ok 4 (by decide) k.1,by rw [h.iv 5 (by decide)];exact k.2⟩
theorem XF {n:Int} {p:Nat->Bool}:(((List.range n.toNat).any p)=true)↔∃j:Nat,(j:Int)<n/\p j=true:=by
 simp only [List.any_eq_true,List.mem_range]
 exact ⟨λ⟨j,h,k⟩=>⟨j,by omega,k⟩,λ⟨j,h,k⟩=>⟨j,by omega,k⟩⟩
def Sv.wW (ρ:Env):Prop:=bE ρ 0/\ρ.iv 1<=1000000/\bE ρ 4/\ρ.iv 5<=1000000
def Sv.MJ (ρ:Env):Prop:=bE ρ 0/\ρ.iv 1<=1000000/\-9223372036854775808<=ρ.iv 4/\ρ.iv 4<=9223372036854775807
abbrev Sv.SY:=Sv.wW
abbrev Sv.PV:=Sv.wW
def Jz (ρ:Env):Prop:=bE ρ 8/\aN ρ 11 (ρ.iv 9)=(aN ρ 3 (ρ.iv 1)).filter λn=>!((dX ρ 7 (ρ.iv 5)).any λw=>RS.tJ w n)
def NG (ρ:Env):Prop:=bE ρ 8/\aN ρ 11 (ρ.iv 9)=(aN ρ 3 (ρ.iv 1)).filter λn=>!((rX ρ 7 (ρ.iv 5)).any λe=>RS.tK e n)
def JA (ρ:Env):Prop:=bE ρ 8/\aN ρ 11 (ρ.iv 9)=(aN ρ 3 (ρ.iv 1)).filter λn=>!((iK ρ 7 (ρ.iv 5)).any λs=>RS.qM s n)
def KY (ρ:Env):Prop:=bE ρ 8/\aN ρ 11 (ρ.iv 9)=(aN ρ 3 (ρ.iv 1)).filter λn=>!(RS.ny (ρ.iv 4) n)
theorem PW {c:BE} {b:Nat} {A:Env->Nat->Nt->Bool} (a:∀ρ ρ' j n,iP ρ ρ'->A ρ' j n=A ρ j n) (g:∀q,c.den q=A q (q.iv 17).toNat (bB q 3 (q.iv 16).toNat)) {ρ:Env} (h:Sv.wW ρ.num) :
  Sat (zD λρ n=>(List.range (ρ.iv 5).toNat).any λj=>A ρ j n) [] [] ρ (Fa 2 (PT c b)):=by
 have V:Dv (λρ n=>(List.range (ρ.iv 5).toNat).any λj=>A ρ j n) (λq=>bE q 4/\q.iv 5<=1000000) :=
  ⟨λρ ρ' h=>by simp only [h.iv 5 (by decide),λj n=>a ρ ρ' j n h],λρ ρ' h k=>ok4 h k⟩
 exact XE V ⟨h.1,h.2.1⟩ h.2.2 λr G d e f=>aad (H:=λq j n=>A q j n=true) V (λ_ h=>h) (λρ ρ' j n h k=>(a ρ ρ' j n h).trans k) (λq=>by rw [g]) (λq n=>XF) d e f
noncomputable def XG:Ex:={sched:=sched,loops:=[UQ,agn],fin:=oO}
theorem XH:exec tab XG 4000 [] (bZ oO.f 8 [] [] oO.hp oO.args)=Fa 2 (PT (.ag (.cell 7 (.var 17) (.lit 0) 0) (.cell 3 (.var 16) (.lit 0) 0)) 9):=by kernel_rfl
theorem U0:aK Tryz.prog oO Sv.wW Jz :=
 bq bM (E:=XG) (cs:=[]) rfl (λk pre post h=>by cases h) aO rfl XH (by kernel_rfl) (λa _ p d=>by cases d) λa h=>by
  have:=PW (c:=.ag (.cell 7 (.var 17) (.lit 0) 0) (.cell 3 (.var 16) (.lit 0) 0)) (b:=9) (A:=λa j n=>RS.tJ (bu (a.ic 7 j 0) (a.bc 7 j 0)) n) (λa f j n h=>by rw [h.ic 7 (by decide),h.bc 7 (by decide)]) (λq=>by simp only [BE.den,IE.den];rfl) h
  refine cast (congrArg (λp=>Sat p [] [] a _) (funext λe=>?_)) this
  unfold zD Jz dX
  simp only [List.any_map]
  rfl
noncomputable def ach:Ex:={sched:=sched,loops:=[UQ,ajX],fin:=rq}
def U3:BE:=.and (.and (.aY (.lit 0) (.cell 7 (.var 17) (.lit 0) 0)) (.ah (.cell 3 (.var 16) (.lit 0) 5) (.cell 7 (.var 17) (.lit 0) 0))) (.ah (.cell 7 (.var 17) (.lit 0) 0) (.cell 3 (.var 16) (.lit 0) 6))
theorem aae:exec tab ach 4000 [] (bZ rq.f 8 [] [] rq.hp rq.args)=Fa 2 (PT U3 8):=by kernel_rfl
theorem XI:aK Tryz.prog rq Sv.SY NG :=
 bq bM (E:=ach) (cs:=[]) rfl (λk pre post h=>by cases h) aO rfl aae (by kernel_rfl) (λa _ p d=>by cases d) λa h=>by
  have:=PW (c:=U3) (b:=8) (A:=λa j n=>RS.tK (a.ic 7 j 0 0) n) (λa f j n h=>by rw [h.ic 7 (by decide)]) (λq=>by rw [Bool.eq_iff_iff];simp only [U3,Da,RS.tK,bB,and_assoc];exact decide_eq_true_iff.symm) h
  refine cast (congrArg (λp=>Sat p [] [] a _) (funext λe=>?_)) this
  unfold zD NG rX
  simp only [List.any_map]
  rfl
noncomputable def XJ:Ex:={sched:=sched,loops:=[UQ,aem],fin:=oP}
def PX:BE:=.and (.and (.cell 7 (.var 17) (.lit 0) 0) (.ah (.cell 7 (.var 17) (.lit 0) 1) (.cell 3 (.var 16) (.lit 0) 6))) (.ah (.cell 3 (.var 16) (.lit 0) 5) (.cell 7 (.var 17) (.lit 0) 2))
theorem XK:exec tab XJ 4000 [] (bZ oP.f 8 [] [] oP.hp oP.args)=Fa 2 (PT PX 9):=by kernel_rfl
theorem U4:aK Tryz.prog oP Sv.PV JA :=
 bq bM (E:=XJ) (cs:=[]) rfl (λk pre post h=>by cases h) aO rfl XK (by kernel_rfl) (λa _ p d=>by cases d) λa h=>by
  have:=PW (c:=PX) (b:=9) (A:=λa j n=>RS.qM (lu a 7 j) n) (λa f j n h=>by unfold lu;rw [h.ic 7 (by decide),h.bc 7 (by decide)]) (λq=>by rw [Bool.eq_iff_iff];simp only [PX,Da,RS.qM,lu,bB,Bool.and_eq_true,and_assoc];exact and_congr_right λ_=>decide_eq_true_iff.symm) h
  refine cast (congrArg (λp=>Sat p [] [] a _) (funext λe=>?_)) this
  unfold zD JA iK
  simp only [List.any_map]
  rfl
noncomputable def S9:Ex:={sched:=sched,loops:=[UQ],fin:=nu}
def aev:Out:=.ob (.or (.aY (.var 4) (.lit (-9223372036854775806))) (.inr .i64 (.sub (.var 4) (.lit 2))))<|.br (.or (.aY (.var 4) (.lit (-9223372036854775806))) (.aY (.sub (.var 4) (.lit 2)) (.cell 3 (.var 16) (.lit 0) 6))) (dvH 17 0 2 (PO 3 7 2 2)) (dvM 17 0 2 (PO 3 3 2 7))
theorem U5:exec tab S9 4000 [] (bZ nu.f 8 [] [] nu.hp nu.args)=Fa 1 aev:=by kernel_rfl
theorem RD:aK Tryz.prog nu Sv.MJ KY :=
 bq bM (E:=S9) (cs:=[]) rfl (λk pre post h=>by cases h) aO rfl U5 (by kernel_rfl) (λa _ p i=>by cases i) λa h=>by
  have V:Dv (λa n=>RS.ny (a.iv 4) n) (λq=>-9223372036854775808<=q.iv 4/\q.iv 4<=9223372036854775807):=⟨λa d h=>by rw [h.iv 4 (by decide)],λa d h k=>by rw [h.iv 4 (by decide)];exact k⟩
  refine XE (f:=λa n=>RS.ny (a.iv 4) n) V ⟨h.1,h.2.1⟩ h.2.2 λr G b e g=>?_
  have j:=b.1.2
  refine oS (Sat.br (λc=>?_) (λc=>?_))
  all_goals simp only [Da] at c
  ·exact SS V b e (by simp only [RS.ny,bB];exact decide_eq_true (by omega)) (.inl rfl) rfl g
  ·exact SX V b e (by simp only [RS.ny,bB];exact decide_eq_false (by omega)) (.inl rfl) rfl g
def knK:Kn:=[(.ah (.lit 0) (.var 0),true),(.aY (.var 0) (.lit 6),true),(.aY (.var 1) (.lit 0),false),(.ah (.lit 9) (.var 1),false)]
noncomputable def aci:Ex:={sched:=sched,loops:=[],fin:=iC}
def KZ:Out :=
 .ob (.inr .i64 (.mul (.var 0) (.lit 9))) <|
 .ob (.inr .i64 (.add (.lit 25) (.mul (.var 0) (.lit 9)))) <|
 .ob (.inr .i64 (.add (.add (.lit 25) (.mul (.var 0) (.lit 9))) (.var 1))) <|
 .fin {lo:=2,ae:=0}
theorem aaf:exec tab aci 8000 [] (bZ iC.f iC.nv knK iC.gl iC.hp iC.args)=KZ:=by kernel_rfl
def zF (ρ:Env):Prop:=(0<=ρ.iv 0/\ρ.iv 0<6)/\0<=ρ.iv 1/\ρ.iv 1<9
def gU (_:Env):Prop:=True
theorem aag (ρ:Env) (e:zF ρ.num):Sat gU [] [] ρ KZ:=by
 replace e:zF ρ:=e
 obtain ⟨⟨a,b⟩,c,d⟩:=e
 unfold KZ
 refine Sat.ob ?_ (Sat.ob ?_ (Sat.ob ?_ (Sat.fin trivial)))
 all_goals simp only [Da];omega
theorem PY:aK Tryz.prog iC zF gU :=
 bq bM (E:=aci) (cs:=[]) rfl (λk pre post h=>by cases h) aO rfl aaf (by kernel_rfl) (λf h p e=>by
   obtain ⟨⟨a,b⟩,c,d⟩:=h
   simp only [knK,List.mem_cons,List.not_mem_nil,or_false] at e
   rcases e with rfl | rfl | rfl | rfl
   · exact decide_eq_true a
   · exact decide_eq_true b
   · exact decide_eq_false (by simp only [IE.den];omega)
   · exact decide_eq_false (by simp only [IE.den];omega)) aag
def knS:Kn:=[(.ah (.lit 0) (.var 0),true),(.aY (.var 0) (.lit 6),true)]
noncomputable def acj:Ex:={sched:=sched,loops:=[],fin:=iD}
def K4:Out :=
 .ob (.inr .i64 (.add (.lit 79) (.var 0))) <|
 .fin {lo:=1,ae:=0}
theorem aah:exec tab acj 8000 [] (bZ iD.f iD.nv knS iD.gl iD.hp iD.args)=K4:=by kernel_rfl
def zG (ρ:Env):Prop:=0<=ρ.iv 0/\ρ.iv 0<6
theorem aai (ρ:Env) (c:zG ρ.num):Sat gU [] [] ρ K4:=by
 replace c:zG ρ:=c
 obtain ⟨a,b⟩:=c
 unfold K4
 refine Sat.ob ?_ (Sat.fin trivial)
 simp only [Da];omega
theorem PZ:aK Tryz.prog iD zG gU :=
 bq bM (E:=acj) (cs:=[]) rfl (λk pre post h=>by cases h) aO rfl aah (by kernel_rfl) (λd h p c=>by
   obtain ⟨a,b⟩:=h
   simp only [knS,List.mem_cons,List.not_mem_nil,or_false] at c
   rcases c with rfl | rfl
   · exact decide_eq_true a
   · exact decide_eq_true b) aai
def knR:Kn:=[(.aY (.var 0) (.lit 0),false),(.ah (.lit 24) (.var 0),false)]
noncomputable def ack:Ex:={sched:=sched,loops:=[],fin:=fu}
def K5:Out :=
 .ob (.inr .i64 (.var 0)) <|
 .fin {lo:=1,ae:=0}
theorem aaj:exec tab ack 8000 [] (bZ fu.f fu.nv knR fu.gl fu.hp fu.args)=K5:=by kernel_rfl
def zH (ρ:Env):Prop:=0<=ρ.iv 0/\ρ.iv 0<24
theorem aak (ρ:Env) (c:zH ρ.num):Sat gU [] [] ρ K5:=by
 replace c:zH ρ:=c
 obtain ⟨a,b⟩:=c
 unfold K5
 refine Sat.ob ?_ (Sat.fin trivial)
 simp only [Da];omega
theorem P5:aK Tryz.prog fu zH gU :=
 bq bM (E:=ack) (cs:=[]) rfl (λk pre post h=>by cases h) aO rfl aaj (by kernel_rfl) (λd h p c=>by
   obtain ⟨a,b⟩:=h
   simp only [knR,List.mem_cons,List.not_mem_nil,or_false] at c
   rcases c with rfl | rfl
   · exact decide_eq_false (by simp only [IE.den];omega)
   · exact decide_eq_false (by simp only [IE.den];omega)) aak
def D6:mo:=[(iC,zF,gU),(iD,zG,gU)]
theorem K6:∀k pre post,(k,pre,post)∈D6->kX k=true/\aK Tryz.prog k pre post:=by
 intro k pre post h
 simp only [D6,List.mem_cons,List.not_mem_nil,or_false,Prod.mk.injEq] at h
 rcases h with ⟨rfl,rfl,rfl⟩ | ⟨rfl,rfl,rfl⟩
 ·exact ⟨by kernel_rfl,PY⟩
 ·exact ⟨by kernel_rfl,PZ⟩
end Go.Proofs.YthomdlajobnmnaaGreatDoor
