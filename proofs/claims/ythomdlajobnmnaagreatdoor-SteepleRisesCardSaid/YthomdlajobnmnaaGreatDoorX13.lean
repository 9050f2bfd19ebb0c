/- part 13 of the proof -/
import Derived.Tactics
import Derived.Maps.AppendAt
import Derived.Test.YthomdlajobnmnaaGreatDoorX12
import Derived.Test.YthomdlajobnmnaaGreatDoorX8
set_option linter.unusedSimpArgs false
set_option linter.unusedVariables false
namespace Go.Proofs.YthomdlajobnmnaaGreatDoor
open Go.RowKit Go.Rex
section
variable {w w':World} {b base A:Nat} {k:Wk} {B:Nat->Prop}
end
section
variable {w w':World} {b base A:Nat} {k:Wk} {B:Nat->Prop}
end
section
variable {w g i:World} {b base A n:Nat} {k j:Wk} {B l m F G:Nat->Prop} {I:Nat->Wk->Prop}
theorem qO (h:cK g F w) (a:cK w G i) (f:∀x,G x->x<w.heap.size->F x\/g.heap.size<=x):cK g F i :=
 ⟨a.os.trans h.os,a.tape.trans h.tape,a.output.trans h.output,Nat.le_trans h.size a.size,λk c d=>(a.block k (Nat.lt_of_lt_of_le c h.size) λe=>(f k e (Nat.lt_of_lt_of_le c h.size)).elim d λz=>absurd c (Nat.not_lt.2 z)).trans (h.block k c d)⟩
end
section
variable {w w':World} {b base A:Nat} {k:Wk} {B B':Nat->Prop}
end
section
variable {w w':World} {a:Addr} {b A:Nat->Nat} {base n:Nat} {p p':PS} {W:Nat->Wk} {F c:Nat->Prop}
end
section
variable {k:Wk} {n:Nat} {j:Jb}
end
section
variable {w w' d e:World} {b base A:Nat} {k:Wk} {B F G:Nat->Prop}
theorem aeJ (h:cK w F w') (a:cK w' F e):cK w F e:=qO h a λx c _=>.inl c
end
def Ct:List (Nat × TypeId × TypeId):=[(0,224,249),(1,224,249),(4,224,249),(5,224,249),(7,224,249),(6,224,249),(2,224,249)]
def isE:dJ:={f:=31,nv:=1,hp:=[{t:=163,cs:=[.int .i64 (.var 0),.iface 224 (.ptr {ak:=1})],ro:=true},{t:=500000+249,cs:=[.hole],ro:=true}],args:=[.one (.iface 161 (.ptr {ak:=0})),.one (.iface 224 (.ptr {ak:=1}))],iV:=1,ret:=.w (.one (.bool (.lit true))),hp':=[dS,dS]}
end Go.Proofs.YthomdlajobnmnaaGreatDoor
namespace Go.Proofs.YthomdlajobnmnaaGreatDoor.Sk
open Go.Rex
def aeK (v:Nat):List SC:=[iv v,iv (v+1),iv (v+2)]
def kP:List Kd:=[.int .i64,.int .i64,.int .i64] ++ kW
def Tp (v:Nat):SB:={t:=174,cs:=[iv v] ++ List.replicate 18 .hole ++ aeK (v+1) ++ l6 (v+4) ++ [iv (v+9),iv (v+10)] ++ l6 (v+11) ++ [iv (v+16)] ++ List.replicate 24 .hole ++ l6 (v+17),bz:=[{r:=v+22,n1:=.lit 3,s1:=8,lo:=35,ks:=kP}],own:=true}
def JH (v:Nat) (c:SC):SB:={t:=185,cs:=[iv v] ++ tH (v+1) ++ Lj (v+19) ++ [c] ++ l6 (v+23) ++ [iv (v+28),iv (v+29),iv (v+30)],own:=true}
def jU:dJ:={f:=52,nv:=29,args:=[.one (.ptr {ak:=0}),.agg (qZ 23)],hp:=[Tp 0],iV:=71,ret:=.iB [.agg (tH 52),.one (.bool (.var 70))],hp':=[Tp 29]}
def dL:dJ:={f:=54,nv:=4,args:=[.agg (Lj 0)],hp:=[],iV:=35,ret:=.iB [.one (.ptr {ak:=0}),.one .dW],hp':=[JH 4 .dB]}
def Tq:List (Nat × TypeId × TypeId):=[(0,224,249)]
def bW:dJ:={f:=54,nv:=4,gl:=eG Tq 0,args:=[.agg (Lj 0)],hp:=mO 36 Tq 0,iV:=4,ret:=.iB [.one .dB,.one (.iface 161 (.ptr {ak:=2}))],hp':=[dS,dS,dS]}
def r9:dJ:={f:=56,nv:=37,args:=[.one (.ptr {ak:=0}),.agg (qZ 31)],hp:=[JH 0 .dB],iV:=86,ret:=.w (.agg (tH 68)),hp':=[JH 37 .dB]}
def gP:dJ:={f:=56,nv:=37,args:=[.one (.ptr {ak:=0}),.agg (qZ 31)],hp:=[JH 0 .dB],iV:=109,ret:=.w (.agg (tH 91)),hp':=[JH 37 (.ptr {ak:=1}),Tp 68]}
def aL:dJ:={f:=56,nv:=60,args:=[.one (.ptr {ak:=0}),.agg (qZ 54)],hp:=[JH 0 (.ptr {ak:=1}),Tp 31],iV:=132,ret:=.w (.agg (tH 114)),hp':=[JH 60 (.ptr {ak:=2}),dS,Tp 91]}
structure Op where
 kind:Int
 key:Int
 val:Int
 dz:Int
 deriving DecidableEq
structure Ad where
 slot:Int
 gen:Int
 field:Int
 deriving DecidableEq
structure Pt where
 a:Ad
 cur:Wd
structure Cm where
 at':Int
 pv:Ad
 cur:Wd
 bound:Int
 level:Int
 next:Wd
 k:Int
 s0:Pt
 s1:Pt
 s2:Pt
 found:Wd
def Ad.zero:Ad:=⟨0,0,0⟩
def Ad.root (l:Int):Ad:=⟨0,0,l⟩
def wF (w:Wd) (f:Int):Ad:=⟨w.slot,w.gen,f⟩
def gH (a:Ad):Ca:={Ca.of 3 with slot:=a.slot,gen:=a.gen,field:=a.field}
def si (a:Ad) (w:Wd):Ca:={Ca.of 4 with slot:=a.slot,gen:=a.gen,field:=a.field,new:=w}
def fM (a:Ad) (o w:Wd):Ca:={Ca.of 5 with slot:=a.slot,gen:=a.gen,field:=a.field,ay:=o,new:=w}
def o9 (a:Ad) (i:Int):Ca:={Ca.of 6 with slot:=a.slot,gen:=a.gen,field:=a.field,i:=i}
def mF (i j:Int):Ca:={Ca.of 7 with i:=i,j:=j}
def cB (o r:Wd):Wd:=⟨r.slot,r.gen,o.tag+1,0,false⟩
def uS (w:Wd):Wd:={w with mark:=true,tag:=w.tag+1}
def uT (w:Wd) (b:Int):Wd:=⟨0,0,w.tag+1,w.num+b,false⟩
def Pt.zero:Pt:=⟨Ad.zero,Wd.zero⟩
def Cm.new (b:Int):Cm:=⟨0,Ad.zero,Wd.zero,b,0,Wd.zero,0,Pt.zero,Pt.zero,Pt.zero,Wd.zero⟩
def Cm.sp (c:Cm) (l:Int):Pt:=if l=0 then c.s0 else if l=1 then c.s1 else c.s2
def Cm.set (c:Cm) (l:Int) (s:Pt):Cm:=if l=0 then {c with s0:=s} else if l=1 then {c with s1:=s} else {c with s2:=s}
def Cm.ask (c:Cm) (s:Int) (x:Ca):Cm × Option Ca:=({c with at':=s},some x)
def Cm.enter (c:Cm):Cm × Option Ca:=c.ask 2 (o9 c.pv (3 * c.level+1))
def Cm.again (c:Cm):Cm × Option Ca:=Cm.enter {c with level:=2,pv:=Ad.root 2}
def Cm.behind (c:Cm):Cm × Option Ca:=c.ask 3 (o9 (wF c.cur (2+c.level)) (3 * c.level))
def Cm.lower (c:Cm):Cm × Option Ca :=
 if c.level=0 then ({c.set c.level ⟨c.pv,c.cur⟩ with at':=-1,found:=if c.cur.slot≠0/\c.k=c.bound then c.cur.bN else c.found},none)
 else if c.pv.slot=0 then Cm.enter {c.set c.level ⟨c.pv,c.cur⟩ with level:=c.level-1,pv:=Ad.root (c.level-1)}
 else Cm.ask {c.set c.level ⟨c.pv,c.cur⟩ with level:=c.level-1,pv:={c.pv with field:=2+(c.level-1)}} 9 (mF (3 * (c.level-1)+2) (3 * (c.level-1)+5))
def Cm.on (c:Cm):Cm × Option Ca:=if c.cur.slot=0 then c.lower else c.ask 8 (mF (3 * c.level+1) (3 * c.level))
def Cm.nx (c:Cm) (x:Rp):Cm × Option Ca :=
 if c.at'=2 then (if x.word.mark=true then c.again else if x.word.slot=0 then Cm.lower {c with cur:=x.word} else Cm.behind {c with cur:=x.word})
 else if c.at'=3 then Cm.ask {c with next:=x.word} 4 (gH (wF c.cur 0))
 else if c.at'=4 then Cm.ask {c with k:=x.word.num} 5 (gH c.pv)
 else if c.at'=5 then
  (if ¬eY x.word c.cur then c.again
   else if c.next.mark=true then c.ask 6 (fM c.pv c.cur (cB c.cur c.next))
   else if c.k>=c.bound then c.lower
   else Cm.ask {c with pv:=wF c.cur (2+c.level)} 7 (mF (3 * c.level+2) (3 * c.level+1)))
 else if c.at'=6 then (if x.ok=true then Cm.on {c with cur:=cB c.cur c.next} else c.again)
 else if c.at'=0 then c.again
 else if c.at'=7 then Cm.on {c with cur:=c.next}
 else if c.at'=8 then c.behind
 else if c.at'=9 then c.enter
 else (c,none)
structure Jb where
 at':Int
 last:Ca
 op:Op
 cl:Option Cm
 node:Wd
 level:Int
 by':Int
 val:Int
def Jb.new (o:Op):Jb:=⟨0,Ca.zero,o,none,Wd.zero,0,0,0⟩
def Jb.ask (j:Jb) (s:Int) (c:Ca):Jb × Ca:=({j with at':=s},c)
def Jb.fin (j:Jb) (code val:Int):Jb × Ca:=({j with at':=-1,last:={Ca.of 12 with code:=code,val:=val}},{Ca.of 12 with code:=code,val:=val})
def Jb.field (j:Jb) (f:Int):Ad:=wF j.node f
def Jb.found (j:Jb):Wd:=match j.cl with | none=>Wd.zero | some c=>c.found
def Jb.place (j:Jb) (l:Int):Pt:=match j.cl with | none=>Pt.zero | some c=>if 0<=l/\l<3 then c.sp l else Pt.zero
def Jb.walk (j:Jb) (x:Rp) (k:Jb->Jb × Ca):Jb × Ca :=
 match j.cl with
 | none=>k j
 | some c=>match c.nx x with
  | (c,some q)=>({j with cl:=some c},q)
  | (c,none)=>k {j with cl:=some c}
def Jb.gq (j:Jb) (s b:Int):Jb:={j with cl:=some (Cm.new b),at':=s}
def Jb.part (j:Jb) (b:Int):Jb × Ca:=Jb.ask {j with by':=b} 101 (gH (j.field 7))
def Jb.link (j:Jb):Jb × Ca:=if j.level>=j.op.dz then j.part 1 else j.ask 9 (gH (j.field (2+j.level)))
def Jb.tie (j:Jb):Jb × Ca :=
 if j.level<j.op.dz then j.ask 7 (si (j.field (2+j.level)) (j.place j.level).cur.bN)
 else j.ask 8 (fM (j.place 0).a (j.place 0).cur (cB (j.place 0).cur j.node))
def Jb.qa (j:Jb) (x:Rp):Jb × Ca:=j.walk x λj=>if j.found.slot≠0 then j.ask 6 {Ca.of 9 with ay:=j.node} else Jb.tie {j with level:=0}
def Jb.insert (j:Jb) (x:Rp):Jb × Ca :=
 if j.at'=0 then j.ask 1 (Ca.of 8)
 else if j.at'=1 then (if x.ok=false then j.fin 4 0 else Jb.ask {j with node:=x.word} 2 (si (wF x.word 0) (Wd.ig j.op.key)))
 else if j.at'=2 then j.ask 3 (si (j.field 1) (Wd.ig j.op.val))
 else if j.at'=3 then j.ask 4 (si (j.field 6) (Wd.ig j.op.dz))
 else if j.at'=6 then j.fin 3 0
 else if j.at'=8 then (if x.ok=true then Jb.link {j with level:=1} else (j.gq 5 j.op.key).qa x)
 else if j.at'=4 then (j.gq 5 j.op.key).qa x
 else if j.at'=5 then j.qa x
 else if j.at'=7 then Jb.tie {j with level:=j.level+1}
 else (j,j.last)
def Jb.up (j:Jb):Jb × Ca:=j.ask 11 (fM (j.place j.level).a (j.place j.level).cur (cB (j.place j.level).cur j.node))
def Jb.qF (j:Jb) (x:Rp):Jb × Ca:=j.walk x λj=>if j.found≠j.node.bN then j.part 1 else j.link
def Jb.raise (j:Jb) (x:Rp):Jb × Ca :=
 if j.at'=9 then (if x.word.mark=true then j.part 1 else if x.word.bN≠(j.place j.level).cur.bN then j.ask 10 (fM (j.field (2+j.level)) x.word (cB x.word (j.place j.level).cur)) else j.up)
 else if j.at'=10 then (if x.ok=false then j.link else j.up)
 else if j.at'=11 then (if x.ok=true then Jb.link {j with level:=j.level+1} else (j.gq 12 j.op.key).qF x)
 else if j.at'=12 then j.qF x
 else (j,j.last)
def Jb.look (j:Jb):Jb × Ca:=j.ask 4 (gH (j.field (2+j.level)))
def Jb.uN (j:Jb) (x:Rp):Jb × Ca:=j.walk x λj=>if j.found.slot=0 then Jb.fin {j with node:=j.found} 2 0 else Jb.ask {j with node:=j.found} 2 (gH (wF j.found 6))
def Jb.uO (j:Jb) (x:Rp):Jb × Ca:=j.walk x λj=>j.part 2
def Jb.remove (j:Jb) (x:Rp):Jb × Ca :=
 if j.at'=0 then (j.gq 1 j.op.key).uN x
 else if j.at'=1 then j.uN x
 else if j.at'=2 then Jb.ask {j with level:=(if x.word.num<1\/x.word.num > 3 then 1 else x.word.num)-1} 3 (gH (j.field 1))
 else if j.at'=3 then Jb.look {j with val:=x.word.num}
 else if j.at'=4 then
  (if x.word.mark=false then j.ask 5 (fM (j.field (2+j.level)) x.word (uS x.word))
   else if j.level=0 then j.fin 2 0 else Jb.look {j with level:=j.level-1})
 else if j.at'=5 then
  (if x.ok=false then j.look else if j.level > 0 then Jb.look {j with level:=j.level-1} else (j.gq 6 (j.op.key+1)).uO x)
 else if j.at'=6 then j.uO x
 else (j,j.last)
def Jb.qb (j:Jb) (x:Rp):Jb × Ca:=j.walk x λj=>j.ask 104 {Ca.of 10 with ay:=j.node}
def Jb.finish (j:Jb) (x:Rp):Jb × Ca :=
 if j.at'=101 then (if x.word.num=0 then j.ask 102 (fM (j.field 7) x.word (uT x.word j.by')) else (j.gq 103 (j.op.key+1)).qb x)
 else if j.at'=102 then (if x.ok=true then j.fin 1 j.val else (j.gq 103 (j.op.key+1)).qb x)
 else if j.at'=104 then j.fin 1 j.val
 else j.qb x
def Jb.uP (j:Jb) (x:Rp):Jb × Ca:=j.walk x λj=>if j.found.slot=0 then Jb.fin {j with node:=j.found} 2 0 else Jb.ask {j with node:=j.found} 2 (gH (wF j.found 1))
def Jb.get (j:Jb) (x:Rp):Jb × Ca :=
 if j.at'=0 then (j.gq 1 j.op.key).uP x
 else if j.at'=1 then j.uP x
 else if j.at'=2 then j.fin 1 x.word.num
 else (j,j.last)
def Jb.next (j:Jb) (x:Rp):Jb × Ca :=
 if j.at'=-1 then (j,j.last)
 else if j.at'>=101 then j.finish x
 else if j.op.kind=6/\j.at'>=9 then j.raise x
 else if j.op.kind=6 then j.insert x
 else if j.op.kind=7 then j.remove x
 else j.get x
def Op.bP (o:Op):Prop:=(0<=o.key/\o.key<=255)/\(if o.kind=6 then (0<=o.val/\o.val<=1073741824)/\1<=o.dz/\o.dz<=3 else (o.kind=7\/o.kind=8)/\o.val=0/\o.dz=0)
instance (o:Op):Decidable o.bP:=by unfold Op.bP;exact inferInstance
structure Wk where
 r:RS
 ops:List Op
 j:Option Jb
 aj:Bool
 said:List (Int × Int)
def Wk.go:Nat->Wk->Wk × Option Bool
 | 0,w=>(w,none)
 | k+1,w =>
  if w.r.step≠0 then (w,none)
  else match w.j with
  | none =>
   if w.aj=true then
    if (w.r.begin (Ca.of 2)).2=false then ({w with aj:=false,r:=(w.r.begin (Ca.of 2)).1},some false) else Wk.go k {w with aj:=false,r:=(w.r.begin (Ca.of 2)).1}
   else if w.said.length>=w.ops.length then (w,some false)
   else if ¬(w.ops.getD w.said.length ⟨0,0,0,0⟩).bP then Wk.go k {w with said:=w.said ++ [(0,0)]}
   else if (w.r.begin (Ca.of 1)).2=false then ({w with j:=some (Jb.new (w.ops.getD w.said.length ⟨0,0,0,0⟩)),aj:=true,r:=(w.r.begin (Ca.of 1)).1},some false)
   else Wk.go k {w with j:=some (Jb.new (w.ops.getD w.said.length ⟨0,0,0,0⟩)),aj:=true,r:=(w.r.begin (Ca.of 1)).1}
  | some j =>
   if (j.next w.r.bS).2.kind=12 then Wk.go k {w with said:=w.said ++ [((j.next w.r.bS).2.code,(j.next w.r.bS).2.val)],j:=none}
   else if (w.r.begin (j.next w.r.bS).2).2=false then ({w with j:=some (j.next w.r.bS).1,r:=(w.r.begin (j.next w.r.bS).2).1},some false)
   else Wk.go k {w with j:=some (j.next w.r.bS).1,r:=(w.r.begin (j.next w.r.bS).2).1}
def Wk.step (w:Wk) (p:PS):Wk × PS × Bool :=
 match w.go 200 with
 | (w,some b)=>(w,p,b)
 | (w,none) =>
  if w.r.step=0 then (w,p,false) else
  match p.act w.r.acc with
  | (p,none)=>(w,p,false)
  | (p,some x)=>({w with r:=(w.r.aB x).1},p,(w.r.aB x).2)
def Wk.idle (w:Wk):Prop:=w.r.step=0/\w.j=none/\w.aj=false/\w.said.length>=w.ops.length
instance (w:Wk):Decidable (w.j=none):=by
 cases h:w.j with
 | none=>exact isTrue rfl
 | some _=>exact isFalse (λh=>by cases h)
instance (w:Wk):Decidable w.idle:=by unfold Wk.idle;exact inferInstance
def Wk.new (b a threads notes:Int) (ops:List Op):Wk:=⟨RS.new b a threads notes,ops,none,false,[]⟩
structure Vk where
 l:Lo
 t:RT
 ops:List Op
 j:Option Jb
 aj:Bool
 said:List (Int × Int)
structure VW (v:Vk) (w:Wk):Prop where
 rep:jh v.l v.t w.r
 ops:w.ops=v.ops
 j:w.j=v.j
 aj:w.aj=v.aj
 said:w.said=v.said
def Vk.with (v:Vk) (q:LR):Vk:={v with l:=q.1,t:=q.2}
def Vk.lr (v:Vk):LR:=(v.l,v.t)
def Vk.op (v:Vk):Op:=v.ops.getD v.said.length ⟨0,0,0,0⟩
noncomputable def cmE:Ex:={sched:=sched,loops:=[],cons:=[fu],fin:=jU}
abbrev yT0:List (Nat × IE):=yO [(31,2),(69,3),(64,4),(59,4),(54,2)]<|yU [(39,.lit 2),(32,.lit 2),(29,.lit 2),(66,.add (.mul (.lit 3) (.lit 2)) y1),(55,.lit 2),(52,.lit 6)]<|yD 29 nY
abbrev FZ:List (Nat × BE):=[(50,yw 21),(44,yw 15),(37,yw 8),(70,.lit true),(65,.lit false),(60,.lit false)]
abbrev xZ:List (Nat × CV):=[(51,.up {r:=22,n1:=.lit 3,s1:=8,lo:=35,ks:=[.int .i64,.int .i64,.int .i64,.int .i64,.int .i64,.int .i64,.int .i64,.bool]} 0 [] y0)]
abbrev yT3:List (Nat × CV):=[(51,.up {r:=22,n1:=.lit 3,s1:=8,lo:=35,ks:=[.int .i64,.int .i64,.int .i64,.int .i64,.int .i64,.int .i64,.int .i64,.bool]} 0 [⟨0,(.var 10),y0,7,.bool (.var 27)⟩,⟨0,(.var 10),y0,6,.int .i64 (.var 26)⟩,⟨0,(.var 10),y0,5,.int .i64 (.var 25)⟩,⟨0,(.var 10),y0,4,.int .i64 (.var 24)⟩,⟨0,(.var 10),y0,3,.int .i64 (.var 23)⟩,⟨0,(.var 10),y0,2,.int .i64 (.var 3)⟩,⟨0,(.var 10),y0,1,.int .i64 (.var 2)⟩,⟨0,(.var 10),y0,0,.int .i64 (.var 1)⟩] y0)]
abbrev yT4:List (Nat × BE):=[(50,yw 21),(44,yw 15),(37,yw 27),(70,.lit true),(65,.lit false),(60,.lit false)]
abbrev Yt:List (Nat × CV):=[(51,.up {r:=22,n1:=.lit 3,s1:=8,lo:=35,ks:=[.int .i64,.int .i64,.int .i64,.int .i64,.int .i64,.int .i64,.int .i64,.bool]} 0 [⟨0,(.var 10),y0,7,.bool (.var 8)⟩,⟨0,(.var 10),y0,6,.int .i64 (.var 7)⟩,⟨0,(.var 10),y0,5,.int .i64 (.var 6)⟩,⟨0,(.var 10),y0,4,.int .i64 (.var 5)⟩,⟨0,(.var 10),y0,3,.int .i64 (.var 4)⟩,⟨0,(.var 10),y0,2,.int .i64 (.var 3)⟩,⟨0,(.var 10),y0,1,.int .i64 (.var 2)⟩,⟨0,(.var 10),y0,0,.int .i64 (.var 1)⟩] y0)]
abbrev yT6:List (Nat × BE):=[(50,yw 21),(44,yw 15),(37,yw 8),(70,.lit false),(65,.lit false),(60,.lit false)]
abbrev yT7:List (Nat × CV):=[(51,.up {r:=22,n1:=.lit 3,s1:=8,lo:=35,ks:=[.int .i64,.int .i64,.int .i64,.int .i64,.int .i64,.int .i64,.int .i64,.bool]} 0 [⟨0,(.var 10),y0,7,y3⟩,⟨0,(.var 10),y0,6,y2⟩,⟨0,(.var 10),y0,5,.int .i64 (.add (.var 6) y1)⟩,⟨0,(.var 10),y0,4,.int .i64 (.var 12)⟩,⟨0,(.var 10),y0,3,.int .i64 (.var 11)⟩,⟨0,(.var 10),y0,2,.int .i64 (.var 3)⟩,⟨0,(.var 10),y0,1,.int .i64 (.var 2)⟩,⟨0,(.var 10),y0,0,.int .i64 (.var 1)⟩] y0)]
abbrev yT8:List (Nat × BE):=[(50,yw 21),(44,yw 15),(37,.lit false),(70,.lit true),(65,.lit false),(60,.lit false)]
abbrev yT9:List (Nat × CV):=[(51,.up {r:=22,n1:=.lit 3,s1:=8,lo:=35,ks:=[.int .i64,.int .i64,.int .i64,.int .i64,.int .i64,.int .i64,.int .i64,.bool]} 0 [⟨0,(.var 10),y0,7,.bool (.var 15)⟩,⟨0,(.var 10),y0,6,.int .i64 (.var 14)⟩,⟨0,(.var 10),y0,5,.int .i64 (.var 13)⟩,⟨0,(.var 10),y0,4,.int .i64 (.var 12)⟩,⟨0,(.var 10),y0,3,.int .i64 (.var 11)⟩,⟨0,(.var 10),y0,2,.int .i64 (.var 3)⟩,⟨0,(.var 10),y0,1,.int .i64 (.var 2)⟩,⟨0,(.var 10),y0,0,.int .i64 (.var 1)⟩] y0)]
abbrev aaZ:List (Nat × BE):=[(50,yw 21),(44,yw 15),(37,yw 15),(70,.lit true),(65,.lit false),(60,.lit false)]
def VC:Out :=
 .br (.ag (.var 0) (.lit 2))
 (.br (.var 27)
  (.call 0 {lo:=0,ae:=0,iv:=[(0,.lit 2)]} 29 <|
   .ob (.inr .i64 (.mul (.lit 3) (.lit 2))) <|
   .ob (.inr .i64 (.add (.mul (.lit 3) (.lit 2)) y1)) <|
   .fin {lo:=29,ae:=1,iv:=yT0,bv:=FZ,ct:=xZ})
  (.br (.ag (.var 23) y0)
   (.ob (.ah y0 (.var 10)) <|
    .ob (.aY (.var 10) (.lit 3)) <|
    .br (.ag (.var 10) y0)
    (.fin {lo:=29,ae:=1,iv:=yO [(69,4),(64,4),(59,8)]<|yU (yr 36 26 4<|[(29,.lit (-1))])<|yD 29 nY,bv:=[(50,yw 21),(44,yw 15),(37,yw 27),(70,.lit false),(65,.lit false),(60,.lit false)],ct:=yT3})
    (.ob (.inr .i64 (.sub (.var 10) y1)) <|
     .br (.ag (.var 1) y0)
     (.call 0 {lo:=0,ae:=0,iv:=[(0,.sub (.var 10) y1)]} 29 <|
      .ob (.inr .i64 (.mul (.lit 3) (.sub (.var 10) y1))) <|
      .ob (.inr .i64 (.add (.mul (.lit 3) (.sub (.var 10) y1)) y1)) <|
      .fin {lo:=29,ae:=1,iv:=yO [(31,2),(69,3),(64,4),(59,4),(54,2)]<|yU (yr 36 26 4<|[(39,.sub (.var 10) y1),(32,.sub (.var 10) y1),(29,.lit 2),(66,.add (.mul (.lit 3) (.sub (.var 10) y1)) y1),(55,.sub (.var 10) y1),(52,.lit 6)])<|yD 29 nY,bv:=yT4,ct:=yT3})
     (.ob (.inr .i64 (.add (.lit 2) (.sub (.var 10) y1))) <|
      .ob (.inr .i64 (.mul (.lit 3) (.sub (.var 10) y1))) <|
      .ob (.inr .i64 (.add (.mul (.lit 3) (.sub (.var 10) y1)) (.lit 2))) <|
      .ob (.inr .i64 (.add (.mul (.lit 3) (.sub (.var 10) y1)) (.lit 5))) <|
      .fin {lo:=29,ae:=1,iv:=yO [(69,2),(64,4),(59,7)]<|yU (yr 36 26 4<|[(39,.sub (.var 10) y1),(32,.add (.lit 2) (.sub (.var 10) y1)),(29,.lit 9),(67,.add (.mul (.lit 3) (.sub (.var 10) y1)) (.lit 5)),(66,.add (.mul (.lit 3) (.sub (.var 10) y1)) (.lit 2)),(52,.lit 7)])<|yD 29 nY,bv:=yT4,ct:=yT3})))
   (.ob (.inr .i64 (.add (.lit 2) (.var 10))) <|
    .ob (.inr .i64 (.mul (.lit 3) (.var 10))) <|
    .fin {lo:=29,ae:=1,iv:=yO [(69,3),(64,4),(59,4)]<|yU (yr 36 26 4<|[(29,.lit 3),(66,.mul (.lit 3) (.var 10)),(55,.add (.lit 2) (.var 10)),(54,yv 24),(53,yv 23),(52,.lit 6)])<|yD 29 nY,bv:=yT4,ct:=xZ})))
 (.br (.ag (.var 0) (.lit 3))
  (.fin {lo:=29,ae:=1,iv:=yO [(69,4),(64,4),(59,5)]<|yU (yr 43 26 4<|[(29,.lit 4),(54,yv 5),(53,yv 4),(52,.lit 3)])<|yD 29 nY,bv:=[(50,yw 21),(44,yw 27),(37,yw 8),(70,.lit true),(65,.lit false),(60,.lit false)],ct:=xZ})
  (.br (.ag (.var 0) (.lit 4))
   (.fin {lo:=29,ae:=1,iv:=yO [(69,4),(64,4),(59,4)]<|yU (yr 55 3 3<|[(45,yv 26),(29,.lit 5),(52,.lit 3)])<|yD 29 nY,bv:=FZ,ct:=xZ})
   (.br (.ag (.var 0) (.lit 5))
    (.br (.not (.and (.ag (.var 23) (.var 4)) (.and (.ag (.var 25) (.var 6)) (.and (.ag (.var 26) (.var 7)) (.beq (.var 27) (.var 8))))))
     (.call 0 {lo:=0,ae:=0,iv:=[(0,.lit 2)]} 29 <|
      .ob (.inr .i64 (.mul (.lit 3) (.lit 2))) <|
      .ob (.inr .i64 (.add (.mul (.lit 3) (.lit 2)) y1)) <|
      .fin {lo:=29,ae:=1,iv:=yT0,bv:=FZ,ct:=xZ})
     (.br (.var 15)
      (.ob (.inr .i64 (.add (.var 6) y1)) <|
       .fin {lo:=29,ae:=1,iv:=yO [(69,4),(64,1)]<|yU (yr 59 7 7<|[(29,.lit 6),(63,.add (.var 6) y1),(62,yv 12),(61,yv 11),(52,.lit 5)])<|yD 29 nY,bv:=[(50,yw 21),(44,yw 15),(37,yw 8),(70,.lit true),(65,.lit false),(60,yw 8)],ct:=xZ})
      (.br (.ah (.var 9) (.var 16))
       (.ob (.ah y0 (.var 10)) <|
        .ob (.aY (.var 10) (.lit 3)) <|
        .br (.ag (.var 10) y0)
        (.br (.not (.ag (.var 4) y0))
         (.br (.ag (.var 16) (.var 9))
          (.fin {lo:=29,ae:=1,iv:=yO [(49,2),(69,4),(64,4),(59,8)]<|yU [(47,yv 5),(46,yv 4),(29,.lit (-1))]<|yD 29 nY,bv:=[(50,.lit false),(44,yw 15),(37,yw 8),(70,.lit false),(65,.lit false),(60,.lit false)],ct:=Yt})
          (.fin {lo:=29,ae:=1,iv:=yO [(69,4),(64,4),(59,8)]<|yU [(29,.lit (-1))]<|yD 29 nY,bv:=yT6,ct:=Yt}))
         (.fin {lo:=29,ae:=1,iv:=yO [(69,4),(64,4),(59,8)]<|yU [(29,.lit (-1))]<|yD 29 nY,bv:=yT6,ct:=Yt}))
        (.ob (.inr .i64 (.sub (.var 10) y1)) <|
         .br (.ag (.var 1) y0)
         (.call 0 {lo:=0,ae:=0,iv:=[(0,.sub (.var 10) y1)]} 29 <|
          .ob (.inr .i64 (.mul (.lit 3) (.sub (.var 10) y1))) <|
          .ob (.inr .i64 (.add (.mul (.lit 3) (.sub (.var 10) y1)) y1)) <|
          .fin {lo:=29,ae:=1,iv:=yO [(31,2),(69,3),(64,4),(59,4),(54,2)]<|yU [(39,.sub (.var 10) y1),(32,.sub (.var 10) y1),(29,.lit 2),(66,.add (.mul (.lit 3) (.sub (.var 10) y1)) y1),(55,.sub (.var 10) y1),(52,.lit 6)]<|yD 29 nY,bv:=FZ,ct:=Yt})
         (.ob (.inr .i64 (.add (.lit 2) (.sub (.var 10) y1))) <|
          .ob (.inr .i64 (.mul (.lit 3) (.sub (.var 10) y1))) <|
          .ob (.inr .i64 (.add (.mul (.lit 3) (.sub (.var 10) y1)) (.lit 2))) <|
          .ob (.inr .i64 (.add (.mul (.lit 3) (.sub (.var 10) y1)) (.lit 5))) <|
          .fin {lo:=29,ae:=1,iv:=yO [(69,2),(64,4),(59,7)]<|yU [(39,.sub (.var 10) y1),(32,.add (.lit 2) (.sub (.var 10) y1)),(29,.lit 9),(67,.add (.mul (.lit 3) (.sub (.var 10) y1)) (.lit 5)),(66,.add (.mul (.lit 3) (.sub (.var 10) y1)) (.lit 2)),(52,.lit 7)]<|yD 29 nY,bv:=FZ,ct:=Yt})))
       (.ob (.inr .i64 (.add (.lit 2) (.var 10))) <|
        .ob (.inr .i64 (.mul (.lit 3) (.var 10))) <|
        .ob (.inr .i64 (.add (.mul (.lit 3) (.var 10)) (.lit 2))) <|
        .ob (.inr .i64 (.add (.mul (.lit 3) (.var 10)) y1)) <|
        .fin {lo:=29,ae:=1,iv:=yO [(69,2),(64,4),(59,7)]<|yU [(32,.add (.lit 2) (.var 10)),(31,yv 5),(30,yv 4),(29,.lit 7),(67,.add (.mul (.lit 3) (.var 10)) y1),(66,.add (.mul (.lit 3) (.var 10)) (.lit 2)),(52,.lit 7)]<|yD 29 nY,bv:=FZ,ct:=xZ}))))
    (.br (.ag (.var 0) (.lit 6))
     (.br (.var 28)
      (.ob (.inr .i64 (.add (.var 6) y1)) <|
       .br (.ag (.var 11) y0)
       (.ob (.ah y0 (.var 10)) <|
        .ob (.aY (.var 10) (.lit 3)) <|
        .br (.ag (.var 10) y0)
        (.fin {lo:=29,ae:=1,iv:=yO [(36,1),(69,4),(64,4),(59,8)]<|yU [(35,.add (.var 6) y1),(34,yv 12),(33,yv 11),(29,.lit (-1))]<|yD 29 nY,bv:=[(50,yw 21),(44,yw 15),(37,.lit false),(70,.lit false),(65,.lit false),(60,.lit false)],ct:=yT7})
        (.ob (.inr .i64 (.sub (.var 10) y1)) <|
         .br (.ag (.var 1) y0)
         (.call 0 {lo:=0,ae:=0,iv:=[(0,.sub (.var 10) y1)]} 29 <|
          .ob (.inr .i64 (.mul (.lit 3) (.sub (.var 10) y1))) <|
          .ob (.inr .i64 (.add (.mul (.lit 3) (.sub (.var 10) y1)) y1)) <|
          .fin {lo:=29,ae:=1,iv:=yO [(36,1),(31,2),(69,3),(64,4),(59,4),(54,2)]<|yU [(39,.sub (.var 10) y1),(35,.add (.var 6) y1),(34,yv 12),(33,yv 11),(32,.sub (.var 10) y1),(29,.lit 2),(66,.add (.mul (.lit 3) (.sub (.var 10) y1)) y1),(55,.sub (.var 10) y1),(52,.lit 6)]<|yD 29 nY,bv:=yT8,ct:=yT7})
         (.ob (.inr .i64 (.add (.lit 2) (.sub (.var 10) y1))) <|
          .ob (.inr .i64 (.mul (.lit 3) (.sub (.var 10) y1))) <|
          .ob (.inr .i64 (.add (.mul (.lit 3) (.sub (.var 10) y1)) (.lit 2))) <|
          .ob (.inr .i64 (.add (.mul (.lit 3) (.sub (.var 10) y1)) (.lit 5))) <|
          .fin {lo:=29,ae:=1,iv:=yO [(36,1),(69,2),(64,4),(59,7)]<|yU [(39,.sub (.var 10) y1),(35,.add (.var 6) y1),(34,yv 12),(33,yv 11),(32,.add (.lit 2) (.sub (.var 10) y1)),(29,.lit 9),(67,.add (.mul (.lit 3) (.sub (.var 10) y1)) (.lit 5)),(66,.add (.mul (.lit 3) (.sub (.var 10) y1)) (.lit 2)),(52,.lit 7)]<|yD 29 nY,bv:=yT8,ct:=yT7})))
       (.ob (.inr .i64 (.mul (.lit 3) (.var 10))) <|
        .ob (.inr .i64 (.add (.mul (.lit 3) (.var 10)) y1)) <|
        .fin {lo:=29,ae:=1,iv:=yO [(36,1),(69,2),(64,4),(59,7)]<|yU [(35,.add (.var 6) y1),(34,yv 12),(33,yv 11),(29,.lit 8),(67,.mul (.lit 3) (.var 10)),(66,.add (.mul (.lit 3) (.var 10)) y1),(52,.lit 7)]<|yD 29 nY,bv:=yT8,ct:=xZ}))
      (.call 0 {lo:=0,ae:=0,iv:=[(0,.lit 2)]} 29 <|
       .ob (.inr .i64 (.mul (.lit 3) (.lit 2))) <|
       .ob (.inr .i64 (.add (.mul (.lit 3) (.lit 2)) y1)) <|
       .fin {lo:=29,ae:=1,iv:=yT0,bv:=FZ,ct:=xZ}))
     (.br (.ag (.var 0) y0)
      (.call 0 {lo:=0,ae:=0,iv:=[(0,.lit 2)]} 29 <|
       .ob (.inr .i64 (.mul (.lit 3) (.lit 2))) <|
       .ob (.inr .i64 (.add (.mul (.lit 3) (.lit 2)) y1)) <|
       .fin {lo:=29,ae:=1,iv:=yT0,bv:=FZ,ct:=xZ})
      (.br (.ag (.var 0) (.lit 7))
       (.br (.ag (.var 11) y0)
        (.ob (.ah y0 (.var 10)) <|
         .ob (.aY (.var 10) (.lit 3)) <|
         .br (.ag (.var 10) y0)
         (.fin {lo:=29,ae:=1,iv:=yO [(69,4),(64,4),(59,8)]<|yU (yr 36 14 4<|[(29,.lit (-1))])<|yD 29 nY,bv:=[(50,yw 21),(44,yw 15),(37,yw 15),(70,.lit false),(65,.lit false),(60,.lit false)],ct:=yT9})
         (.ob (.inr .i64 (.sub (.var 10) y1)) <|
          .br (.ag (.var 1) y0)
          (.call 0 {lo:=0,ae:=0,iv:=[(0,.sub (.var 10) y1)]} 29 <|
           .ob (.inr .i64 (.mul (.lit 3) (.sub (.var 10) y1))) <|
           .ob (.inr .i64 (.add (.mul (.lit 3) (.sub (.var 10) y1)) y1)) <|
           .fin {lo:=29,ae:=1,iv:=yO [(31,2),(69,3),(64,4),(59,4),(54,2)]<|yU (yr 36 14 4<|[(39,.sub (.var 10) y1),(32,.sub (.var 10) y1),(29,.lit 2),(66,.add (.mul (.lit 3) (.sub (.var 10) y1)) y1),(55,.sub (.var 10) y1),(52,.lit 6)])<|yD 29 nY,bv:=aaZ,ct:=yT9})
          (.ob (.inr .i64 (.add (.lit 2) (.sub (.var 10) y1))) <|
           .ob (.inr .i64 (.mul (.lit 3) (.sub (.var 10) y1))) <|
           .ob (.inr .i64 (.add (.mul (.lit 3) (.sub (.var 10) y1)) (.lit 2))) <|
           .ob (.inr .i64 (.add (.mul (.lit 3) (.sub (.var 10) y1)) (.lit 5))) <|
           .fin {lo:=29,ae:=1,iv:=yO [(69,2),(64,4),(59,7)]<|yU (yr 36 14 4<|[(39,.sub (.var 10) y1),(32,.add (.lit 2) (.sub (.var 10) y1)),(29,.lit 9),(67,.add (.mul (.lit 3) (.sub (.var 10) y1)) (.lit 5)),(66,.add (.mul (.lit 3) (.sub (.var 10) y1)) (.lit 2)),(52,.lit 7)])<|yD 29 nY,bv:=aaZ,ct:=yT9})))
        (.ob (.inr .i64 (.mul (.lit 3) (.var 10))) <|
         .ob (.inr .i64 (.add (.mul (.lit 3) (.var 10)) y1)) <|
         .fin {lo:=29,ae:=1,iv:=yO [(69,2),(64,4),(59,7)]<|yU (yr 36 14 4<|[(29,.lit 8),(67,.mul (.lit 3) (.var 10)),(66,.add (.mul (.lit 3) (.var 10)) y1),(52,.lit 7)])<|yD 29 nY,bv:=aaZ,ct:=xZ}))
       (.br (.ag (.var 0) (.lit 8))
        (.ob (.inr .i64 (.add (.lit 2) (.var 10))) <|
         .ob (.inr .i64 (.mul (.lit 3) (.var 10))) <|
         .fin {lo:=29,ae:=1,iv:=yO [(69,3),(64,4),(59,4)]<|yU [(29,.lit 3),(66,.mul (.lit 3) (.var 10)),(55,.add (.lit 2) (.var 10)),(54,yv 5),(53,yv 4),(52,.lit 6)]<|yD 29 nY,bv:=FZ,ct:=xZ})
        (.br (.ag (.var 0) (.lit 9))
         (.ob (.inr .i64 (.mul (.lit 3) (.var 10))) <|
          .ob (.inr .i64 (.add (.mul (.lit 3) (.var 10)) y1)) <|
          .fin {lo:=29,ae:=1,iv:=yO [(69,3),(64,4),(59,4)]<|yU (yr 55 3 3<|[(29,.lit 2),(66,.add (.mul (.lit 3) (.var 10)) y1),(52,.lit 6)])<|yD 29 nY,bv:=FZ,ct:=xZ})
         (.fin {lo:=29,ae:=1,iv:=yO [(69,4),(64,4),(59,8)]<|yD 29 nY,bv:=yT6,ct:=xZ})))))))))
theorem ahm:exec tab cmE 8000 [] (bZ jU.f jU.nv [] jU.gl jU.hp jU.args)=VC:=by kernel_rfl
def iq (ρ:Env) (r i:Nat):Pt:=⟨⟨ρ.ic r i 0 0,ρ.ic r i 0 1,ρ.ic r i 0 2⟩,⟨ρ.ic r i 0 3,ρ.ic r i 0 4,ρ.ic r i 0 5,ρ.ic r i 0 6,ρ.bc r i 0 7⟩⟩
def cZ (ρ:Env) (v:Nat):Cm:=⟨ρ.iv v,⟨ρ.iv (v+1),ρ.iv (v+2),ρ.iv (v+3)⟩,aC ρ (v+4),ρ.iv (v+9),ρ.iv (v+10),aC ρ (v+11),ρ.iv (v+16),iq ρ (v+22) 0,iq ρ (v+22) 1,iq ρ (v+22) 2,aC ρ (v+17)⟩
def anr (x:Int):Prop:=-1000000000000<=x/\x<=1000000000000
def NQ (ρ:Env):Prop:=(0<=ρ.iv 10/\ρ.iv 10<=2)/\anr (ρ.iv 6)
def Eh (ρ:Env):Prop:=cZ ρ 29=((cZ ρ 0).nx (az ρ 23)).1/\((cZ ρ 0).nx (az ρ 23)).2=if ρ.bv 70=true then some (fe ρ 52) else none
theorem dE {q:Env} {C:Cm} {R:Option Ca} (a:(cZ q 0).nx (az q 23)=(C,R)) (c:cZ q 29=C) (b:R=if q.bv 70=true then some (fe q 52) else none):Eh q:=by
 unfold Eh
 rw [a]
 exact ⟨c,b⟩
theorem gQ {a b:Cm} (i:a.at'=b.at') (g:a.pv=b.pv) (l:a.cur=b.cur) (h:a.bound=b.bound) (k:a.level=b.level) (d:a.next=b.next) (j:a.k=b.k) (f:a.s0=b.s0) (e:a.s1=b.s1) (h10:a.s2=b.s2) (c:a.found=b.found):a=b:=by
 cases a;cases b
 simp only at *
 subst i g l h k d j f e h10 c
 rfl
def VD:mo:=[(fu,zH,gU)]
section
variable {c:Cm} {x:Rp}
theorem nx2 (h:c.at'=2):c.nx x=if x.word.mark=true then c.again else if x.word.slot=0 then Cm.lower {c with cur:=x.word} else Cm.behind {c with cur:=x.word}:=by
 unfold Cm.nx
 rw [if_pos h]
theorem nx3 (h:c.at'=3):c.nx x=Cm.ask {c with next:=x.word} 4 (gH (wF c.cur 0)):=by
 unfold Cm.nx
 rw [iN,if_pos h]
theorem nx4 (h:c.at'=4):c.nx x=Cm.ask {c with k:=x.word.num} 5 (gH c.pv):=by
 unfold Cm.nx
 rw [iN,iN,if_pos h]
theorem nx5 (h:c.at'=5):c.nx x=if ¬eY x.word c.cur then c.again else if c.next.mark=true then c.ask 6 (fM c.pv c.cur (cB c.cur c.next)) else if c.k>=c.bound then c.lower else Cm.ask {c with pv:=wF c.cur (2+c.level)} 7 (mF (3 * c.level+2) (3 * c.level+1)):=by
 unfold Cm.nx
 rw [iN,iN,iN,if_pos h]
theorem nx6 (h:c.at'=6):c.nx x=if x.ok=true then Cm.on {c with cur:=cB c.cur c.next} else c.again:=by
 unfold Cm.nx
 rw [iN,iN,iN,iN,if_pos h]
theorem nx0 (h:c.at'=0):c.nx x=c.again:=by
 unfold Cm.nx
 rw [iN,iN,iN,iN,iN,if_pos h]
theorem nx7 (h:c.at'=7):c.nx x=Cm.on {c with cur:=c.next}:=by
 unfold Cm.nx
 rw [iN,iN,iN,iN,iN,iN,if_pos h]
theorem nx8 (h:c.at'=8):c.nx x=c.behind:=by
 unfold Cm.nx
 rw [iN,iN,iN,iN,iN,iN,iN,if_pos h]
theorem nx9 (h:c.at'=9):c.nx x=c.enter:=by
 unfold Cm.nx
 rw [iN,iN,iN,iN,iN,iN,iN,iN,if_pos h]
theorem nxE (h:c.at'≠2/\c.at'≠3/\c.at'≠4/\c.at'≠5/\c.at'≠6/\c.at'≠0/\c.at'≠7/\c.at'≠8/\c.at'≠9):c.nx x=(c,none):=by
 unfold Cm.nx
 rw [iN,iN,iN,iN,iN,iN,iN,iN,iN]
theorem ahn {s:Pt} (h:c.level=0):c.set c.level s={c with s0:=s}:=if_pos h
theorem wO {s:Pt} (h:c.level=1):c.set c.level s={c with s1:=s}:=by unfold Cm.set;rw [iN,if_pos h]
theorem aho {s:Pt} (h:c.level=2):c.set c.level s={c with s2:=s}:=by unfold Cm.set;rw [iN,iN]
theorem ant (h:c.level=0) (a:c.cur.slot≠0/\c.k=c.bound):c.lower=({c with s0:=⟨c.pv,c.cur⟩,at':=-1,found:=c.cur.bN},none):=by
 unfold Cm.lower
 rw [if_pos h,if_pos a,ahn h]
theorem JJ (h:c.level=0) (a:¬(c.cur.slot≠0/\c.k=c.bound)):c.lower=({c with s0:=⟨c.pv,c.cur⟩,at':=-1},none):=by
 unfold Cm.lower
 rw [if_pos h,if_neg a,ahn h]
theorem ahp (h:c.level≠0) (a:c.pv.slot=0):c.lower=Cm.enter {c.set c.level ⟨c.pv,c.cur⟩ with level:=c.level-1,pv:=Ad.root (c.level-1)}:=by
 unfold Cm.lower
 rw [if_neg h,if_pos a]
theorem ahq (h:c.level≠0) (a:c.pv.slot≠0):c.lower=Cm.ask {c.set c.level ⟨c.pv,c.cur⟩ with level:=c.level-1,pv:={c.pv with field:=2+(c.level-1)}} 9 (mF (3 * (c.level-1)+2) (3 * (c.level-1)+5)):=by
 unfold Cm.lower
 rw [if_neg h,if_neg a]
theorem onN (h:c.cur.slot=0):c.on=c.lower:=by unfold Cm.on;rw [if_pos h]
theorem onB (h:c.cur.slot≠0):c.on=c.ask 8 (mF (3 * c.level+1) (3 * c.level)):=by unfold Cm.on;rw [if_neg h]
end
def nA (q:Env) (w:Wd):Cm:={cZ q 0 with cur:=w}
section
variable {c:Cm}
theorem NR (h:c.level=1) (a:c.pv.slot=0):c.lower=Cm.enter {c with s1:=⟨c.pv,c.cur⟩,level:=c.level-1,pv:=Ad.root (c.level-1)}:=by
 rw [ahp (by omega) a,wO h]
theorem NS (h:c.level=2) (a:c.pv.slot=0):c.lower=Cm.enter {c with s2:=⟨c.pv,c.cur⟩,level:=c.level-1,pv:=Ad.root (c.level-1)}:=by
 rw [ahp (by omega) a,aho h]
theorem NT (h:c.level=1) (a:c.pv.slot≠0):c.lower=Cm.ask {c with s1:=⟨c.pv,c.cur⟩,level:=c.level-1,pv:={c.pv with field:=2+(c.level-1)}} 9 (mF (3 * (c.level-1)+2) (3 * (c.level-1)+5)):=by
 rw [ahq (by omega) a,wO h]
theorem NU (h:c.level=2) (a:c.pv.slot≠0):c.lower=Cm.ask {c with s2:=⟨c.pv,c.cur⟩,level:=c.level-1,pv:={c.pv with field:=2+(c.level-1)}} 9 (mF (3 * (c.level-1)+2) (3 * (c.level-1)+5)):=by
 rw [ahq (by omega) a,aho h]
end
set_option maxHeartbeats 4000000 in
theorem ahr (ρ:Env) (j:NQ ρ.num):Sat Eh VD [] ρ VC:=by
 replace j:NQ ρ:=j
 obtain ⟨⟨r,t⟩,⟨s,p⟩⟩:=j
 unfold VC
 refine Sat.br (λa2=>?_) (λa2=>?_)
 all_goals simp only [Da] at a2
 ·have a:=nx2 (c:=cZ ρ 0) (x:=az ρ 23) a2
  refine Sat.br (λi=>?_) (λi=>?_)
  all_goals simp only [Da] at i
  ·refine Sat.dF (c:=fu) rfl ⟨by show (0:Int)<=2;decide,by show (2:Int)<24;decide⟩ (λq=>(cZ q 0).nx (az q 23)=(cZ q 0).again) (λe _=>a.trans (if_pos i)) λq f=>?_
   refine oS (oS (Sat.fin (dE f rfl rfl)))
  ·replace a:=a.trans (if_neg (λz:ρ.bv 27=_=>by rw [i] at z;cases z))
   refine Sat.br (λg=>?_) (λg=>?_)
   all_goals simp only [Da] at g
   ·replace a:=a.trans (if_pos g)
    refine oS (oS (Sat.br (λh=>?_) (λh=>?_)))
    all_goals simp only [Da] at h
    ·refine Sat.fin (dE (a.trans (JJ h (λz=>z.1 g))) (gQ rfl rfl rfl rfl rfl rfl rfl ?_ ?_ ?_ rfl) rfl) <;> simp [iq,cZ,aC,az,cB,Cm.set,nA, *,-Int.pred_toNat,Na]
    ·have b:ρ.iv 10=1\/ρ.iv 10=2:=by omega
     refine oS (Sat.br (λd=>?_) (λd=>?_))
     all_goals simp only [Da] at d
     ·refine Sat.dF (c:=fu) rfl ⟨by show (0:Int)<=ρ.iv 10-1;omega,by show ρ.iv 10-1<(24:Int);omega⟩ (λq=>((q.iv 10=1\/q.iv 10=2)/\q.iv 1=0)/\(cZ q 0).nx (az q 23)=Cm.lower (nA q (aC q 23))) (λe _=>⟨⟨b,d⟩,a⟩) λq f=>?_
      obtain ⟨⟨b,d⟩,f⟩:=f
      refine oS (oS ?_)
      rcases b with b | b
      ·refine Sat.fin (dE (f.trans (NR b d)) (gQ rfl rfl rfl rfl rfl rfl rfl ?_ ?_ ?_ rfl) rfl) <;> simp [iq,cZ,aC,az,cB,Cm.set,nA, *,-Int.pred_toNat,Na]
      ·refine Sat.fin (dE (f.trans (NS b d)) (gQ rfl rfl rfl rfl rfl rfl rfl ?_ ?_ ?_ rfl) rfl) <;> simp [iq,cZ,aC,az,cB,Cm.set,nA, *,-Int.pred_toNat,Na]
     ·refine oS (oS (oS (oS ?_)))
      rcases b with b | b
      ·refine Sat.fin (dE (a.trans (NT b d)) (gQ rfl rfl rfl rfl rfl rfl rfl ?_ ?_ ?_ rfl) rfl) <;> simp [iq,cZ,aC,az,cB,Cm.set,nA, *,-Int.pred_toNat,Na]
      ·refine Sat.fin (dE (a.trans (NU b d)) (gQ rfl rfl rfl rfl rfl rfl rfl ?_ ?_ ?_ rfl) rfl) <;> simp [iq,cZ,aC,az,cB,Cm.set,nA, *,-Int.pred_toNat,Na]
   ·replace a:=a.trans (if_neg g)
    exact oS (oS (Sat.fin (dE a rfl rfl)))
 refine Sat.br (λa3=>?_) (λa3=>?_)
 all_goals simp only [Da] at a3
 ·exact Sat.fin (dE (nx3 (c:=cZ ρ 0) (x:=az ρ 23) a3) rfl rfl)
 refine Sat.br (λa4=>?_) (λa4=>?_)
 all_goals simp only [Da] at a4
 ·exact Sat.fin (dE (nx4 (c:=cZ ρ 0) (x:=az ρ 23) a4) rfl rfl)
 refine Sat.br (λa5=>?_) (λa5=>?_)
 all_goals simp only [Da] at a5
 ·have a:=nx5 (c:=cZ ρ 0) (x:=az ρ 23) a5
  refine Sat.br (λi=>?_) (λi=>?_)
  all_goals simp only [Da] at i
  ·replace a:=a.trans (if_pos (λz=>i.elim (λq=>q z.1) λq=>q.elim (λq=>q z.2.1) λq=>q.elim (λq=>q z.2.2.1) λq=>q z.2.2.2))
   refine Sat.dF (c:=fu) rfl ⟨by show (0:Int)<=2;decide,by show (2:Int)<24;decide⟩ (λq=>(cZ q 0).nx (az q 23)=(cZ q 0).again) (λe _=>a) λq f=>?_
   refine oS (oS (Sat.fin (dE f rfl rfl)))
  ·replace a:=a.trans (if_neg (λz=>z i))
   refine Sat.br (λg=>?_) (λg=>?_)
   all_goals simp only [Da] at g
   ·exact oS (Sat.fin (dE (a.trans (if_pos g)) rfl rfl))
   ·replace a:=a.trans (if_neg (λz:ρ.bv 15=_=>by rw [g] at z;cases z))
    refine Sat.br (λo=>?_) (λo=>?_)
    all_goals simp only [Da] at o
    ·replace a:=a.trans (if_pos o)
     refine oS (oS (Sat.br (λh=>?_) (λh=>?_)))
     all_goals simp only [Da] at h
     ·refine Sat.br (λk=>?_) (λk=>?_)
      all_goals simp only [Da] at k
      ·refine Sat.br (λl=>?_) (λl=>?_)
       all_goals simp only [Da] at l
       ·refine Sat.fin (dE (a.trans (ant h ⟨k,l⟩)) (gQ rfl rfl rfl rfl rfl rfl rfl ?_ ?_ ?_ rfl) rfl) <;> simp [iq,cZ,aC,az,cB,Cm.set,nA, *,-Int.pred_toNat,Na]
       ·refine Sat.fin (dE (a.trans (JJ h (λz=>l z.2))) (gQ rfl rfl rfl rfl rfl rfl rfl ?_ ?_ ?_ rfl) rfl) <;> simp [iq,cZ,aC,az,cB,Cm.set,nA, *,-Int.pred_toNat,Na]
      ·refine Sat.fin (dE (a.trans (JJ h (λz=>z.1 k))) (gQ rfl rfl rfl rfl rfl rfl rfl ?_ ?_ ?_ rfl) rfl) <;> simp [iq,cZ,aC,az,cB,Cm.set,nA, *,-Int.pred_toNat,Na]
     ·have b:ρ.iv 10=1\/ρ.iv 10=2:=by omega
      refine oS (Sat.br (λd=>?_) (λd=>?_))
      all_goals simp only [Da] at d
      ·refine Sat.dF (c:=fu) rfl ⟨by show (0:Int)<=ρ.iv 10-1;omega,by show ρ.iv 10-1<(24:Int);omega⟩ (λq=>((q.iv 10=1\/q.iv 10=2)/\q.iv 1=0)/\(cZ q 0).nx (az q 23)=Cm.lower (nA q (aC q 4))) (λe _=>⟨⟨b,d⟩,a⟩) λq f=>?_
       obtain ⟨⟨b,d⟩,f⟩:=f
       refine oS (oS ?_)
       rcases b with b | b
       ·refine Sat.fin (dE (f.trans (NR b d)) (gQ rfl rfl rfl rfl rfl rfl rfl ?_ ?_ ?_ rfl) rfl) <;> simp [iq,cZ,aC,az,cB,Cm.set,nA, *,-Int.pred_toNat,Na]
       ·refine Sat.fin (dE (f.trans (NS b d)) (gQ rfl rfl rfl rfl rfl rfl rfl ?_ ?_ ?_ rfl) rfl) <;> simp [iq,cZ,aC,az,cB,Cm.set,nA, *,-Int.pred_toNat,Na]
      ·refine oS (oS (oS (oS ?_)))
       rcases b with b | b
       ·refine Sat.fin (dE (a.trans (NT b d)) (gQ rfl rfl rfl rfl rfl rfl rfl ?_ ?_ ?_ rfl) rfl) <;> simp [iq,cZ,aC,az,cB,Cm.set,nA, *,-Int.pred_toNat,Na]
       ·refine Sat.fin (dE (a.trans (NU b d)) (gQ rfl rfl rfl rfl rfl rfl rfl ?_ ?_ ?_ rfl) rfl) <;> simp [iq,cZ,aC,az,cB,Cm.set,nA, *,-Int.pred_toNat,Na]
    ·exact oS (oS (oS (oS (Sat.fin (dE (a.trans (if_neg (show ¬ρ.iv 16>=ρ.iv 9 by omega))) rfl rfl)))))
 refine Sat.br (λa6=>?_) (λa6=>?_)
 all_goals simp only [Da] at a6
 ·have a:=nx6 (c:=cZ ρ 0) (x:=az ρ 23) a6
  refine Sat.br (λi=>?_) (λi=>?_)
  all_goals simp only [Da] at i
  ·replace a:=a.trans (if_pos i)
   refine oS (Sat.br (λg=>?_) (λg=>?_))
   all_goals simp only [Da] at g
   ·replace a:=a.trans (onN g)
    refine oS (oS (Sat.br (λh=>?_) (λh=>?_)))
    all_goals simp only [Da] at h
    ·refine Sat.fin (dE (a.trans (JJ h (λz=>z.1 g))) (gQ rfl rfl rfl rfl rfl rfl rfl ?_ ?_ ?_ rfl) rfl) <;> simp [iq,cZ,aC,az,cB,Cm.set,nA, *,-Int.pred_toNat,Na]
    ·have b:ρ.iv 10=1\/ρ.iv 10=2:=by omega
     refine oS (Sat.br (λd=>?_) (λd=>?_))
     all_goals simp only [Da] at d
     ·refine Sat.dF (c:=fu) rfl ⟨by show (0:Int)<=ρ.iv 10-1;omega,by show ρ.iv 10-1<(24:Int);omega⟩ (λq=>((q.iv 10=1\/q.iv 10=2)/\q.iv 1=0)/\(cZ q 0).nx (az q 23)=Cm.lower (nA q (cB (aC q 4) (aC q 11)))) (λe _=>⟨⟨b,d⟩,a⟩) λq f=>?_
      obtain ⟨⟨b,d⟩,f⟩:=f
      refine oS (oS ?_)
      rcases b with b | b
      ·refine Sat.fin (dE (f.trans (NR b d)) (gQ rfl rfl rfl rfl rfl rfl rfl ?_ ?_ ?_ rfl) rfl) <;> simp [iq,cZ,aC,az,cB,Cm.set,nA, *,-Int.pred_toNat,Na]
      ·refine Sat.fin (dE (f.trans (NS b d)) (gQ rfl rfl rfl rfl rfl rfl rfl ?_ ?_ ?_ rfl) rfl) <;> simp [iq,cZ,aC,az,cB,Cm.set,nA, *,-Int.pred_toNat,Na]
     ·refine oS (oS (oS (oS ?_)))
      rcases b with b | b
      ·refine Sat.fin (dE (a.trans (NT b d)) (gQ rfl rfl rfl rfl rfl rfl rfl ?_ ?_ ?_ rfl) rfl) <;> simp [iq,cZ,aC,az,cB,Cm.set,nA, *,-Int.pred_toNat,Na]
      ·refine Sat.fin (dE (a.trans (NU b d)) (gQ rfl rfl rfl rfl rfl rfl rfl ?_ ?_ ?_ rfl) rfl) <;> simp [iq,cZ,aC,az,cB,Cm.set,nA, *,-Int.pred_toNat,Na]
   ·exact oS (oS (Sat.fin (dE (a.trans (onB g)) rfl rfl)))
  ·replace a:=a.trans (if_neg (λz:ρ.bv 28=_=>by rw [i] at z;cases z))
   refine Sat.dF (c:=fu) rfl ⟨by show (0:Int)<=2;decide,by show (2:Int)<24;decide⟩ (λq=>(cZ q 0).nx (az q 23)=(cZ q 0).again) (λe _=>a) λq f=>?_
   refine oS (oS (Sat.fin (dE f rfl rfl)))
 refine Sat.br (λn=>?_) (λn=>?_)
 all_goals simp only [Da] at n
 ·refine Sat.dF (c:=fu) rfl ⟨by show (0:Int)<=2;decide,by show (2:Int)<24;decide⟩ (λq=>(cZ q 0).nx (az q 23)=(cZ q 0).again) (λe _=>nx0 (c:=cZ ρ 0) (x:=az ρ 23) n) λq f=>?_
  refine oS (oS (Sat.fin (dE f rfl rfl)))
 refine Sat.br (λa7=>?_) (λa7=>?_)
 all_goals simp only [Da] at a7
 ·have a:=nx7 (c:=cZ ρ 0) (x:=az ρ 23) a7
  refine Sat.br (λg=>?_) (λg=>?_)
  all_goals simp only [Da] at g
  ·replace a:=a.trans (onN g)
   refine oS (oS (Sat.br (λh=>?_) (λh=>?_)))
   all_goals simp only [Da] at h
   ·refine Sat.fin (dE (a.trans (JJ h (λz=>z.1 g))) (gQ rfl rfl rfl rfl rfl rfl rfl ?_ ?_ ?_ rfl) rfl) <;> simp [iq,cZ,aC,az,cB,Cm.set,nA, *,-Int.pred_toNat,Na]
   ·have b:ρ.iv 10=1\/ρ.iv 10=2:=by omega
    refine oS (Sat.br (λd=>?_) (λd=>?_))
    all_goals simp only [Da] at d
    ·refine Sat.dF (c:=fu) rfl ⟨by show (0:Int)<=ρ.iv 10-1;omega,by show ρ.iv 10-1<(24:Int);omega⟩ (λq=>((q.iv 10=1\/q.iv 10=2)/\q.iv 1=0)/\(cZ q 0).nx (az q 23)=Cm.lower (nA q (aC q 11))) (λe _=>⟨⟨b,d⟩,a⟩) λq f=>?_
     obtain ⟨⟨b,d⟩,f⟩:=f
     refine oS (oS ?_)
     rcases b with b | b
     ·refine Sat.fin (dE (f.trans (NR b d)) (gQ rfl rfl rfl rfl rfl rfl rfl ?_ ?_ ?_ rfl) rfl) <;> simp [iq,cZ,aC,az,cB,Cm.set,nA, *,-Int.pred_toNat,Na]
     ·refine Sat.fin (dE (f.trans (NS b d)) (gQ rfl rfl rfl rfl rfl rfl rfl ?_ ?_ ?_ rfl) rfl) <;> simp [iq,cZ,aC,az,cB,Cm.set,nA, *,-Int.pred_toNat,Na]
    ·refine oS (oS (oS (oS ?_)))
     rcases b with b | b
     ·refine Sat.fin (dE (a.trans (NT b d)) (gQ rfl rfl rfl rfl rfl rfl rfl ?_ ?_ ?_ rfl) rfl) <;> simp [iq,cZ,aC,az,cB,Cm.set,nA, *,-Int.pred_toNat,Na]
     ·refine Sat.fin (dE (a.trans (NU b d)) (gQ rfl rfl rfl rfl rfl rfl rfl ?_ ?_ ?_ rfl) rfl) <;> simp [iq,cZ,aC,az,cB,Cm.set,nA, *,-Int.pred_toNat,Na]
  ·exact oS (oS (Sat.fin (dE (a.trans (onB g)) rfl rfl)))
 refine Sat.br (λa8=>?_) (λa8=>?_)
 all_goals simp only [Da] at a8
 ·exact oS (oS (Sat.fin (dE (nx8 (c:=cZ ρ 0) (x:=az ρ 23) a8) rfl rfl)))
 refine Sat.br (λm=>?_) (λm=>?_)
 all_goals simp only [Da] at m
 ·exact oS (oS (Sat.fin (dE (nx9 (c:=cZ ρ 0) (x:=az ρ 23) m) rfl rfl)))
 ·exact Sat.fin (dE (nxE (c:=cZ ρ 0) (x:=az ρ 23) ⟨a2,a3,a4,a5,a6,n,a7,a8,m⟩) rfl rfl)
theorem ahs:aK Tryz.prog jU NQ Eh :=
 bq bM (E:=cmE) (cs:=VD) rfl (λk pre post h=>by
   simp only [VD,List.mem_cons,List.not_mem_nil,or_false,Prod.mk.injEq] at h
   obtain ⟨rfl,rfl,rfl⟩:=h
   exact ⟨by kernel_rfl,P5⟩) aO rfl ahm (by kernel_rfl) (λb h p a=>by cases a) ahr
def yM (ρ:Env) (v:Nat):Op:=⟨ρ.iv v,ρ.iv (v+1),ρ.iv (v+2),ρ.iv (v+3)⟩
def mD (ρ:Env) (v:Nat) (c:Option Cm):Jb:=⟨ρ.iv v,fe ρ (v+1),yM ρ (v+19),c,aC ρ (v+23),ρ.iv (v+28),ρ.iv (v+29),ρ.iv (v+30)⟩
def jC (q:Env):Jb:=mD q 0 (some (cZ q 31))
structure tO (ρ:Env):Prop where
 l0:0<=ρ.iv 41
 l1:ρ.iv 41<=2
 t0:-1000000000000<=ρ.iv 37
 t1:ρ.iv 37<=1000000000000
 s0:∀i,i<3->-1000000000000<=ρ.ic 53 i 0 5
 s1:∀i,i<3->ρ.ic 53 i 0 5<=1000000000000
 x0:-1000000000000<=ρ.iv 56
 x1:ρ.iv 56<=1000000000000
 k0:0<=ρ.iv 20
 k1:ρ.iv 20<=255
 b0:0<=ρ.iv 29
 b1:ρ.iv 29<=2
 v0:0<=ρ.iv 28
 v1:ρ.iv 28<=3
def gM (ρ:Env):Prop:=mD ρ 60 (some (cZ ρ 91))=((jC ρ).next (az ρ 54)).1/\fe ρ 114=((jC ρ).next (az ρ 54)).2
theorem bC {q:Env} {Q:Jb × Ca} (a:(jC q).next (az q 54)=Q) (c:mD q 60 (some (cZ q 91))=Q.1) (b:fe q 114=Q.2):gM q:=by
 unfold gM
 rw [a]
 exact ⟨c,b⟩
noncomputable def oH:Ex:={sched:=sched,loops:=[],cons:=[jU],fin:=aL,OU:=true}
def jP:mo:=[(jU,NQ,Eh)]
theorem lV:∀k pre post,(k,pre,post)∈jP->kX k=true/\aK Tryz.prog k pre post:=λk pre post h=>by
 simp only [jP,List.mem_cons,List.not_mem_nil,or_false,Prod.mk.injEq] at h
 obtain ⟨rfl,rfl,rfl⟩:=h
 exact ⟨by kernel_rfl,ahs⟩
section
variable {j:Jb} {c C:Cm} {x:Rp} {a:Ca} {b:Bool} {K:Jb->Jb × Ca} {P:Pt} {ρ:Env} {post:Env->Prop} {cs:mo} {Γ:List (Env->Prop)} {A:Out}
theorem wk (g:j.cl=some c) (f:C=(c.nx x).1) (d:(c.nx x).2=if b=true then some a else none):j.walk x K=if b=true then ({j with cl:=some C},a) else K {j with cl:=some C}:=by
 unfold Jb.walk
 rw [g]
 simp only
 subst f
 cases b with
 | true =>
  rw [if_pos rfl] at d ⊢
  rcases h:c.nx x with ⟨e,o⟩
  rw [h] at d
  have d:o=some a:=d
  subst d
  rfl
 | false =>
  rw [if_neg (by decide)] at d ⊢
  rcases h:c.nx x with ⟨e,o⟩
  rw [h] at d
  have d:o=none:=d
  subst d
  rfl
theorem a2 (h:Sat post cs Γ ρ A):Sat post cs Γ ρ (.alt A A):=⟨h,h⟩
theorem Yu {w u:Wd}:w.bN≠u.bN↔¬(w.slot=u.slot/\w.gen=u.gen):=by
 refine not_congr ⟨λh=>?_,λh=>?_⟩
 ·unfold Wd.bN at h
  simp only [Wd.mk.injEq] at h
  exact ⟨h.1,h.2.1⟩
 ·unfold Wd.bN
  rw [h.1,h.2]
theorem BB (h:j.op.kind=6) (d:9<=j.at') (e:¬101<=j.at'):j.next x=j.raise x:=by
 unfold Jb.next
 rw [iN,if_neg e,if_pos ⟨h,d⟩]
theorem aht (h:j.at'=9) (d:j.place j.level=P):j.raise x=if x.word.mark=true then j.part 1 else if x.word.bN≠P.cur.bN then j.ask 10 (fM (j.field (2+j.level)) x.word (cB x.word P.cur)) else j.ask 11 (fM P.a P.cur (cB P.cur j.node)):=by
 subst d
 unfold Jb.raise
 rw [if_pos h]
 rfl
theorem aeL (h:j.at'=10) (d:j.place j.level=P):j.raise x=if x.ok=false then j.link else j.ask 11 (fM P.a P.cur (cB P.cur j.node)):=by
 subst d
 unfold Jb.raise
 rw [iN,if_pos h]
 rfl
theorem aeM (h:j.at'=11):j.raise x=if x.ok=true then Jb.link {j with level:=j.level+1} else (j.gq 12 j.op.key).qF x:=by
 unfold Jb.raise
 rw [iN,iN,if_pos h]
theorem aeN (h:j.at'=12):j.raise x=j.qF x:=by
 unfold Jb.raise
 rw [iN,iN,iN,if_pos h]
theorem Hw {q:Env} {l:Int} {v:Nat} {j:Jb} (d:j.cl=some (cZ q v)) (h:0<=l/\l<3):j.place l=iq q (v+22) l.toNat:=by
 unfold Jb.place
 rw [d]
 simp only
 rw [if_pos h]
 rcases (by omega:l=0\/l=1\/l=2) with e | e | e
 ·subst e;rfl
 ·subst e;rfl
 ·subst e;rfl
end
def ahu:Kn:=[(.ag (.var 19) (.lit 6),true),(.ag (.var 0) (.lit 9),true),(.aY (.var 28) (.lit 0),false),(.ah (.lit 3) (.var 28),false),(.ah (.lit 0) (.var 28),true),(.aY (.var 28) (.lit 3),true)]
abbrev ahv:List (Nat × IE):=yO [(131,4),(126,4),(121,4)]<|yU [(89,.lit 1),(60,.lit 101),(117,.lit 7),(116,yv 24),(115,yv 23),(114,.lit 3)]<|yD 60 iE
abbrev Qy:List (Nat × BE):=yP [(127,1),(122,1)]<|yE 60 l7
abbrev Ej:List (Nat × CV):=[(113,.up {r:=53,n1:=(.lit 3),s1:=8,lo:=35,ks:=[.int .i64,.int .i64,.int .i64,.int .i64,.int .i64,.int .i64,.int .i64,.bool]} 0 [] y0)]
abbrev uQ:List (Nat × SA):=[(2,{ak:=1})]
abbrev ahw:List (Nat × IE):=yO [(131,4),(126,1)]<|yU [(60,.lit 11),(125,.add (.cell 53 (.var 28) y0 5) y1),(124,yv 24),(123,yv 23),(121,.cell 53 (.var 28) y0 6),(120,.cell 53 (.var 28) y0 5),(119,.cell 53 (.var 28) y0 4),(118,.cell 53 (.var 28) y0 3),(117,.cell 53 (.var 28) y0 2),(116,.cell 53 (.var 28) y0 1),(115,.cell 53 (.var 28) y0 0),(114,.lit 5)]<|yD 60 iE
abbrev El:List (Nat × CV):=[(113,.up {r:=82,n1:=(.lit 3),s1:=8,lo:=35,ks:=[.int .i64,.int .i64,.int .i64,.int .i64,.int .i64,.int .i64,.int .i64,.bool]} 0 [] y0)]
abbrev VE:List (Nat × IE):=yO [(131,4),(126,4),(121,4)]<|yU (yr 111 80 5<|yr 105 74 6<|yr 98 67 8<|[(89,.lit 1),(60,.lit 101),(117,.lit 7),(116,yv 24),(115,yv 23),(114,.lit 3)])<|yD 60 iE
abbrev Ll:List (Nat × BE):=yP [(127,1),(122,1)]<|yV [(87,yw 27),(74,yw 14),(69,yw 9)]<|yE 31 l7
abbrev ahx:List (Nat × IE):=yO [(131,4),(126,4),(121,4)]<|yU (yr 111 80 5<|yr 105 74 6<|yr 98 67 8<|[(60,.lit 9),(117,.add (.lit 2) (.var 28)),(116,yv 24),(115,yv 23),(114,.lit 3)])<|yD 60 iE
def oR9:Out :=
 .br (.var 58)
 (.fin {lo:=60,ae:=2,iv:=ahv,bv:=Qy,ct:=Ej,bk:=uQ})
 (.br (.not (.and (.ag (.var 54) (.cell 53 (.var 28) y0 3)) (.ag (.var 55) (.cell 53 (.var 28) y0 4))))
  (.ob (.inr .i64 (.add (.lit 2) (.var 28))) <|
   .ob (.inr .i64 (.add (.var 56) y1)) <|
   .fin {lo:=60,ae:=2,iv:=yO [(131,4),(126,1)]<|yU (yr 121 57 4<|[(60,.lit 10),(125,.add (.var 56) y1),(124,.cell 53 (.var 28) y0 4),(123,.cell 53 (.var 28) y0 3),(117,.add (.lit 2) (.var 28)),(116,yv 24),(115,yv 23),(114,.lit 5)])<|yD 60 iE,bv:=yP [(127,1)]<|yV [(122,yw 58)]<|yE 60 l7,ct:=Ej,bk:=uQ})
  (.ob (.inr .i64 (.add (.cell 53 (.var 28) y0 5) y1)) <|
   .fin {lo:=60,ae:=2,iv:=ahw,bv:=yP [(127,1)]<|yV [(122,.cell 53 (.var 28) y0 7)]<|yE 60 l7,ct:=Ej,bk:=uQ}))
theorem aj1:exec tab oH 8000 [] (bZ aL.f aL.nv ahu aL.gl aL.hp aL.args)=oR9:=by kernel_rfl
def adf:Kn:=[(.ag (.var 19) (.lit 6),true),(.ag (.var 0) (.lit 10),true),(.aY (.var 28) (.lit 0),false),(.ah (.lit 3) (.var 28),false),(.ah (.lit 0) (.var 28),true),(.aY (.var 28) (.lit 3),true)]
def aa0:Out :=
 .br (.not (.var 59))
 (.br (.ah (.var 22) (.var 28))
  (.fin {lo:=60,ae:=2,iv:=ahv,bv:=Qy,ct:=Ej,bk:=uQ})
  (.ob (.inr .i64 (.add (.lit 2) (.var 28))) <|
   .fin {lo:=60,ae:=2,iv:=yO [(131,4),(126,4),(121,4)]<|yU [(60,.lit 9),(117,.add (.lit 2) (.var 28)),(116,yv 24),(115,yv 23),(114,.lit 3)]<|yD 60 iE,bv:=Qy,ct:=Ej,bk:=uQ}))
 (.ob (.inr .i64 (.add (.cell 53 (.var 28) y0 5) y1)) <|
  .fin {lo:=60,ae:=2,iv:=ahw,bv:=yP [(127,1)]<|yV [(122,.cell 53 (.var 28) y0 7)]<|yE 60 l7,ct:=Ej,bk:=uQ})
theorem ahz:exec tab oH 8000 [] (bZ aL.f aL.nv adf aL.gl aL.hp aL.args)=aa0:=by kernel_rfl
def adg:Kn:=[(.ag (.var 19) (.lit 6),true),(.ag (.var 0) (.lit 11),true),(.aY (.var 28) (.lit 0),false),(.ah (.lit 3) (.var 28),false),(.ah (.lit 0) (.var 28),true),(.aY (.var 28) (.lit 3),true)]
def aa1:Out :=
 .br (.var 59)
 (.ob (.inr .i64 (.add (.var 28) y1)) <|
  .br (.ah (.var 22) (.add (.var 28) y1))
  (.fin {lo:=60,ae:=2,iv:=yO [(131,4),(126,4),(121,4)]<|yU [(89,.lit 1),(88,.add (.var 28) y1),(60,.lit 101),(117,.lit 7),(116,yv 24),(115,yv 23),(114,.lit 3)]<|yD 60 iE,bv:=Qy,ct:=Ej,bk:=uQ})
  (.ob (.inr .i64 (.add (.lit 2) (.add (.var 28) y1))) <|
   .fin {lo:=60,ae:=2,iv:=yO [(131,4),(126,4),(121,4)]<|yU [(88,.add (.var 28) y1),(60,.lit 9),(117,.add (.lit 2) (.add (.var 28) y1)),(116,yv 24),(115,yv 23),(114,.lit 3)]<|yD 60 iE,bv:=Qy,ct:=Ej,bk:=uQ}))
 ((λA:Out=>(.alt A A)) <|
  .call 0 {lo:=0,ae:=0,iv:=[(20,y0),(19,y0),(18,y0),(17,y0),(16,y0),(14,y0),(13,y0),(12,y0),(11,y0),(10,y0),(9,(.var 20)),(7,y0),(6,y0),(5,y0),(4,y0),(3,y0),(2,y0),(1,y0),(0,y0),(26,(.var 57)),(25,(.var 56)),(24,(.var 55)),(23,(.var 54))],bv:=[(21,(.lit false)),(15,(.lit false)),(8,(.lit false)),(28,(.var 59)),(27,(.var 58))],ct:=[(22,.ex [y2,y2,y2,y2,y2,y2,y2,y2,y2,y3,y2,y2,y2,y2,y3,y2,y2,y2,y2,y2,y2,y2,y2,y2,y2,y2,y3,.int .i64 (.var 20),y2,y2,y2,y2,y2,y3,y2,y2,y2,y2,y2,y2,y2,y2,y3,y2,y2,y2,y2,y2,y2,y2,y3,y2,y2,y2,y2,y2,y2,y2,y3,y2,y2,y2,y2,y3] 8 0 35)],bk:=[(0,{ak:=8})]} 60 <|
  .br (.var 101)
  (.fin {lo:=60,ae:=2,iv:=yU (yr 90 30 3<|yr 86 26 12<|yr 73 13 4<|yr 68 8 8<|[(60,.lit 12)])<|yD 31 iE,bv:=yV [(87,yw 27),(74,yw 14),(69,yw 9)]<|yE 31 l7,ct:=El,bk:=[(2,{ak:=8})]})
  (.br (.not (.and (.ag (.var 77) (.var 23)) (.and (.ag (.var 78) (.var 24)) (.and (.ag (.var 79) y0) (.and (.ag (.var 80) y0) (.not (.var 81)))))))
   (.fin {lo:=60,ae:=2,iv:=VE,bv:=Ll,ct:=El,bk:=[(2,{ak:=8})]})
   (.br (.ah (.var 22) (.var 28))
    (.fin {lo:=60,ae:=2,iv:=VE,bv:=Ll,ct:=El,bk:=[(2,{ak:=8})]})
    (.ob (.inr .i64 (.add (.lit 2) (.var 28))) <|
     .fin {lo:=60,ae:=2,iv:=ahx,bv:=Ll,ct:=El,bk:=[(2,{ak:=8})]}))))
theorem ahA:exec tab oH 8000 [] (bZ aL.f aL.nv adg aL.gl aL.hp aL.args)=aa1:=by kernel_rfl
def adh:Kn:=[(.ag (.var 19) (.lit 6),true),(.ag (.var 0) (.lit 12),true),(.aY (.var 28) (.lit 0),false),(.ah (.lit 3) (.var 28),false),(.ah (.lit 0) (.var 28),true),(.aY (.var 28) (.lit 3),true)]
def aa2:Out :=
 (λA:Out=>(.alt A A)) <|
 .call 0 {lo:=0,ae:=0,iv:=[(20,(.var 51)),(19,(.var 50)),(18,(.var 49)),(17,(.var 48)),(16,(.var 47)),(14,(.var 45)),(13,(.var 44)),(12,(.var 43)),(11,(.var 42)),(10,(.var 41)),(9,(.var 40)),(7,(.var 38)),(6,(.var 37)),(5,(.var 36)),(4,(.var 35)),(3,(.var 34)),(2,(.var 33)),(1,(.var 32)),(0,(.var 31)),(26,(.var 57)),(25,(.var 56)),(24,(.var 55)),(23,(.var 54))],bv:=[(21,(.var 52)),(15,(.var 46)),(8,(.var 39)),(28,(.var 59)),(27,(.var 58))],ct:=[(22,.up {r:=53,n1:=(.lit 3),s1:=8,lo:=35,ks:=[.int .i64,.int .i64,.int .i64,.int .i64,.int .i64,.int .i64,.int .i64,.bool]} 0 [] y0)],bk:=[(0,{ak:=1})]} 60 <|
 .br (.var 101)
 (.fin {lo:=60,ae:=2,iv:=yU (yr 90 30 3<|yr 86 26 12<|yr 73 13 4<|yr 68 8 9<|[])<|yD 31 iE,bv:=yV [(87,yw 27),(74,yw 14),(69,yw 9)]<|yE 31 l7,ct:=El,bk:=uQ})
 (.br (.not (.and (.ag (.var 77) (.var 23)) (.and (.ag (.var 78) (.var 24)) (.and (.ag (.var 79) y0) (.and (.ag (.var 80) y0) (.not (.var 81)))))))
  (.fin {lo:=60,ae:=2,iv:=VE,bv:=Ll,ct:=El,bk:=uQ})
  (.br (.ah (.var 22) (.var 28))
   (.fin {lo:=60,ae:=2,iv:=VE,bv:=Ll,ct:=El,bk:=uQ})
   (.ob (.inr .i64 (.add (.lit 2) (.var 28))) <|
    .fin {lo:=60,ae:=2,iv:=ahx,bv:=Ll,ct:=El,bk:=uQ})))
theorem ahB:exec tab oH 8000 [] (bZ aL.f aL.nv adh aL.gl aL.hp aL.args)=aa2:=by kernel_rfl
theorem tO.of {ρ:Env} (h:tO ρ.num):tO ρ:=⟨h.l0,h.l1,h.t0,h.t1,h.s0,h.s1,h.x0,h.x1,h.k0,h.k1,h.b0,h.b1,h.v0,h.v1⟩
theorem JK {q:Env} {u v:Nat}:aC q u=(aC q v).bN↔q.iv u=q.iv v/\q.iv (u+1)=q.iv (v+1)/\q.iv (u+2)=0/\q.iv (u+3)=0/\q.bv (u+4)=false:=by
 unfold aC Wd.bN
 simp only [Wd.mk.injEq]
theorem tO.tg {ρ:Env} (h:tO ρ) (l:Int) (a:0<=l/\l<3):-1000000000000<=ρ.ic 53 l.toNat 0 5/\ρ.ic 53 l.toNat 0 5<=1000000000000:=⟨h.s0 _ (by omega),h.s1 _ (by omega)⟩
def KC (q:Env) (J:Env->Jb) (K:Jb->Jb × Ca):Prop:=(jC q).next (az q 54)=if q.bv 101=true then ({J q with cl:=some (cZ q 60)},fe q 83) else K {J q with cl:=some (cZ q 60)}
def Lm (j:Jb):Jb × Ca:=if j.found≠j.node.bN then j.part 1 else j.link
theorem adi {j:Jb} (h:j.found≠j.node.bN):Lm j=j.part 1:=if_pos h
theorem adj {j:Jb} (h:j.found=j.node.bN):Lm j=j.link:=if_neg (λz=>z h)
structure nL (n:Int) (ρ:Env):Prop where
 c:tO ρ
 k:ρ.iv 19=6
 a:ρ.iv 0=n
 v:ρ.iv 28<3
theorem nL.of {n:Int} {ρ:Env} (h:nL n ρ.num):nL n ρ:=⟨h.c.of,h.k,h.a,h.v⟩
section
variable {ρ:Env}
theorem anu (a:nL 9 ρ.num):Sat gM jP [] ρ oR9:=by
 replace a:nL 9 ρ:=a.of
 obtain ⟨d,k6,s9,f⟩:=a
 have v0:=d.v0
 have tg:=d.tg (ρ.iv 28) ⟨v0,f⟩
 have g:(jC ρ).place (jC ρ).level=iq ρ 53 (ρ.iv 28).toNat:=Hw (v:=31) rfl ⟨v0,f⟩
 have e:=(BB (j:=jC ρ) (x:=az ρ 54) k6 (by show 9<=ρ.iv 0;omega) (by show ¬101<=ρ.iv 0;omega)).trans (aht s9 g)
 unfold oR9
 refine Sat.br (λb=>?_) (λb=>?_)
 all_goals simp only [Da] at b
 ·exact Sat.fin (bC (e.trans (if_pos b)) rfl rfl)
 ·replace e:=e.trans (if_neg (λz:ρ.bv 58=_=>by rw [b] at z;cases z))
  refine Sat.br (λc=>?_) (λc=>?_)
  all_goals simp only [Da] at c
  ·exact oS (Sat.ob (by have:=d.x0;have:=d.x1;simp only [Da];omega) (Sat.fin (bC (e.trans (if_pos (Yu.2 λz=>c.elim (λq=>q z.1) λq=>q z.2))) rfl rfl)))
  ·exact oS (Sat.fin (bC (e.trans (if_neg (λz=>Yu.1 z c))) rfl rfl))
theorem aj2 (a:nL 10 ρ.num):Sat gM jP [] ρ aa0:=by
 replace a:nL 10 ρ:=a.of
 obtain ⟨f,k6,s9,d⟩:=a
 have v0:=f.v0
 have tg:=f.tg (ρ.iv 28) ⟨v0,d⟩
 have g:(jC ρ).place (jC ρ).level=iq ρ 53 (ρ.iv 28).toNat:=Hw (v:=31) rfl ⟨v0,d⟩
 have e:=(BB (j:=jC ρ) (x:=az ρ 54) k6 (by show 9<=ρ.iv 0;omega) (by show ¬101<=ρ.iv 0;omega)).trans (aeL s9 g)
 unfold aa0
 refine Sat.br (λb=>?_) (λb=>?_)
 all_goals simp only [Da] at b
 ·replace e:=e.trans (if_pos b)
  refine Sat.br (λc=>?_) (λc=>?_)
  all_goals simp only [Da] at c
  ·exact Sat.fin (bC (e.trans (if_pos c)) rfl rfl)
  ·exact oS (Sat.fin (bC (e.trans (if_neg (show ¬ρ.iv 28>=ρ.iv 22 by omega))) rfl rfl))
 ·exact oS (Sat.fin (bC (e.trans (if_neg (λz:ρ.bv 59=_=>by rw [b] at z;cases z))) rfl rfl))
theorem aj3 (a:nL 11 ρ.num):Sat gM jP [] ρ aa1:=by
 replace a:nL 11 ρ:=a.of
 obtain ⟨k,k6,s9,i⟩:=a
 have v0:=k.v0
 have e:=(BB (j:=jC ρ) (x:=az ρ 54) k6 (by show 9<=ρ.iv 0;omega) (by show ¬101<=ρ.iv 0;omega)).trans (aeM s9)
 unfold aa1
 refine Sat.br (λb=>?_) (λb=>?_)
 all_goals simp only [Da] at b
 ·replace e:=e.trans (if_pos b)
  refine oS (Sat.br (λd=>?_) (λd=>?_))
  all_goals simp only [Da] at d
  ·exact Sat.fin (bC (e.trans (if_pos d)) rfl rfl)
  ·exact oS (Sat.fin (bC (e.trans (if_neg (show ¬ρ.iv 28+1>=ρ.iv 22 by omega))) rfl rfl))
 ·replace e:=e.trans (if_neg (λz:ρ.bv 59=_=>by rw [b] at z;cases z))
  refine a2 (Sat.dF (c:=jU) rfl ⟨⟨by show (0:Int)<=0;decide,by show (0:Int)<=2;decide⟩,by show -1000000000000<=(0:Int);decide,by show (0:Int)<=1000000000000;decide⟩ (λq=>(0<=q.iv 28/\q.iv 28<3)/\KC q (λq=>{jC q with at':=12}) Lm) (λm f=>⟨⟨v0,i⟩,e.trans (wk (K:=Lm) rfl f.1 f.2)⟩) λq f=>?_)
  obtain ⟨l,e⟩:=f
  refine Sat.br (λb=>?_) (λb=>?_)
  all_goals simp only [Da] at b
  ·exact Sat.fin (bC (e.trans (if_pos b)) rfl rfl)
  ·replace e:=e.trans (if_neg (λz:q.bv 101=_=>by rw [b] at z;cases z))
   refine Sat.br (λd=>?_) (λd=>?_)
   all_goals simp only [Da] at d
   ·exact Sat.fin (bC (e.trans (adi (λh=>have z:=JK.1 h;d.elim (λq=>q z.1) λq=>q.elim (λq=>q z.2.1) λq=>q.elim (λq=>q z.2.2.1) λq=>q.elim (λq=>q z.2.2.2.1) λq=>by rw [z.2.2.2.2] at q;cases q))) rfl rfl)
   ·replace e:=e.trans (adj (JK.2 d))
    refine Sat.br (λg=>?_) (λg=>?_)
    all_goals simp only [Da] at g
    ·exact Sat.fin (bC (e.trans (if_pos g)) rfl rfl)
    ·exact oS (Sat.fin (bC (e.trans (if_neg (show ¬q.iv 28>=q.iv 22 by omega))) rfl rfl))
theorem aj4 (a:nL 12 ρ.num):Sat gM jP [] ρ aa2:=by
 replace a:nL 12 ρ:=a.of
 obtain ⟨b,k6,s9,k⟩:=a
 have v0:=b.v0
 have e:=(BB (j:=jC ρ) (x:=az ρ 54) k6 (by show 9<=ρ.iv 0;omega) (by show ¬101<=ρ.iv 0;omega)).trans (aeN s9)
 unfold aa2
 refine a2 (Sat.dF (c:=jU) rfl ⟨⟨b.l0,b.l1⟩,b.t0,b.t1⟩ (λq=>(0<=q.iv 28/\q.iv 28<3)/\KC q (jC) Lm) (λm f=>⟨⟨v0,k⟩,e.trans (wk (K:=Lm) rfl f.1 f.2)⟩) λq f=>?_)
 obtain ⟨l,e⟩:=f
 refine Sat.br (λd=>?_) (λd=>?_)
 all_goals simp only [Da] at d
 ·exact Sat.fin (bC (e.trans (if_pos d)) rfl rfl)
 ·replace e:=e.trans (if_neg (λz:q.bv 101=_=>by rw [d] at z;cases z))
  refine Sat.br (λg=>?_) (λg=>?_)
  all_goals simp only [Da] at g
  ·exact Sat.fin (bC (e.trans (adi (λh=>have z:=JK.1 h;g.elim (λq=>q z.1) λq=>q.elim (λq=>q z.2.1) λq=>q.elim (λq=>q z.2.2.1) λq=>q.elim (λq=>q z.2.2.2.1) λq=>by rw [z.2.2.2.2] at q;cases q))) rfl rfl)
  ·replace e:=e.trans (adj (JK.2 g))
   refine Sat.br (λi=>?_) (λi=>?_)
   all_goals simp only [Da] at i
   ·exact Sat.fin (bC (e.trans (if_pos i)) rfl rfl)
   ·exact oS (Sat.fin (bC (e.trans (if_neg (show ¬q.iv 28>=q.iv 22 by omega))) rfl rfl))
end
theorem aj5:aK Tryz.prog aL (nL 9) gM :=
 bq bM (E:=oH) (cs:=jP) rfl lV aO rfl aj1 (by kernel_rfl) (λa h p b=>by
   replace h:nL 9 a:=h.of
   have d:=h.k
   have f:=h.a
   have e:=h.v
   have c:=h.c.v0
   simp only [ahu,List.mem_cons,List.not_mem_nil,or_false] at b
   rcases b with rfl | rfl | rfl | rfl | rfl | rfl
   · exact beq_iff_eq.2 (show a.iv 19=6 by omega)
   · exact beq_iff_eq.2 (show a.iv 0=9 by omega)
   · exact decide_eq_false (show ¬a.iv 28<(0:Int) by omega)
   · exact decide_eq_false (show ¬(3:Int)<=a.iv 28 by omega)
   · exact decide_eq_true (show (0:Int)<=a.iv 28 by omega)
   · exact decide_eq_true (show a.iv 28<(3:Int) by omega)) λa h=>anu h
theorem ahC:aK Tryz.prog aL (nL 10) gM :=
 bq bM (E:=oH) (cs:=jP) rfl lV aO rfl ahz (by kernel_rfl) (λa h p b=>by
   replace h:nL 10 a:=h.of
   have d:=h.k
   have f:=h.a
   have e:=h.v
   have c:=h.c.v0
   simp only [adf,List.mem_cons,List.not_mem_nil,or_false] at b
   rcases b with rfl | rfl | rfl | rfl | rfl | rfl
   · exact beq_iff_eq.2 (show a.iv 19=6 by omega)
   · exact beq_iff_eq.2 (show a.iv 0=10 by omega)
   · exact decide_eq_false (show ¬a.iv 28<(0:Int) by omega)
   · exact decide_eq_false (show ¬(3:Int)<=a.iv 28 by omega)
   · exact decide_eq_true (show (0:Int)<=a.iv 28 by omega)
   · exact decide_eq_true (show a.iv 28<(3:Int) by omega)) λa h=>aj2 h
theorem ahD:aK Tryz.prog aL (nL 11) gM :=
 bq bM (E:=oH) (cs:=jP) rfl lV aO rfl ahA (by kernel_rfl) (λa h p b=>by
   replace h:nL 11 a:=h.of
   have d:=h.k
   have f:=h.a
   have e:=h.v
   have c:=h.c.v0
   simp only [adg,List.mem_cons,List.not_mem_nil,or_false] at b
   rcases b with rfl | rfl | rfl | rfl | rfl | rfl
   · exact beq_iff_eq.2 (show a.iv 19=6 by omega)
   · exact beq_iff_eq.2 (show a.iv 0=11 by omega)
   · exact decide_eq_false (show ¬a.iv 28<(0:Int) by omega)
   · exact decide_eq_false (show ¬(3:Int)<=a.iv 28 by omega)
   · exact decide_eq_true (show (0:Int)<=a.iv 28 by omega)
   · exact decide_eq_true (show a.iv 28<(3:Int) by omega)) λa h=>aj3 h
theorem ahE:aK Tryz.prog aL (nL 12) gM :=
 bq bM (E:=oH) (cs:=jP) rfl lV aO rfl ahB (by kernel_rfl) (λa h p b=>by
   replace h:nL 12 a:=h.of
   have d:=h.k
   have f:=h.a
   have e:=h.v
   have c:=h.c.v0
   simp only [adh,List.mem_cons,List.not_mem_nil,or_false] at b
   rcases b with rfl | rfl | rfl | rfl | rfl | rfl
   · exact beq_iff_eq.2 (show a.iv 19=6 by omega)
   · exact beq_iff_eq.2 (show a.iv 0=12 by omega)
   · exact decide_eq_false (show ¬a.iv 28<(0:Int) by omega)
   · exact decide_eq_false (show ¬(3:Int)<=a.iv 28 by omega)
   · exact decide_eq_true (show (0:Int)<=a.iv 28 by omega)
   · exact decide_eq_true (show a.iv 28<(3:Int) by omega)) λa h=>aj4 h
def ahF:Kn:=[(.ag (.var 0) (.lit (-1)),false),(.ah (.lit 101) (.var 0),true)]
abbrev VF:List (Nat × CV):=[(113,.up {r:=53,n1:=(.lit 3),s1:=8,lo:=35,ks:=[.int .i64,.int .i64,.int .i64,.int .i64,.int .i64,.int .i64,.int .i64,.bool]} 0 [] y0)]
abbrev BC:List (Nat × SA):=[(2,{ak:=1})]
abbrev ahG:List (Nat × IE):=[(20,y0),(19,y0),(18,y0),(17,y0),(16,y0),(14,y0),(13,y0),(12,y0),(11,y0),(10,y0),(9,(.add (.var 20) y1)),(7,y0),(6,y0),(5,y0),(4,y0),(3,y0),(2,y0),(1,y0),(0,y0),(26,(.var 57)),(25,(.var 56)),(24,(.var 55)),(23,(.var 54))]
abbrev ahH:List (Nat × BE):=[(21,(.lit false)),(15,(.lit false)),(8,(.lit false)),(28,(.var 59)),(27,(.var 58))]
abbrev ahI:List (Nat × CV):=[(22,.ex [y2,y2,y2,y2,y2,y2,y2,y2,y2,y3,y2,y2,y2,y2,y3,y2,y2,y2,y2,y2,y2,y2,y2,y2,y2,y2,y3,.int .i64 (.add (.var 20) y1),y2,y2,y2,y2,y2,y3,y2,y2,y2,y2,y2,y2,y2,y2,y3,y2,y2,y2,y2,y2,y2,y2,y3,y2,y2,y2,y2,y2,y2,y2,y3,y2,y2,y2,y2,y3] 8 0 35)]
abbrev ahJ:List (Nat × IE):=yU (yr 90 30 3<|yr 86 26 12<|yr 73 13 4<|yr 68 8 8<|[(60,.lit 103)])<|yD 31 iE
abbrev VG:List (Nat × BE):=yV [(87,yw 27),(74,yw 14),(69,yw 9)]<|yE 31 l7
abbrev BD:List (Nat × CV):=[(113,.up {r:=82,n1:=(.lit 3),s1:=8,lo:=35,ks:=[.int .i64,.int .i64,.int .i64,.int .i64,.int .i64,.int .i64,.int .i64,.bool]} 0 [] y0)]
abbrev aa3:List (Nat × IE):=yO [(131,4),(126,4),(117,3)]<|yU (yr 111 80 5<|yr 105 74 6<|yr 98 67 8<|yr 121 26 4<|[(60,.lit 104),(114,.lit 10)])<|yD 60 iE
abbrev VH:List (Nat × BE):=yP [(127,1)]<|yV [(87,yw 27),(74,yw 14),(69,yw 9),(122,yw 27)]<|yE 31 l7
abbrev ahK:List (Nat × IE):=yO [(76,2),(73,4),(68,7),(129,2),(126,4),(121,7)]<|yU [(78,yv 30),(77,.lit 1),(61,.lit 12),(60,.lit (-1)),(131,yv 30),(130,.lit 1),(114,.lit 12)]<|yD 60 iE
abbrev aa4:List (Nat × BE):=yP [(74,1),(69,1),(127,1),(122,1)]<|yE 60 l7
abbrev ahL:List (Nat × IE):=[(20,(.var 51)),(19,(.var 50)),(18,(.var 49)),(17,(.var 48)),(16,(.var 47)),(14,(.var 45)),(13,(.var 44)),(12,(.var 43)),(11,(.var 42)),(10,(.var 41)),(9,(.var 40)),(7,(.var 38)),(6,(.var 37)),(5,(.var 36)),(4,(.var 35)),(3,(.var 34)),(2,(.var 33)),(1,(.var 32)),(0,(.var 31)),(26,(.var 57)),(25,(.var 56)),(24,(.var 55)),(23,(.var 54))]
abbrev ahM:List (Nat × BE):=[(21,(.var 52)),(15,(.var 46)),(8,(.var 39)),(28,(.var 59)),(27,(.var 58))]
abbrev ahN:List (Nat × CV):=[(22,.up {r:=53,n1:=(.lit 3),s1:=8,lo:=35,ks:=[.int .i64,.int .i64,.int .i64,.int .i64,.int .i64,.int .i64,.int .i64,.bool]} 0 [] y0)]
abbrev ahO:List (Nat × IE):=yU (yr 90 30 3<|yr 86 26 12<|yr 73 13 4<|yr 68 8 9<|[])<|yD 31 iE
def oC2:Out :=
 .br (.ag (.var 0) (.lit 101))
 (.br (.ag (.var 57) y0)
  (.ob (.inr .i64 (.add (.var 56) y1)) <|
   .ob (.inr .i64 (.add (.var 57) (.var 29))) <|
   .fin {lo:=60,ae:=2,iv:=yO [(131,4),(124,2)]<|yU (yr 121 57 4<|[(60,.lit 102),(126,.add (.var 57) (.var 29)),(125,.add (.var 56) y1),(117,.lit 7),(116,yv 24),(115,yv 23),(114,.lit 5)])<|yD 60 iE,bv:=yP [(127,1)]<|yV [(122,yw 58)]<|yE 60 l7,ct:=VF,bk:=BC})
  (.ob (.inr .i64 (.add (.var 20) y1)) <|
   (λA:Out=>(.alt A A)) <|
   .call 0 {lo:=0,ae:=0,iv:=ahG,bv:=ahH,ct:=ahI,bk:=[(0,{ak:=6})]} 60 <|
   .br (.var 101)
   (.fin {lo:=60,ae:=2,iv:=ahJ,bv:=VG,ct:=BD,bk:=[(2,{ak:=6})]})
   (.fin {lo:=60,ae:=2,iv:=aa3,bv:=VH,ct:=BD,bk:=[(2,{ak:=6})]})))
 (.br (.ag (.var 0) (.lit 102))
  (.br (.var 59)
   (.fin {lo:=60,ae:=2,iv:=ahK,bv:=aa4,ct:=VF,bk:=BC})
   (.ob (.inr .i64 (.add (.var 20) y1)) <|
    (λA:Out=>(.alt A A)) <|
    .call 0 {lo:=0,ae:=0,iv:=ahG,bv:=ahH,ct:=ahI,bk:=[(0,{ak:=6})]} 60 <|
    .br (.var 101)
    (.fin {lo:=60,ae:=2,iv:=ahJ,bv:=VG,ct:=BD,bk:=[(2,{ak:=6})]})
    (.fin {lo:=60,ae:=2,iv:=aa3,bv:=VH,ct:=BD,bk:=[(2,{ak:=6})]})))
  (.br (.ag (.var 0) (.lit 104))
   (.fin {lo:=60,ae:=2,iv:=ahK,bv:=aa4,ct:=VF,bk:=BC})
   ((λA:Out=>(.alt A A)) <|
    .call 0 {lo:=0,ae:=0,iv:=ahL,bv:=ahM,ct:=ahN,bk:=[(0,{ak:=1})]} 60 <|
    .br (.var 101)
    (.fin {lo:=60,ae:=2,iv:=ahO,bv:=VG,ct:=BD,bk:=BC})
    (.fin {lo:=60,ae:=2,iv:=aa3,bv:=VH,ct:=BD,bk:=BC}))))
theorem aj6:exec tab oH 8000 [] (bZ aL.f aL.nv ahF aL.gl aL.hp aL.args)=oC2:=by kernel_rfl
def ahQ:Kn:=[(.ag (.var 19) (.lit 6),true),(.ag (.var 0) (.lit 5),true),(.aY (.lit 0) (.var 22),true)]
def oI5:Out :=
 (λA:Out=>(.alt A A)) <|
 .call 0 {lo:=0,ae:=0,iv:=ahL,bv:=ahM,ct:=ahN,bk:=[(0,{ak:=1})]} 60 <|
 .br (.var 101)
 (.fin {lo:=60,ae:=2,iv:=ahO,bv:=VG,ct:=BD,bk:=BC})
 (.br (.not (.ag (.var 77) y0))
  (.fin {lo:=60,ae:=2,iv:=yO [(131,4),(126,4),(117,3)]<|yU (yr 111 80 5<|yr 105 74 6<|yr 98 67 8<|yr 121 26 4<|[(60,.lit 6),(114,.lit 9)])<|yD 60 iE,bv:=VH,ct:=BD,bk:=BC})
  (.fin {lo:=60,ae:=2,iv:=yO [(88,1),(131,4),(126,2),(121,4)]<|yU (yr 111 80 5<|yr 105 74 6<|yr 98 67 8<|[(60,.lit 7),(124,.cell 82 y0 y0 4),(123,.cell 82 y0 y0 3),(117,.lit 2),(116,yv 24),(115,yv 23),(114,.lit 4)])<|yD 60 iE,bv:=yP [(127,1),(122,1)]<|yV [(87,yw 27),(74,yw 14),(69,yw 9)]<|yE 31 l7,ct:=BD,bk:=BC}))
theorem aj7:exec tab oH 8000 [] (bZ aL.f aL.nv ahQ aL.gl aL.hp aL.args)=oI5:=by kernel_rfl
def ahS:Kn:=[(.ag (.var 19) (.lit 6),true),(.ag (.var 0) (.lit 6),true)]
def oI6:Out :=
 .fin {lo:=60,ae:=2,iv:=yO [(78,1),(76,2),(73,4),(68,7),(131,1),(129,2),(126,4),(121,7)]<|yU [(77,.lit 3),(61,.lit 12),(60,.lit (-1)),(130,.lit 3),(114,.lit 12)]<|yD 60 iE,bv:=aa4,ct:=VF,bk:=BC}
theorem aj8:exec tab oH 8000 [] (bZ aL.f aL.nv ahS aL.gl aL.hp aL.args)=oI6:=by kernel_rfl
def ahU:Kn:=[(.ag (.var 19) (.lit 6),true),(.ag (.var 0) (.lit 7),true),(.aY (.add (.var 28) (.lit 1)) (.lit 0),false),(.ah (.lit 3) (.add (.var 28) (.lit 1)),false),(.ah (.lit 0) (.add (.var 28) (.lit 1)),true),(.aY (.add (.var 28) (.lit 1)) (.lit 3),true),(.aY (.add (.var 28) (.lit 1)) (.var 22),true)]
abbrev VI:List (Nat × CV):=[(113,.up {r:=53,n1:=(.lit 3),s1:=8,lo:=35,ks:=[.int .i64,.int .i64,.int .i64,.int .i64,.int .i64,.int .i64,.int .i64,.bool]} 0 [] y0)]
abbrev aa5:List (Nat × CV):=[(113,.up {r:=82,n1:=(.lit 3),s1:=8,lo:=35,ks:=[.int .i64,.int .i64,.int .i64,.int .i64,.int .i64,.int .i64,.int .i64,.bool]} 0 [] y0)]
def oI7:Out :=
 .ob (.inr .i64 (.add (.var 28) y1)) <|
 .ob (.inr .i64 (.add (.lit 2) (.add (.var 28) y1))) <|
 .fin {lo:=60,ae:=2,iv:=yO [(131,4),(126,2),(121,4)]<|yU [(88,.add (.var 28) y1),(60,.lit 7),(124,.cell 53 (.add (.var 28) y1) y0 4),(123,.cell 53 (.add (.var 28) y1) y0 3),(117,.add (.lit 2) (.add (.var 28) y1)),(116,yv 24),(115,yv 23),(114,.lit 4)]<|yD 60 iE,bv:=yP [(127,1),(122,1)]<|yE 60 l7,ct:=VI,bk:=[(2,{ak:=1})]}
theorem aj9:exec tab oH 8000 [] (bZ aL.f aL.nv ahU aL.gl aL.hp aL.args)=oI7:=by kernel_rfl
def adk:Kn:=[(.ag (.var 19) (.lit 6),true),(.ag (.var 0) (.lit 7),true),(.aY (.add (.var 28) (.lit 1)) (.var 22),false)]
def aa6:Out :=
 .ob (.inr .i64 (.add (.var 28) y1)) <|
 .ob (.inr .i64 (.add (.cell 53 y0 y0 5) y1)) <|
 .fin {lo:=60,ae:=2,iv:=yO [(131,4),(126,1)]<|yU [(88,.add (.var 28) y1),(60,.lit 8),(125,.add (.cell 53 y0 y0 5) y1),(124,yv 24),(123,yv 23),(121,.cell 53 y0 y0 6),(120,.cell 53 y0 y0 5),(119,.cell 53 y0 y0 4),(118,.cell 53 y0 y0 3),(117,.cell 53 y0 y0 2),(116,.cell 53 y0 y0 1),(115,.cell 53 y0 y0 0),(114,.lit 5)]<|yD 60 iE,bv:=yP [(127,1)]<|yV [(122,.cell 53 y0 y0 7)]<|yE 60 l7,ct:=VI,bk:=[(2,{ak:=1})]}
theorem ahW:exec tab oH 8000 [] (bZ aL.f aL.nv adk aL.gl aL.hp aL.args)=aa6:=by kernel_rfl
def ahX:Kn:=[(.ag (.var 19) (.lit 6),true),(.ag (.var 0) (.lit 8),true),(.aY (.lit 0) (.var 22),true)]
def oI8:Out :=
 .br (.var 59)
 (.br (.ah (.var 22) y1)
  (.fin {lo:=60,ae:=2,iv:=yO [(131,4),(126,4),(121,4)]<|yU [(89,.lit 1),(88,.lit 1),(60,.lit 101),(117,.lit 7),(116,yv 24),(115,yv 23),(114,.lit 3)]<|yD 60 iE,bv:=yP [(127,1),(122,1)]<|yE 60 l7,ct:=VI,bk:=[(2,{ak:=1})]})
  (.fin {lo:=60,ae:=2,iv:=yO [(131,4),(126,4),(121,4)]<|yU [(88,.lit 1),(60,.lit 9),(117,.lit 3),(116,yv 24),(115,yv 23),(114,.lit 3)]<|yD 60 iE,bv:=yP [(127,1),(122,1)]<|yE 60 l7,ct:=VI,bk:=[(2,{ak:=1})]}))
 ((λA:Out=>(.alt A A)) <|
  .call 0 {lo:=0,ae:=0,iv:=[(20,y0),(19,y0),(18,y0),(17,y0),(16,y0),(14,y0),(13,y0),(12,y0),(11,y0),(10,y0),(9,(.var 20)),(7,y0),(6,y0),(5,y0),(4,y0),(3,y0),(2,y0),(1,y0),(0,y0),(26,(.var 57)),(25,(.var 56)),(24,(.var 55)),(23,(.var 54))],bv:=[(21,(.lit false)),(15,(.lit false)),(8,(.lit false)),(28,(.var 59)),(27,(.var 58))],ct:=[(22,.ex [y2,y2,y2,y2,y2,y2,y2,y2,y2,y3,y2,y2,y2,y2,y3,y2,y2,y2,y2,y2,y2,y2,y2,y2,y2,y2,y3,.int .i64 (.var 20),y2,y2,y2,y2,y2,y3,y2,y2,y2,y2,y2,y2,y2,y2,y3,y2,y2,y2,y2,y2,y2,y2,y3,y2,y2,y2,y2,y2,y2,y2,y3,y2,y2,y2,y2,y3] 8 0 35)],bk:=[(0,{ak:=6})]} 60 <|
  .br (.var 101)
  (.fin {lo:=60,ae:=2,iv:=yU (yr 90 30 3<|yr 86 26 12<|yr 73 13 4<|yr 68 8 8<|[(60,.lit 5)])<|yD 31 iE,bv:=yV [(87,yw 27),(74,yw 14),(69,yw 9)]<|yE 31 l7,ct:=aa5,bk:=[(2,{ak:=6})]})
  (.br (.not (.ag (.var 77) y0))
   (.fin {lo:=60,ae:=2,iv:=yO [(131,4),(126,4),(117,3)]<|yU (yr 111 80 5<|yr 105 74 6<|yr 98 67 8<|yr 121 26 4<|[(60,.lit 6),(114,.lit 9)])<|yD 60 iE,bv:=yP [(127,1)]<|yV [(87,yw 27),(74,yw 14),(69,yw 9),(122,yw 27)]<|yE 31 l7,ct:=aa5,bk:=[(2,{ak:=6})]})
   (.fin {lo:=60,ae:=2,iv:=yO [(88,1),(131,4),(126,2),(121,4)]<|yU (yr 111 80 5<|yr 105 74 6<|yr 98 67 8<|[(60,.lit 7),(124,.cell 82 y0 y0 4),(123,.cell 82 y0 y0 3),(117,.lit 2),(116,yv 24),(115,yv 23),(114,.lit 4)])<|yD 60 iE,bv:=yP [(127,1),(122,1)]<|yV [(87,yw 27),(74,yw 14),(69,yw 9)]<|yE 31 l7,ct:=aa5,bk:=[(2,{ak:=6})]})))
theorem aka:exec tab oH 8000 [] (bZ aL.f aL.nv ahX aL.gl aL.hp aL.args)=oI8:=by kernel_rfl
def ahZ:Kn:=[(.ag (.var 0) (.lit (-1)),false),(.ag (.var 19) (.lit 6),false),(.ag (.var 19) (.lit 7),true),(.ah (.lit 101) (.var 0),false),(.ag (.var 0) (.lit 0),false)]
abbrev aa7:List (Nat × IE):=[(20,(.var 51)),(19,(.var 50)),(18,(.var 49)),(17,(.var 48)),(16,(.var 47)),(14,(.var 45)),(13,(.var 44)),(12,(.var 43)),(11,(.var 42)),(10,(.var 41)),(9,(.var 40)),(7,(.var 38)),(6,(.var 37)),(5,(.var 36)),(4,(.var 35)),(3,(.var 34)),(2,(.var 33)),(1,(.var 32)),(0,(.var 31)),(26,(.var 57)),(25,(.var 56)),(24,(.var 55)),(23,(.var 54))]
abbrev aa8:List (Nat × BE):=[(21,(.var 52)),(15,(.var 46)),(8,(.var 39)),(28,(.var 59)),(27,(.var 58))]
abbrev aa9:List (Nat × CV):=[(22,.up {r:=53,n1:=(.lit 3),s1:=8,lo:=35,ks:=[.int .i64,.int .i64,.int .i64,.int .i64,.int .i64,.int .i64,.int .i64,.bool]} 0 [] y0)]
abbrev aba:List (Nat × IE):=yU (yr 90 30 3<|yr 86 26 12<|yr 73 13 4<|yr 68 8 9<|[])<|yD 31 iE
abbrev VJ:List (Nat × BE):=yV [(87,yw 27),(74,yw 14),(69,yw 9)]<|yE 31 l7
abbrev yQ:List (Nat × CV):=[(113,.up {r:=82,n1:=(.lit 3),s1:=8,lo:=35,ks:=[.int .i64,.int .i64,.int .i64,.int .i64,.int .i64,.int .i64,.int .i64,.bool]} 0 [] y0)]
abbrev nM:List (Nat × SA):=[(2,{ak:=1})]
abbrev ah0:List (Nat × IE):=yO [(78,1),(76,2),(73,4),(68,7),(131,1),(129,2),(126,4),(121,7)]<|yU (yr 90 30 3<|yr 86 80 4<|yr 82 22 4<|[(77,.lit 2),(61,.lit 12),(60,.lit (-1)),(130,.lit 2),(114,.lit 12)])<|yD 31 iE
abbrev ah1:List (Nat × BE):=yP [(74,1),(69,1),(127,1),(122,1)]<|yV [(87,yw 81)]<|yE 31 l7
abbrev ah2:List (Nat × BE):=yP [(127,1),(122,1)]<|yV [(87,yw 81),(74,yw 14),(69,yw 9)]<|yE 31 l7
abbrev Lp:List (Nat × BE):=yP [(127,1),(122,1)]<|yE 60 l7
abbrev xe:List (Nat × CV):=[(113,.up {r:=53,n1:=(.lit 3),s1:=8,lo:=35,ks:=[.int .i64,.int .i64,.int .i64,.int .i64,.int .i64,.int .i64,.int .i64,.bool]} 0 [] y0)]
abbrev ah3:List (Nat × IE):=yO [(131,4),(126,4),(121,4)]<|yU [(88,.sub (.var 28) y1),(60,.lit 4),(117,.add (.lit 2) (.sub (.var 28) y1)),(116,yv 24),(115,yv 23),(114,.lit 3)]<|yD 60 iE
abbrev ah4:List (Nat × IE):=yO [(131,4),(126,4),(121,4)]<|yU (yr 111 80 5<|yr 105 74 6<|yr 98 67 8<|[(89,.lit 2),(60,.lit 101),(117,.lit 7),(116,yv 24),(115,yv 23),(114,.lit 3)])<|yD 60 iE
abbrev ah5:List (Nat × BE):=yP [(127,1),(122,1)]<|yV [(87,yw 27),(74,yw 14),(69,yw 9)]<|yE 31 l7
def oC4:Out :=
 .br (.ag (.var 0) y1)
 ((λA:Out=>(.alt A A)) <|
  .call 0 {lo:=0,ae:=0,iv:=aa7,bv:=aa8,ct:=aa9,bk:=[(0,{ak:=1})]} 60 <|
  .br (.var 101)
  (.fin {lo:=60,ae:=2,iv:=aba,bv:=VJ,ct:=yQ,bk:=nM})
  (.br (.ag (.var 77) y0)
   (.fin {lo:=60,ae:=2,iv:=ah0,bv:=ah1,ct:=yQ,bk:=nM})
   (.fin {lo:=60,ae:=2,iv:=yO [(131,4),(126,4),(121,4)]<|yU (yr 111 80 5<|yr 105 74 6<|yr 98 67 8<|yr 86 80 4<|[(60,.lit 2),(117,.lit 6),(116,yv 78),(115,yv 77),(114,.lit 3)])<|yD 60 iE,bv:=ah2,ct:=yQ,bk:=nM})))
 (.br (.ag (.var 0) (.lit 2))
  (.br (.or (.aY (.var 57) y1) (.aY (.lit 3) (.var 57)))
   (.fin {lo:=60,ae:=2,iv:=yO [(88,1),(131,4),(126,4),(121,4)]<|yU [(60,.lit 3),(117,.lit 1),(116,yv 24),(115,yv 23),(114,.lit 3)]<|yD 60 iE,bv:=Lp,ct:=xe,bk:=nM})
   (.ob (.inr .i64 (.sub (.var 57) y1)) <|
    .fin {lo:=60,ae:=2,iv:=yO [(131,4),(126,4),(121,4)]<|yU [(88,.sub (.var 57) y1),(60,.lit 3),(117,.lit 1),(116,yv 24),(115,yv 23),(114,.lit 3)]<|yD 60 iE,bv:=Lp,ct:=xe,bk:=nM}))
  (.br (.ag (.var 0) (.lit 3))
   (.ob (.inr .i64 (.add (.lit 2) (.var 28))) <|
    .fin {lo:=60,ae:=2,iv:=yO [(131,4),(126,4),(121,4)]<|yU [(90,yv 57),(60,.lit 4),(117,.add (.lit 2) (.var 28)),(116,yv 24),(115,yv 23),(114,.lit 3)]<|yD 60 iE,bv:=Lp,ct:=xe,bk:=nM})
   (.br (.ag (.var 0) (.lit 4))
    (.br (.not (.var 58))
     (.ob (.inr .i64 (.add (.lit 2) (.var 28))) <|
      .ob (.inr .i64 (.add (.var 56) y1)) <|
      .fin {lo:=60,ae:=2,iv:=yO [(131,4)]<|yU (yr 121 57 4<|[(60,.lit 5),(126,yv 57),(125,.add (.var 56) y1),(124,yv 55),(123,yv 54),(117,.add (.lit 2) (.var 28)),(116,yv 24),(115,yv 23),(114,.lit 5)])<|yD 60 iE,bv:=yV [(127,.lit true),(122,yw 58)]<|yE 60 l7,ct:=xe,bk:=nM})
     (.br (.ag (.var 28) y0)
      (.fin {lo:=60,ae:=2,iv:=yO [(78,1),(76,2),(73,4),(68,7),(131,1),(129,2),(126,4),(121,7)]<|yU [(77,.lit 2),(61,.lit 12),(60,.lit (-1)),(130,.lit 2),(114,.lit 12)]<|yD 60 iE,bv:=yP [(74,1),(69,1),(127,1),(122,1)]<|yE 60 l7,ct:=xe,bk:=nM})
      (.ob (.inr .i64 (.sub (.var 28) y1)) <|
       .ob (.inr .i64 (.add (.lit 2) (.sub (.var 28) y1))) <|
       .fin {lo:=60,ae:=2,iv:=ah3,bv:=Lp,ct:=xe,bk:=nM})))
    (.br (.ag (.var 0) (.lit 5))
     (.br (.not (.var 59))
      (.ob (.inr .i64 (.add (.lit 2) (.var 28))) <|
       .fin {lo:=60,ae:=2,iv:=yO [(131,4),(126,4),(121,4)]<|yU [(60,.lit 4),(117,.add (.lit 2) (.var 28)),(116,yv 24),(115,yv 23),(114,.lit 3)]<|yD 60 iE,bv:=Lp,ct:=xe,bk:=nM})
      (.br (.aY y0 (.var 28))
       (.ob (.inr .i64 (.sub (.var 28) y1)) <|
        .ob (.inr .i64 (.add (.lit 2) (.sub (.var 28) y1))) <|
        .fin {lo:=60,ae:=2,iv:=ah3,bv:=Lp,ct:=xe,bk:=nM})
       (.ob (.inr .i64 (.add (.var 20) y1)) <|
        (λA:Out=>(.alt A A)) <|
        .call 0 {lo:=0,ae:=0,iv:=[(20,y0),(19,y0),(18,y0),(17,y0),(16,y0),(14,y0),(13,y0),(12,y0),(11,y0),(10,y0),(9,(.add (.var 20) y1)),(7,y0),(6,y0),(5,y0),(4,y0),(3,y0),(2,y0),(1,y0),(0,y0),(26,(.var 57)),(25,(.var 56)),(24,(.var 55)),(23,(.var 54))],bv:=[(21,(.lit false)),(15,(.lit false)),(8,(.lit false)),(28,(.var 59)),(27,(.var 58))],ct:=[(22,.ex [y2,y2,y2,y2,y2,y2,y2,y2,y2,y3,y2,y2,y2,y2,y3,y2,y2,y2,y2,y2,y2,y2,y2,y2,y2,y2,y3,.int .i64 (.add (.var 20) y1),y2,y2,y2,y2,y2,y3,y2,y2,y2,y2,y2,y2,y2,y2,y3,y2,y2,y2,y2,y2,y2,y2,y3,y2,y2,y2,y2,y2,y2,y2,y3,y2,y2,y2,y2,y3] 8 0 35)],bk:=[(0,{ak:=6})]} 60 <|
        .br (.var 101)
        (.fin {lo:=60,ae:=2,iv:=yU (yr 90 30 3<|yr 86 26 12<|yr 73 13 4<|yr 68 8 8<|[(60,.lit 6)])<|yD 31 iE,bv:=VJ,ct:=yQ,bk:=[(2,{ak:=6})]})
        (.fin {lo:=60,ae:=2,iv:=ah4,bv:=ah5,ct:=yQ,bk:=[(2,{ak:=6})]}))))
     (.br (.ag (.var 0) (.lit 6))
      ((λA:Out=>(.alt A A)) <|
       .call 0 {lo:=0,ae:=0,iv:=aa7,bv:=aa8,ct:=aa9,bk:=[(0,{ak:=1})]} 60 <|
       .br (.var 101)
       (.fin {lo:=60,ae:=2,iv:=aba,bv:=VJ,ct:=yQ,bk:=nM})
       (.fin {lo:=60,ae:=2,iv:=ah4,bv:=ah5,ct:=yQ,bk:=nM}))
      (.fin {lo:=60,ae:=2,iv:=yU (yr 131 18 4<|yr 126 13 4<|yr 121 8 8<|[])<|yD 60 iE,bv:=yV [(127,yw 14),(122,yw 9)]<|yE 60 l7,ct:=xe,bk:=nM}))))))
theorem akb:exec tab oH 8000 [] (bZ aL.f aL.nv ahZ aL.gl aL.hp aL.args)=oC4:=by kernel_rfl
def ah7:Kn:=[(.ag (.var 0) (.lit (-1)),false),(.ag (.var 19) (.lit 6),false),(.ag (.var 19) (.lit 7),false),(.ah (.lit 101) (.var 0),false),(.ag (.var 0) (.lit 0),false)]
def oC5:Out :=
 .br (.ag (.var 0) y1)
 ((λA:Out=>(.alt A A)) <|
  .call 0 {lo:=0,ae:=0,iv:=aa7,bv:=aa8,ct:=aa9,bk:=[(0,{ak:=1})]} 60 <|
  .br (.var 101)
  (.fin {lo:=60,ae:=2,iv:=aba,bv:=VJ,ct:=yQ,bk:=nM})
  (.br (.ag (.var 77) y0)
   (.fin {lo:=60,ae:=2,iv:=ah0,bv:=ah1,ct:=yQ,bk:=nM})
   (.fin {lo:=60,ae:=2,iv:=yO [(131,4),(126,4),(121,4)]<|yU (yr 111 80 5<|yr 105 74 6<|yr 98 67 8<|yr 86 80 4<|[(60,.lit 2),(117,.lit 1),(116,yv 78),(115,yv 77),(114,.lit 3)])<|yD 60 iE,bv:=ah2,ct:=yQ,bk:=nM})))
 (.br (.ag (.var 0) (.lit 2))
  (.fin {lo:=60,ae:=2,iv:=yO [(76,2),(73,4),(68,7),(129,2),(126,4),(121,7)]<|yU [(78,yv 57),(77,.lit 1),(61,.lit 12),(60,.lit (-1)),(131,yv 57),(130,.lit 1),(114,.lit 12)]<|yD 60 iE,bv:=yP [(74,1),(69,1),(127,1),(122,1)]<|yE 60 l7,ct:=xe,bk:=nM})
  (.fin {lo:=60,ae:=2,iv:=yU (yr 131 18 4<|yr 126 13 4<|yr 121 8 8<|[])<|yD 60 iE,bv:=yV [(127,yw 14),(122,yw 9)]<|yE 60 l7,ct:=xe,bk:=nM}))
theorem akc:exec tab oH 8000 [] (bZ aL.f aL.nv ah7 aL.gl aL.hp aL.args)=oC5:=by kernel_rfl
def Lr (j:Jb):Jb × Ca:=j.ask 104 {Ca.of 10 with ay:=j.node}
def VK (j:Jb):Jb × Ca:=if j.found.slot≠0 then j.ask 6 {Ca.of 9 with ay:=j.node} else Jb.tie {j with level:=0}
def ah9 (j:Jb):Jb × Ca:=if j.found.slot=0 then Jb.fin {j with node:=j.found} 2 0 else Jb.ask {j with node:=j.found} 2 (gH (wF j.found 6))
def aia (j:Jb):Jb × Ca:=if j.found.slot=0 then Jb.fin {j with node:=j.found} 2 0 else Jb.ask {j with node:=j.found} 2 (gH (wF j.found 1))
def VL (j:Jb):Jb × Ca:=j.part 2
section
variable {j:Jb} {x:Rp} {P:Pt}
theorem aib (h:101<=j.at'):j.next x=j.finish x:=by
 unfold Jb.next
 rw [iN,if_pos h]
theorem aic (h:j.at'=101):j.finish x=if x.word.num=0 then j.ask 102 (fM (j.field 7) x.word (uT x.word j.by')) else (j.gq 103 (j.op.key+1)).qb x:=by
 unfold Jb.finish
 rw [if_pos h]
theorem aid (h:j.at'=102):j.finish x=if x.ok=true then j.fin 1 j.val else (j.gq 103 (j.op.key+1)).qb x:=by
 unfold Jb.finish
 rw [iN,if_pos h]
theorem aie (h:j.at'=104):j.finish x=j.fin 1 j.val:=by
 unfold Jb.finish
 rw [iN,iN,if_pos h]
theorem anv (h:j.at'≠101/\j.at'≠102/\j.at'≠104):j.finish x=j.qb x:=by
 unfold Jb.finish
 rw [if_neg h.1,if_neg h.2.1,if_neg h.2.2]
theorem xg (h:j.op.kind=6) (a:¬9<=j.at') (b:j.at'≠-1):j.next x=j.insert x:=by
 unfold Jb.next
 rw [if_neg b,iN,if_neg (λq=>a q.2),if_pos h]
theorem akd (h:j.at'=0):j.insert x=j.ask 1 (Ca.of 8):=by unfold Jb.insert;rw [if_pos h]
theorem ake (h:j.at'=1):j.insert x=if x.ok=false then j.fin 4 0 else Jb.ask {j with node:=x.word} 2 (si (wF x.word 0) (Wd.ig j.op.key)):=by
 unfold Jb.insert
 rw [iN,if_pos h]
theorem akf (h:j.at'=2):j.insert x=j.ask 3 (si (j.field 1) (Wd.ig j.op.val)):=by
 unfold Jb.insert
 rw [iN,iN,if_pos h]
theorem akg (h:j.at'=3):j.insert x=j.ask 4 (si (j.field 6) (Wd.ig j.op.dz)):=by
 unfold Jb.insert
 rw [iN,iN,iN,if_pos h]
theorem akh (h:j.at'=6):j.insert x=j.fin 3 0:=by
 unfold Jb.insert
 rw [iN,iN,iN,iN,if_pos h]
theorem aki (h:j.at'=8):j.insert x=if x.ok=true then Jb.link {j with level:=1} else (j.gq 5 j.op.key).qa x:=by
 unfold Jb.insert
 rw [iN,iN,iN,iN,iN,if_pos h]
theorem akj (h:j.at'=4):j.insert x=(j.gq 5 j.op.key).qa x:=by
 unfold Jb.insert
 rw [iN,iN,iN,iN,iN,iN,if_pos h]
theorem akk (h:j.at'=5):j.insert x=j.qa x:=by
 unfold Jb.insert
 rw [iN,iN,iN,iN,iN,iN,iN,if_pos h]
theorem adm (h:j.at'=7):j.insert x=Jb.tie {j with level:=j.level+1}:=by
 unfold Jb.insert
 rw [iN,iN,iN,iN,iN,iN,iN,iN,if_pos h]
theorem Qz (h:j.level<j.op.dz) (a:j.place j.level=P):j.tie=j.ask 7 (si (j.field (2+j.level)) P.cur.bN):=by
 subst a
 unfold Jb.tie
 rw [if_pos h]
theorem aif (h:¬j.level<j.op.dz):j.tie=j.ask 8 (fM (j.place 0).a (j.place 0).cur (cB (j.place 0).cur j.node)):=by
 unfold Jb.tie
 rw [if_neg h]
theorem Yv (h:j.op.kind=7) (a:¬101<=j.at') (b:j.at'≠-1):j.next x=j.remove x:=by
 unfold Jb.next
 rw [if_neg b,if_neg a,if_neg (λq=>by omega),iN,if_pos h]
theorem akl (h:j.at'=0):j.remove x=(j.gq 1 j.op.key).uN x:=by unfold Jb.remove;rw [if_pos h]
theorem akm (h:j.at'=1):j.remove x=j.uN x:=by
 unfold Jb.remove
 rw [iN,if_pos h]
theorem akn (h:j.at'=2):j.remove x=Jb.ask {j with level:=(if x.word.num<1\/x.word.num > 3 then 1 else x.word.num)-1} 3 (gH (j.field 1)):=by
 unfold Jb.remove
 rw [iN,iN,if_pos h]
theorem ako (h:j.at'=3):j.remove x=Jb.look {j with val:=x.word.num}:=by
 unfold Jb.remove
 rw [iN,iN,iN,if_pos h]
theorem akp (h:j.at'=4):j.remove x=if x.word.mark=false then j.ask 5 (fM (j.field (2+j.level)) x.word (uS x.word)) else if j.level=0 then j.fin 2 0 else Jb.look {j with level:=j.level-1}:=by
 unfold Jb.remove
 rw [iN,iN,iN,iN,if_pos h]
theorem akq (h:j.at'=5):j.remove x=if x.ok=false then j.look else if j.level > 0 then Jb.look {j with level:=j.level-1} else (j.gq 6 (j.op.key+1)).uO x:=by
 unfold Jb.remove
 rw [iN,iN,iN,iN,iN,if_pos h]
theorem akr (h:j.at'=6):j.remove x=j.uO x:=by
 unfold Jb.remove
 rw [iN,iN,iN,iN,iN,iN,if_pos h]
theorem aks (h:j.at'≠0/\j.at'≠1/\j.at'≠2/\j.at'≠3/\j.at'≠4/\j.at'≠5/\j.at'≠6):j.remove x=(j,j.last):=by
 unfold Jb.remove
 rw [if_neg h.1,if_neg h.2.1,if_neg h.2.2.1,if_neg h.2.2.2.1,if_neg h.2.2.2.2.1,if_neg h.2.2.2.2.2.1,if_neg h.2.2.2.2.2.2]
theorem Yw (h:j.op.kind≠6/\j.op.kind≠7) (a:¬101<=j.at') (b:j.at'≠-1):j.next x=j.get x:=by
 unfold Jb.next
 rw [if_neg b,if_neg a,if_neg (λq=>h.1 q.1),if_neg h.1,if_neg h.2]
theorem akt (h:j.at'=0):j.get x=(j.gq 1 j.op.key).uP x:=by unfold Jb.get;rw [if_pos h]
theorem aku (h:j.at'=1):j.get x=j.uP x:=by
 unfold Jb.get
 rw [iN,if_pos h]
theorem akv (h:j.at'=2):j.get x=j.fin 1 x.word.num:=by
 unfold Jb.get
 rw [iN,iN,if_pos h]
theorem akw (h:j.at'≠0/\j.at'≠1/\j.at'≠2):j.get x=(j,j.last):=by
 unfold Jb.get
 rw [if_neg h.1,if_neg h.2.1,if_neg h.2.2]
end
end Go.Proofs.YthomdlajobnmnaaGreatDoor.Sk
