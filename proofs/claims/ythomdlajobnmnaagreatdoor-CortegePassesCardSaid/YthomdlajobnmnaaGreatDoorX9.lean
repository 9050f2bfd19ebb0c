/- part 9 of the proof -/
import Derived.Test.YthomdlajobnmnaaGreatDoorX8
set_option linter.unusedSimpArgs false
set_option linter.unusedVariables false
namespace Go.Proofs.YthomdlajobnmnaaGreatDoor
open Go.Rex
structure Op where
 kind:Int
 key:Int
 val:Int
 wh:Int
 deriving DecidableEq
structure Jb where
 at':Int
 last:Ca
 op:Op
 node:Wd
 top:Wd
 val:Int
def Jb.new (o:Op):Jb:=⟨0,Ca.zero,o,Wd.zero,Wd.zero,0⟩
def Jb.ask (j:Jb) (s:Int) (c:Ca):Jb × Ca:=({j with at':=s},c)
def Jb.fin (j:Jb) (code val:Int):Jb × Ca:=({j with at':=-1,last:={Ca.of 12 with code:=code,val:=val}},{Ca.of 12 with code:=code,val:=val})
def BA (w:Wd) (f:Int):Ca:={Ca.of 3 with slot:=w.slot,gen:=w.gen,field:=f}
def U0 (w:Wd) (f:Int) (x:Wd):Ca:={Ca.of 4 with slot:=w.slot,gen:=w.gen,field:=f,new:=x}
def MZ (o:Wd) (r:Wd):Ca:={Ca.of 5 with old:=o,new:=⟨r.slot,r.gen,o.tag+1,0,false⟩}
def Jb.push (j:Jb) (x:Rp):Jb × Ca :=
 if j.at'=0 then j.ask 1 (Ca.of 8)
 else if j.at'=1 then (if x.ok=false then j.fin 4 0 else {j with node:=x.word}.ask 2 (U0 x.word 1 (Wd.dM j.op.val)))
 else if j.at'=5 then (if x.ok=true then j.fin 1 0 else j.ask 3 (Ca.of 3))
 else if j.at'=2 then j.ask 3 (Ca.of 3)
 else if j.at'=3 then {j with top:=x.word}.ask 4 (U0 j.node 2 x.word.gI)
 else if j.at'=4 then j.ask 5 (MZ j.top j.node)
 else (j,j.last)
def Jb.pop (j:Jb) (x:Rp):Jb × Ca :=
 if j.at'=3 then (if x.ok=true then j.ask 4 (BA j.top 1) else j.ask 1 (Ca.of 6))
 else if j.at'=0 then j.ask 1 (Ca.of 6)
 else if j.at'=1 then
  (if x.word.slot=0 then {j with top:=x.word}.fin 2 0
   else if j.op.kind=3 then {j with top:=x.word}.ask 4 (BA x.word 1)
   else {j with top:=x.word}.ask 2 (BA x.word 2))
 else if j.at'=2 then j.ask 3 (MZ j.top x.word)
 else if j.at'=4 then (if j.op.kind=3 then {j with val:=x.word.num}.fin 1 x.word.num else {j with val:=x.word.num}.ask 5 {Ca.of 10 with old:=j.top})
 else if j.at'=5 then j.fin 1 j.val
 else (j,j.last)
def Jb.next (j:Jb) (x:Rp):Jb × Ca:=if j.op.kind=1 then j.push x else j.pop x
def Op.bT (o:Op):Prop:=if o.kind=1 then o.key=0∧o.wh=0∧0≤o.val∧o.val≤1073741824 else (o.kind=2∨o.kind=3)∧o.key=0∧o.val=0∧o.wh=0
instance (o:Op):Decidable o.bT:=by unfold Op.bT;exact inferInstance
structure Wk where
 r:RS
 ops:List Op
 j:Option Jb
 aV:Bool
 said:List (Int × Int)
def Wk.idle (w:Wk):Prop:=w.r.step=0∧w.j=none∧w.aV=false∧w.said.length≥w.ops.length
instance (w:Wk):Decidable (w.j=none):=by
 cases h:w.j with
 | none=>exact isTrue rfl
 | some _=>exact isFalse (fun h=>by cases h)
instance (w:Wk):Decidable w.idle:=by unfold Wk.idle;exact inferInstance
def Gz:List Op:=[⟨2,0,0,0⟩,⟨3,0,0,0⟩,⟨2,0,0,0⟩]
structure ahK (p:PS):Prop where
 ok:p.OK
 nb:p.nb=85
 bT:p.bT=true
 made:p.made=0
 root:p.bd 0=Wd.zero
 mE:p.bd 24=Wd.dM 1
theorem wm (h:Nat→Wd):∀(k n m:Nat),RS.first h n k=some m→n≤m∧m<n+k
 | 0,n,m,e=>by cases e
 | k+1,n,m,e=>by
  unfold RS.first at e
  by_cases hz:h n≠Wd.zero
  ·rw [if_pos hz] at e
   cases e
   omega
  ·rw [if_neg hz] at e
   have:=wm h k (n+1) m e
   omega
def mT (l:Lo):RT→Nat
 | .fin _=>1
 | .ik i=>(10-i).toNat
 | .lC=>2
 | .bW _=>if RT.dN l 0 1 then 2 else 5
 | .ib _ _=>if RT.dN l 0 1 then 1 else 4
 | .gz _ _=>3
 | _=>0
def StA (l:Lo) (t:RT):Prop:=(∃x,t=.idle x)∨(∃s,t=.fin (RT.jW l s))∨∃i:Nat,i<9∧t=.ik i
def StB (l:Lo) (t:RT):Prop:=(∃x,t=.idle x)∨t=.lC∨∃s,t=.fin (RT.jW l s)
def StC (l:Lo) (t:RT):Prop:=(∃b,t=.idle ⟨Wd.zero,b⟩)∨t=.bW (Ca.of 6)∨(l.bC∧t=.ib (Ca.of 6) Wd.zero)∨(RT.dN l 0 1∧∃f w,(25≤f∧f<85)∧t=.gz (Ca.of 6) (Ac.store 0 0 f w))
theorem iH {q:Prop} [Decidable q] {l:Lo} {a b:LR} (h1:a.1.freed=l.freed) (h2:b.1.freed=l.freed):(if q then a else b).1.freed=l.freed:=by
 by_cases h:q
 ·rw [if_pos h];exact h1
 ·rw [if_neg h];exact h2
theorem DK (l:Lo) (k:Int):(RT.leave l k).1.freed=l.freed:=by
 refine iH rfl (iH ?_ rfl)
 cases RS.first l.h k.toNat (9-k.toNat) <;> rfl
theorem GA (l:Lo):(RT.scan l).1.freed=l.freed:=iH rfl (iH rfl rfl)
theorem wo (l:Lo):(RT.bS l).1.freed=l.freed:=iH (GA l) rfl
theorem O8 (l:Lo) (c:Ca):(RT.begin l c).1.freed=l.freed :=
 iH (iH rfl rfl)<|iH (DK l 0)<|iH rfl<|iH rfl<|iH rfl<|iH rfl<|iH (iH rfl rfl)<|iH (iH rfl rfl)<|iH rfl<|iH (iH (wo _)<|iH rfl<|iH rfl rfl) (GA l)
theorem yT (l:Lo) (r:List Nt):(RT.dz l r).1.freed=l.freed:=by cases r <;> rfl
theorem RO (l:Lo) (t:RT) (x:Rp):l.freed≤(RT.aG l t x).1.freed∧(RT.aG l t x).1.freed≤l.freed+1:=by
 have e:∀{a:LR},a.1.freed=l.freed→l.freed≤a.1.freed∧a.1.freed≤l.freed+1:=fun h=>by omega
 cases t with
 | ik i=>exact e (DK l _)
 | bW c=>exact e (iH rfl (iH rfl rfl))
 | ib c w=>exact e (iH rfl (iH rfl rfl))
 | iT old b=>exact e (iH rfl (wo _))
 | iD _=>exact e (wo l)
 | fM ck seen=>exact e (iH rfl (iH (yT _ _) (iH rfl rfl)))
 | fG=>exact e (yT _ _)
 | iA d r =>
  have:=yT {l with notes:=l.notes.erase d,freed:=l.freed+1} r
  show l.freed≤(RT.dz _ _).1.freed∧(RT.dz _ _).1.freed≤l.freed+1
  rw [this]
  show l.freed≤l.freed+1∧l.freed+1≤l.freed+1
  omega
 | _=>exact e rfl
theorem iI {q:Prop} [Decidable q] {n:Nat} {a b:LR} (h1:a.1.notes.length≤n) (h2:b.1.notes.length≤n):(if q then a else b).1.notes.length≤n:=by
 by_cases h:q
 ·rw [if_pos h];exact h1
 ·rw [if_neg h];exact h2
theorem M3 {n:Nat} (l:Lo) (k:Int) (h:l.notes.length≤n):(RT.leave l k).1.notes.length≤n:=by
 refine iI h (iI ?_ h)
 cases RS.first l.h k.toNat (9-k.toNat) <;> exact h
theorem Qg {n:Nat} (l:Lo) (h:l.notes.length≤n):(RT.scan l).1.notes.length≤n:=iI h (iI h h)
theorem Ez {n:Nat} (l:Lo) (h:l.notes.length≤n):(RT.bS l).1.notes.length≤n:=iI (Qg l h) h
theorem IG {n:Nat} (l:Lo) (w:Wd) (b d:Int) (h:l.notes.length≤n):(RT.note l w b d).notes.length≤n+1:=by
 show (l.notes ++ [_]).length≤n+1
 rw [List.length_append]
 exact Nat.succ_le_succ h
theorem M4 {n:Nat} (l:Lo) (c:Ca) (h:l.notes.length≤n):(RT.begin l c).1.notes.length≤n+1:=by
 have h':l.notes.length≤n+1:=Nat.le_succ_of_le h
 exact iI (iI h' h')<|iI (M3 l 0 h')<|iI h'<|iI h'<|iI h'<|iI h'<|iI (iI h' h')<|iI (iI h' h')<|iI h'<|iI (iI (Ez _ (IG _ _ _ _ h))<|iI h'<|iI h' h') (Qg l h')
theorem II {n:Nat} (l:Lo) (r:List Nt) (h:l.notes.length≤n):(RT.dz l r).1.notes.length≤n:=by cases r <;> exact h
theorem abz {n:Nat} (l:Lo) (t:RT) (x:Rp) (h:l.notes.length≤n):(RT.aG l t x).1.notes.length≤n+1:=by
 have h':l.notes.length≤n+1:=Nat.le_succ_of_le h
 cases t with
 | ik i=>exact M3 l _ h'
 | bW c=>exact iI h' (iI h' h')
 | ib c w=>exact iI h' (iI h' h')
 | iT old b=>exact iI (IG _ _ _ _ h) (Ez _ (IG _ _ _ _ h))
 | iD _=>exact Ez l h'
 | fM ck seen=>exact iI h' (iI (II _ _ h') (iI h' h'))
 | fG=>exact II _ _ h'
 | iA d r=>exact II (n:=n+1) {l with notes:=l.notes.erase d,freed:=l.freed+1} r (Nat.le_trans (List.length_erase_le ..) h')
 | _=>exact h'
def RT.fF (l:Lo):RT→Prop
 | .ik i=>0≤i∧i≤8
 | .bW c=>0≤c.i∧c.i<9
 | .ib c _=>l.bC∧0≤c.i∧c.i<9
 | .gz c _=>0≤c.i∧c.i<9
 | .kT | .jo _ | .fG=>l.af=4
 | .fM _ seen=>l.af≠1∧seen.length≤60
 | .iA d r=>(d :: r).Sublist l.notes
 | _=>True
theorem RT.fF.fits {l:Lo} {t:RT} (h:t.fF l):t.fits l:=by
 cases t <;> first | trivial | exact h | exact h.1
theorem fZ {c:Prop} [Decidable c] {a b:LR} (h1:c→a.2.fF a.1) (h2:¬c→b.2.fF b.1):(if c then a else b).2.fF (if c then a else b).1:=by
 by_cases h:c
 ·rw [if_pos h];exact h1 h
 ·rw [if_neg h];exact h2 h
theorem GD (l:Lo) (k:Int) (h:0≤k∧k≤9):(RT.leave l k).2.fF (RT.leave l k).1:=by
 refine fZ (fun _=>trivial) fun _=>fZ (fun _=>?_) fun _=>trivial
 cases hf:RS.first l.h k.toNat (9-k.toNat) with
 | none=>trivial
 | some n =>
  have:=wm l.h _ _ _ hf
  show (0:Int)≤n∧(n:Int)≤8
  omega
theorem J2 (l:Lo):(RT.scan l).2.fF (RT.scan l).1 :=
 fZ (fun _=>trivial) fun h1=>fZ (fun h=>h) fun _=>⟨h1,Nat.zero_le _⟩
theorem yU (l:Lo):(RT.bS l).2.fF (RT.bS l).1:=fZ (fun _=>J2 l) fun _=>trivial
theorem GG {l:Lo} {c:Ca} (hc:c.OK):(RT.begin l c).2.fF (RT.begin l c).1 :=
 fZ (fun _=>fZ (fun _=>trivial) fun _=>trivial) fun _=>fZ (fun _=>GD l 0 (by decide)) fun _=>fZ (fun _=>trivial) fun _=>fZ (fun _=>trivial) fun _=>fZ (fun _=>trivial) fun _=>fZ (fun _=>⟨hc.2.2.1,hc.2.2.2.1⟩) fun _=>fZ (fun _=>fZ (fun _=>trivial) fun _=>trivial) fun _ =>
  fZ (fun _=>fZ (fun _=>trivial) fun _=>trivial) fun _=>fZ (fun _=>trivial) fun _=>fZ (fun _=>fZ (fun _=>yU _) fun _=>fZ (fun _=>trivial) fun _=>fZ (fun _=>trivial) fun _=>trivial) fun _=>J2 l
theorem BB (l:Lo) (r:List Nt) (h:r.Sublist l.notes):(RT.dz l r).2.fF (RT.dz l r).1:=by
 cases r with
 | nil=>trivial
 | cons d r=>exact h
theorem U3 {l:Lo} {t:RT} (ho:l.OK) (h:t.fF l) (x:Rp):(RT.aG l t x).2.fF (RT.aG l t x).1:=by
 cases t with
 | ik i=>exact GD l _ (by have h:0≤i∧i≤8:=h;omega)
 | bW c=>exact fZ (fun hd=>⟨hd,h⟩) fun _=>fZ (fun _=>h) fun _=>trivial
 | ib c w=>exact fZ (fun _=>trivial) fun _=>fZ (fun _=>h.2) fun _=>h.2
 | gz c a=>exact h
 | iT old b=>exact fZ (fun _=>trivial) fun _=>yU _
 | iD c=>exact yU _
 | kT =>
  have h4:l.af=4:=h
  exact ⟨fun e=>by
    have e:l.af=1:=e
    omega,Nat.zero_le _⟩
 | fM ck seen =>
  refine fZ (fun hl=>⟨h.1,?_⟩) fun _=>fZ (fun _=>BB _ _ List.filter_sublist) fun h4=>?_
  ·have ht:=ho.threads
   have:l.all≤54:=by
    unfold Lo.all
    split <;> omega
   rw [List.length_append,List.length_singleton]
   omega
  ·have h4':l.af=4:=by omega
   exact fZ (fun _=>h4') fun _=>h4'
 | jo c=>exact h
 | fG=>exact BB _ _ List.filter_sublist
 | iA d r =>
  refine BB {l with notes:=l.notes.erase d,freed:=l.freed+1} r ?_
  have:=List.Sublist.erase d (show (d :: r).Sublist l.notes from h)
  rwa [List.erase_cons_head] at this
 | _=>trivial
theorem RT.abA (l:Lo) (t:RT) (x:Rp):Sm l (RT.aG l t x).1:=by
 cases t with
 | ik i=>exact RT.MU l _
 | bW c=>exact fU (Sm.refl l) (fU ⟨rfl,rfl,rfl,rfl⟩ (Sm.refl l))
 | ib c w=>exact fU (Sm.refl l) (fU ⟨rfl,rfl,rfl,rfl⟩ ⟨rfl,rfl,rfl,rfl⟩)
 | iT old b=>exact fU ⟨rfl,rfl,rfl,rfl⟩ (RT.Qc ..)
 | iD c=>exact RT.MV l
 | fM ck seen=>exact fU (Sm.refl l) (fU (RT.IB l _) (fU (Sm.refl l) (Sm.refl l)))
 | fG=>exact RT.IB l _
 | iA d r =>
  have h:=RT.IB {l with notes:=l.notes.erase d,freed:=l.freed+1} r
  exact ⟨h.af,h.me,h.threads,h.most⟩
 | lC=>exact ⟨rfl,rfl,rfl,rfl⟩
 | _=>exact Sm.refl l
structure uh (k:Int) (l:Lo) (t:RT) (p:PS):Prop where
 ok:l.OK
 fF:t.fF l
 DL:p.OK
 lw:l.wb k
 tw:t.wb k
 pw:p.wb k
 fr:0≤l.freed∧l.freed≤k
 nl:(l.notes.length:Int)≤k
 st:p.steps≤k
 k0:0≤k
theorem RT.wb.mono {k k':Int} {t:RT} (h:t.wb k) (hk:k≤k'):t.wb k':=by
 revert h
 cases t <;> intro h <;> first | exact trivial | exact Wb.mono h (by omega)
theorem uh.mono {k k':Int} {l:Lo} {t:RT} {p:PS} (h:uh k l t p) (hk:k≤k'):uh k' l t p :=
 ⟨h.ok,h.fF,h.DL,h.lw.mono hk,h.tw.mono hk,h.pw.mono hk,by have:=h.fr;omega,by have:=h.nl;omega,by have:=h.st;omega,by have:=h.k0;omega⟩
theorem U4 {p p':PS} {a:Ac} {x:Rp} (h:p.act a=(p',some x)):p'.steps=p.steps+1:=by
 unfold PS.act at h
 split at h
 ·split at h
  ·simp only [Prod.mk.injEq] at h
   rw [←h.1]
   unfold PS.makes
   split
   ·unfold PS.alloc
    split <;> rfl
   split
   ·rfl
   split
   ·rfl
   split
   ·unfold PS.put;split <;> rfl
   split
   ·unfold PS.put;split <;> rfl
   ·rfl
  ·simp only [Prod.mk.injEq] at h
   rw [←h.1]
 ·simp at h
theorem uh.aG {k:Int} {l:Lo} {t:RT} {p p':PS} {x:Rp} (h:uh k l t p) (hx:p.act (t.acc l)=(p',some x)):uh (k+1) (RT.aG l t x).1 (RT.aG l t x).2 p'∧Wb (k+1) x.word:=by
 have ha:=h.pw.act h.k0 h.DL h.st (adn h.k0 h.tw h.lw)
 have hok:=h.DL.act (t.acc l)
 rw [hx] at ha hok
 have hw:=aby h.k0 h.lw h.tw (ha.2 x rfl)
 have hs:=U4 hx
 have hf:=RO l t x
 have hn:((RT.aG l t x).1.notes.length:Int)≤k+1:=by
  have:=abz (n:=l.notes.length) l t x (Nat.le_refl _)
  have:=h.nl
  omega
 exact ⟨⟨(RT.abA l t x).ok h.ok,U3 h.ok h.fF x,hok,hw.l,hw.t,ha.1,by have:=h.fr;omega,hn,by have:=h.st;omega,by have:=h.k0;omega⟩,ha.2 x rfl⟩
theorem uh.begin {k:Int} {l:Lo} {y:Rp} {p:PS} {c:Ca} (h:uh k l (.idle y) p) (hc:c.OK) (hn:Wb (k+1) c.new) (ho:Wb k c.old):uh (k+1) (RT.begin l c).1 (RT.begin l c).2 p:=by
 have hw:=X3 h.k0 h.lw hn ho
 have hf:=O8 l c
 have hnl:((RT.begin l c).1.notes.length:Int)≤k+1:=by
  have:=M4 (n:=l.notes.length) l c (Nat.le_refl _)
  have:=h.nl
  omega
 exact ⟨RT.MW h.ok,GG hc,h.DL,hw.l.mono (by omega),hw.t.mono (by omega),h.pw.mono (by omega),by have:=h.fr;omega,hnl,by have:=h.st;omega,by have:=h.k0;omega⟩
def CR (Post:Lo→Rp→PS→Prop):Nat→Lo→RT→PS→Prop
 | 0,l,t,p=>∃x,t=.idle x∧Post l x p
 | d+1,l,t,p=>(∃x,t=.idle x∧Post l x p)∨(t.dB≠0∧∃p' x,p.act (t.acc l)=(p',some x)∧CR Post d (RT.aG l t x).1 (RT.aG l t x).2 p')
section
variable {Post Post':Lo→Rp→PS→Prop} {d:Nat} {l:Lo} {t:RT} {p p':PS} {x:Rp}
theorem CR.idle (h:Post l x p):CR Post d l (.idle x) p:=by
 cases d with
 | zero=>exact ⟨x,rfl,h⟩
 | succ d=>exact .inl ⟨x,rfl,h⟩
end
structure Ap (p p':PS):Prop where
 nb:p'.nb=p.nb
 ns:p'.ns=p.ns
 nf:p'.nf=p.nf
 made:p'.made=p.made
 bT:p'.bT=p.bT
 gen:p'.gen=p.gen
 used:p'.used=p.used
 cell:p'.cell=p.cell
 fr:p'.fr=p.fr
 bd:∀i,i<24→p'.bd i=p.bd i
 mE:1≤(p.bd 24).num→1≤(p'.bd 24).num
theorem Ap.steps (p:PS) (k:Int):Ap p {p with steps:=k}:=⟨rfl,rfl,rfl,rfl,rfl,rfl,rfl,rfl,rfl,fun _ _=>rfl,id⟩
section
variable {p:PS} {l:Lo}
theorem wu (hn:p.nb=85) {f:Int} (h:0≤f∧f<85):p.has 0 0 f:=by
 unfold PS.has
 rw [if_pos rfl,hn]
 exact ⟨rfl,h⟩
theorem ado (hn:p.nb=85) {f:Int} (hf:25≤f∧f<85) (w:Wd):∃p',p.act (Ac.store 0 0 f w)=(p',some ⟨Wd.zero,true⟩)∧Ap p p'∧p'.bd 24=p.bd 24:=by
 refine ⟨_,rz (wu hn (by omega)) (.inl rfl),?_⟩
 unfold PS.put
 rw [if_pos rfl]
 have hb:∀i:Nat,i≤24→(if i=f.toNat then w else p.bd i)=p.bd i:=fun i hi=>if_neg (by omega)
 refine ⟨⟨rfl,rfl,rfl,rfl,rfl,rfl,rfl,rfl,rfl,fun i hi=>hb i (by omega),fun h=>?_⟩,hb 24 (by omega)⟩
 show 1≤(if 24=f.toNat then w else p.bd 24).num
 rw [hb 24 (by omega)]
 exact h
theorem sV (hn:p.nb=85) {f:Int} (hf:0≤f∧f<85):p.act (Ac.load 0 0 f)=({p with steps:=p.steps+1},some ⟨p.bd f.toNat,true⟩) :=
 qE (wu hn hf) (.inl rfl)
theorem adp (hn:p.nb=85):p.act Ac.era=({p with steps:=p.steps+1},some ⟨p.bd 24,true⟩):=sV hn (by decide)
theorem U5 (hn:p.nb=85) {c:Wd} (hc:0≤c.num):∃p' x,p.act (Ac.eB c)=(p',some x)∧Ap p p':=by
 have h:=ug (p:=p) (s:=0) (g:=0) (f:=24) (o:=c) (w:=⟨0,0,c.tag+1,c.num+1,false⟩) (wu hn (by decide)) (.inl rfl)
 unfold Ac.eB
 rw [h]
 by_cases hs:gF (p.at 0 24) c
 ·rw [if_pos hs]
  refine ⟨_,_,rfl,?_⟩
  unfold PS.put
  rw [if_pos rfl]
  refine ⟨rfl,rfl,rfl,rfl,rfl,rfl,rfl,rfl,rfl,fun i hi=>if_neg (by show ¬i=24;omega),fun _=>?_⟩
  show 1≤(if 24=(24:Int).toNat then (⟨0,0,c.tag+1,c.num+1,false⟩:Wd) else p.bd 24).num
  rw [if_pos (show 24=(24:Int).toNat from rfl)]
  show 1≤c.num+1
  omega
 ·rw [if_neg hs]
  exact ⟨_,_,rfl,Ap.steps p _⟩
end
section
variable {J:PS→List Nt→Prop} {p:PS} {l:Lo}
theorem abB (ho:l.OK) {k:Nat} (h:(k:Int)<l.all):0≤l.base+k∧l.base+k<85:=by
 have:=ho.threads
 unfold Lo.all at h
 unfold Lo.base
 by_cases hk:l.bL
 ·rw [if_pos hk] at h ⊢;omega
 ·rw [if_neg hk] at h ⊢;omega
end
end Go.Proofs.YthomdlajobnmnaaGreatDoor
namespace Go.Proofs.YthomdlajobnmnaaGreatDoor.Cq
open Go.Rex
section
variable {p:PS} {l:Lo}
theorem Z5 (l:Lo) (i:Int) (w:Wd):(l.hold i w).h i.toNat=w:=by
 show (if i.toNat=i.toNat then w else l.h i.toNat)=w
 exact if_pos rfl
end
end Go.Proofs.YthomdlajobnmnaaGreatDoor.Cq
namespace Go.Proofs.YthomdlajobnmnaaGreatDoor
open Go.Rex
structure Vk where
 l:Lo
 t:RT
 ops:List Op
 j:Option Jb
 aV:Bool
 said:List (Int × Int)
structure VW (v:Vk) (w:Wk):Prop where
 rep:iG v.l v.t w.r
 ops:w.ops=v.ops
 j:w.j=v.j
 aV:w.aV=v.aV
 said:w.said=v.said
def Vk.with (v:Vk) (q:LR):Vk:={v with l:=q.1,t:=q.2}
def Vk.op (v:Vk):Op:=v.ops.getD v.said.length ⟨0,0,0,0⟩
def Vk.bZ (v:Vk) (x:Rp):Vk :=
 match v.j with
 | none=>if v.aV=true then ({v with aV:=false}:Vk).with (RT.begin v.l (Ca.of 2)) else ({v with j:=some (Jb.new v.op),aV:=true}:Vk).with (RT.begin v.l (Ca.of 1))
 | some j=>if (j.next x).2.kind=12 then {v with said:=v.said ++ [((j.next x).2.code,(j.next x).2.val)],j:=none} else ({v with j:=some (j.next x).1}:Vk).with (RT.begin v.l (j.next x).2)
def Vk.done (v:Vk):Prop:=v.t.dB=0∧v.j=none∧v.aV=false∧v.said.length≥v.ops.length
def Vk.may (v:Vk) (x:Rp):Prop :=
 match v.j with
 | none=>v.aV=true∨(v.aV=false∧v.said.length<v.ops.length∧v.op.bT)
 | some j=>((j.next x).2.kind=12→v.said.length<v.ops.length)∧((j.next x).2.kind≠12→(j.next x).2.OK)
def Fin (Q:Vk→PS→Prop):Nat→Nat→Vk→PS→Prop
 | _,0,v,p=>v.done∧Q v p
 | c,n+1,v,p=>(v.done∧Q v p)∨(∃x,v.t=.idle x∧v.may x∧∃c',c=c'+1∧Fin Q c' n (v.bZ x) p)∨(v.t.dB≠0∧∃p' x,p.act (v.t.acc v.l)=(p',some x)∧Fin Q 150 n (v.with (RT.aG v.l v.t x)) p')
section
variable {Q:Vk→PS→Prop}
theorem Fin.bZ {c n:Nat} {v:Vk} {p:PS} {x:Rp} (ht:v.t=.idle x) (hm:v.may x) (h:Fin Q c n (v.bZ x) p):Fin Q (c+1) (n+1) v p:=.inr (.inl ⟨x,ht,hm,c,rfl,h⟩)
end
structure AV (k:Int) (v:Vk) (p:PS):Prop where
 gJ:uh k v.l v.t p
 ui:∀j,v.j=some j→(Wb k j.node∧Wb k j.top∧j.last.new=Wd.zero∧j.last.old=Wd.zero)∧0≤j.op.val∧j.op.val≤3000
 ops:v.ops.length≤100∧∀o∈v.ops,0≤o.val∧o.val≤3000
theorem RP {k:Int} {j:Jb} {x:Rp} (h0:0≤k) (hn:Wb k j.node) (ht:Wb k j.top) (hl:j.last.new=Wd.zero∧j.last.old=Wd.zero) (hv:0≤j.op.val∧j.op.val≤3000) (hx:Wb k x.word) :
  ((Wb k (j.next x).1.node∧Wb k (j.next x).1.top∧(j.next x).1.last.new=Wd.zero∧(j.next x).1.last.old=Wd.zero)∧(j.next x).1.op=j.op)∧Wb (k+1) (j.next x).2.new∧Wb k (j.next x).2.old:=by
 have hz:Wb k Wd.zero:=Wb.zero h0
 have hz1:Wb (k+1) Wd.zero:=Wb.zero (by omega)
 have hval:Wb (k+1) (Wd.dM j.op.val):=Wb.num (by omega) (by omega)
 have hsw:∀{o r:Wd},Wb k o→Wb k r→Wb (k+1) (MZ o r).new:=fun {o r} a b=>by
  obtain ⟨a1,a2,a3,a4⟩:=a
  obtain ⟨b1,b2,b3,b4⟩:=b
  refine ⟨b1,?_,?_,?_⟩
  ·show -(k+1)≤r.gen∧r.gen≤k+1
   omega
  ·show -(2000 * (k+1)+3000)≤o.tag+1∧o.tag+1≤2000 * (k+1)+3000
   omega
  ·show -(2000 * (k+1)+3000)≤0∧0≤2000 * (k+1)+3000
   omega
 unfold Jb.next
 split
 ·unfold Jb.push
  split
  ·exact ⟨⟨⟨hn,ht,by first | exact hl | exact ⟨rfl,rfl⟩⟩,rfl⟩,hz1,hz⟩
  split
  ·split
   ·exact ⟨⟨⟨hn,ht,by first | exact hl | exact ⟨rfl,rfl⟩⟩,rfl⟩,hz1,hz⟩
   ·exact ⟨⟨⟨hx,ht,by first | exact hl | exact ⟨rfl,rfl⟩⟩,rfl⟩,hval,hz⟩
  split
  ·split
   ·exact ⟨⟨⟨hn,ht,by first | exact hl | exact ⟨rfl,rfl⟩⟩,rfl⟩,hz1,hz⟩
   ·exact ⟨⟨⟨hn,ht,by first | exact hl | exact ⟨rfl,rfl⟩⟩,rfl⟩,hz1,hz⟩
  split
  ·exact ⟨⟨⟨hn,ht,by first | exact hl | exact ⟨rfl,rfl⟩⟩,rfl⟩,hz1,hz⟩
  split
  ·exact ⟨⟨⟨hn,hx,by first | exact hl | exact ⟨rfl,rfl⟩⟩,rfl⟩,(hx.ref h0).mono (by omega),hz⟩
  split
  ·exact ⟨⟨⟨hn,ht,by first | exact hl | exact ⟨rfl,rfl⟩⟩,rfl⟩,hsw ht hn,ht⟩
  ·exact ⟨⟨⟨hn,ht,hl⟩,rfl⟩,by rw [hl.1];exact hz1,by rw [hl.2];exact hz⟩
 ·unfold Jb.pop
  split
  ·split
   ·exact ⟨⟨⟨hn,ht,by first | exact hl | exact ⟨rfl,rfl⟩⟩,rfl⟩,hz1,hz⟩
   ·exact ⟨⟨⟨hn,ht,by first | exact hl | exact ⟨rfl,rfl⟩⟩,rfl⟩,hz1,hz⟩
  split
  ·exact ⟨⟨⟨hn,ht,by first | exact hl | exact ⟨rfl,rfl⟩⟩,rfl⟩,hz1,hz⟩
  split
  ·split
   ·exact ⟨⟨⟨hn,hx,by first | exact hl | exact ⟨rfl,rfl⟩⟩,rfl⟩,hz1,hz⟩
   split
   ·exact ⟨⟨⟨hn,hx,by first | exact hl | exact ⟨rfl,rfl⟩⟩,rfl⟩,hz1,hz⟩
   ·exact ⟨⟨⟨hn,hx,by first | exact hl | exact ⟨rfl,rfl⟩⟩,rfl⟩,hz1,hz⟩
  split
  ·exact ⟨⟨⟨hn,ht,by first | exact hl | exact ⟨rfl,rfl⟩⟩,rfl⟩,hsw ht hx,ht⟩
  split
  ·split
   ·exact ⟨⟨⟨hn,ht,by first | exact hl | exact ⟨rfl,rfl⟩⟩,rfl⟩,hz1,hz⟩
   ·exact ⟨⟨⟨hn,ht,by first | exact hl | exact ⟨rfl,rfl⟩⟩,rfl⟩,hz1,ht⟩
  split
  ·exact ⟨⟨⟨hn,ht,by first | exact hl | exact ⟨rfl,rfl⟩⟩,rfl⟩,hz1,hz⟩
  ·exact ⟨⟨⟨hn,ht,hl⟩,rfl⟩,by rw [hl.1];exact hz1,by rw [hl.2];exact hz⟩
theorem wB {k:Int} (h:1≤k∧k≤11):(Ca.of k).OK:=by
 have h9:(0:Int)≤0∧(0:Int)<9:=by decide
 exact ⟨h.1,h.2,h9.1,h9.2,h9.1,h9.2⟩
theorem AV.bZ {k:Int} {v:Vk} {p:PS} {x:Rp} (h:AV k v p) (ht:v.t=.idle x) (hm:v.may x):AV (k+1) (v.bZ x) p:=by
 have ha:=h.gJ
 have h0:=ha.k0
 rw [ht] at ha
 have hz:Wb k Wd.zero:=Wb.zero h0
 have hz1:Wb (k+1) Wd.zero:=Wb.zero (by omega)
 have hxw:Wb k x.word:=ha.tw
 unfold Vk.bZ
 unfold Vk.may at hm
 cases hj:v.j with
 | none =>
  rw [hj] at hm
  simp only at hm ⊢
  split
  ·exact ⟨ha.begin (c:=Ca.of 2) (wB (by decide)) hz1 hz,fun j hj'=>(by cases hj'),h.ops⟩
  ·rename_i hi
   obtain ⟨-,hl,-⟩:=hm.resolve_left hi
   have ho:v.op∈v.ops:=by
    unfold Vk.op
    rw [List.getD_eq_getElem?_getD,List.getElem?_eq_getElem hl]
    exact List.getElem_mem _
   refine ⟨ha.begin (c:=Ca.of 1) (wB (by decide)) hz1 hz,fun j hj'=>?_,h.ops⟩
   obtain rfl:Jb.new v.op=j:=Option.some.inj hj'
   exact ⟨⟨hz1,hz1,rfl,rfl⟩,h.ops.2 _ ho⟩
 | some j =>
  rw [hj] at hm
  simp only at hm ⊢
  obtain ⟨⟨q1,q2,q3⟩,q4⟩:=h.ui j hj
  obtain ⟨⟨⟨a1,a2,a3⟩,a4⟩,b,c⟩:=RP (x:=x) h0 q1 q2 q3 q4 hxw
  split
  ·refine ⟨?_,fun j' hj'=>(by cases hj'),h.ops⟩
   have:=ha.mono (k':=k+1) (by omega)
   show uh (k+1) v.l v.t p
   rw [ht]
   exact this
  ·rename_i hk
   refine ⟨ha.begin (hm.2 hk) b c,fun j' hj'=>?_,h.ops⟩
   obtain rfl:(j.next x).1=j':=Option.some.inj hj'
   exact ⟨⟨a1.mono (by omega),a2.mono (by omega),a3⟩,by rw [a4];exact q4⟩
structure Nd where
 s:Int
 g:Int
 v:Int
def PS.jc (p:PS) (s g:Int):Prop:=p.is s∧p.used (s-1).toNat=true∧p.gen (s-1).toNat=g
theorem PS.jc.live {p:PS} {s g:Int} (h:p.jc s g):p.live s g:=.inr h.2
theorem PS.jc.has {p:PS} {s g f:Int} (h:p.jc s g) (hf:0≤f∧f<10):p.has s g f:=by
 unfold PS.has
 rw [if_neg (fun e=>by have:=h.1.1;omega)]
 exact ⟨h.1,hf⟩
theorem Qh {p p':PS} (h:Ap p p') {s g:Int} (hs:p.jc s g):p'.jc s g:=by
 obtain ⟨a,b,c⟩:=hs
 unfold PS.jc PS.is at *
 rw [h.ns,h.used,h.gen]
 exact ⟨a,b,c⟩
where
 ads {N:List Nt} (h:(N.map fun d=>d.ref.slot).Nodup) {a b:Nt} (ha:a∈N) (hb:b∈N) (hab:a.ref.slot=b.ref.slot):a=b:=by
  induction N with
  | nil=>cases ha
  | cons x N ih =>
   rw [List.map_cons,List.nodup_cons] at h
   rcases List.mem_cons.1 ha with rfl | ha
   ·rcases List.mem_cons.1 hb with rfl | hb
    ·rfl
    ·exact absurd (List.mem_map.2 ⟨b,hb,hab.symm⟩) h.1
   ·rcases List.mem_cons.1 hb with hb | hb
    ·exact absurd (List.mem_map.2 ⟨a,ha,by rw [hab,hb]⟩) h.1
    ·exact ih h.2 ha hb
section
variable {p:PS} {tag n g m:Int} {st:List Nd} {N:List Nt}
theorem Qi {s g s' g':Int} (h:p.jc s g) (h':p.jc s' g') (hne:s≠s'):(s-1).toNat≠(s'-1).toNat:=fun e=>hne (by have:=h.1.1;have:=h'.1.1;omega)
theorem M5 {s f:Int} {w:Wd} (hs:s≠0):p.put s f w={p with cell:=fun i k=>if i=(s-1).toNat∧k=f.toNat then w else p.cell i k}:=if_neg hs
theorem at_root (p:PS):p.at 0 0=p.bd 0:=rfl
theorem cZ (w:Wd):gF w w:=⟨rfl,rfl,rfl,rfl⟩
theorem U6 (hn:p.nb=85) {o w:Wd} (ho:p.bd 0=o):p.act ⟨3,0,0,0,o,w⟩=(PS.put {p with steps:=p.steps+1} 0 0 w,some ⟨o,true⟩):=by
 rw [ug (wu hn (by decide)) (.inl rfl),at_root,ho,if_pos (cZ o)]
theorem J3 (h:p.jc n g) {f:Int} (hf:0≤f∧f<10):p.act (Ac.load n g f)=({p with steps:=p.steps+1},some ⟨p.cell (n-1).toNat f.toNat,true⟩):=by
 have hn0:n≠0:=fun e=>by have:=h.1.1;omega
 have:p.at n f=p.cell (n-1).toNat f.toNat:=if_neg hn0
 rw [←this]
 exact qE (h.has hf) h.live
theorem RQ (h:p.jc n g) {f:Int} (hf:0≤f∧f<10) (o w:Wd):p.act ⟨2,n,g,f,o,w⟩=(PS.put {p with steps:=p.steps+1} n f w,some ⟨Wd.zero,true⟩):=rz (h.has hf) h.live
end
end Go.Proofs.YthomdlajobnmnaaGreatDoor
namespace Go.Proofs.YthomdlajobnmnaaGreatDoor.Cq
open Go.Rex
def Qj (a:Ac):Prop:=∃f w,(25≤f∧f<85)∧a=Ac.store 0 0 f w
def Bs (l:Lo):RT→Prop
 | .fin a=>Qj a
 | .gz _ a=>Qj a
 | .fM c seen=>(seen.length:Int)<l.all∧0≤c.num
 | .iD c=>0≤c.num
 | .jo c=>0≤c.num
 | _=>True
def Qt:RT→Prop
 | .idle _=>False
 | .one _=>False
 | .iA _ _=>False
 | _=>True
def Ck:RT→Prop
 | .lC | .ib _ _ | .lT | .iT _ _ | .kT | .fG=>True
 | _=>False
section
variable {p p':PS} {l:Lo} {t:RT} {x:Rp}
theorem abC (hn:p.nb=85) {a:Ac} (h:Qj a):∃p' x,p.act a=(p',some x)∧Ap p p'∧p'.bd 24=p.bd 24:=by
 obtain ⟨f,w,hf,rfl⟩:=h
 obtain ⟨p',h1,h2,h3⟩:=ado hn hf w
 exact ⟨p',_,h1,h2,h3⟩
theorem BC (ho:l.OK) (hs:t.fF l) (hb:Bs l t) (hn:p.nb=85) (hl:∀c,t=.bW c→p.has c.slot c.gen c.field∧p.live c.slot c.gen) (hr:∀o,t=.fB o→p.jc o.slot o.gen) (hq:Qt t) :
  ∃p' x,p.act (t.acc l)=(p',some x)∧Ap p p'∧(∀c,t=.bW c→x=⟨p.at c.slot c.field,true⟩)∧(Ck t→x=⟨p.bd 24,true⟩)∧((∀c,t≠.iD c∧t≠.jo c)→p'.bd 24=p.bd 24):=by
 have h1:=ho.me
 have h2:=ho.threads
 have mE:∀t:RT,t.acc l=Ac.era→(∀c,t≠.bW c)→∃p' x,p.act (t.acc l)=(p',some x)∧Ap p p'∧(∀c,t=.bW c→x=⟨p.at c.slot c.field,true⟩)∧(Ck t→x=⟨p.bd 24,true⟩)∧((∀c,t≠.iD c∧t≠.jo c)→p'.bd 24=p.bd 24):=fun t e hn'=>by
  rw [e]
  exact ⟨_,_,adp hn,Ap.steps p _,fun c h=>absurd h (hn' c),fun _=>rfl,fun _=>rfl⟩
 have sto:∀a:Ac,∀t:RT,t.acc l=a→Qj a→(∀c,t≠.bW c)→¬Ck t→∃p' x,p.act (t.acc l)=(p',some x)∧Ap p p'∧(∀c,t=.bW c→x=⟨p.at c.slot c.field,true⟩)∧(Ck t→x=⟨p.bd 24,true⟩)∧((∀c,t≠.iD c∧t≠.jo c)→p'.bd 24=p.bd 24):=fun a t e hb hn' hc=>by
  obtain ⟨p',x,a1,a2,a3⟩:=abC hn hb
  rw [e]
  exact ⟨p',x,a1,a2,fun c h=>absurd h (hn' c),fun h=>absurd h hc,fun _=>a3⟩
 cases t with
 | idle x=>exact hq.elim
 | one a=>exact hq.elim
 | iA d r=>exact hq.elim
 | fin a=>exact sto a (.fin a) rfl hb (fun c h=>by cases h) id
 | gz c a=>exact sto a (.gz c a) rfl hb (fun c h=>by cases h) id
 | ik i =>
  have hi:0≤i∧i≤8:=hs
  exact sto _ (.ik i) rfl ⟨25+l.me * 9+i,Wd.zero,by omega,rfl⟩ (fun c h=>by cases h) id
 | lC=>exact mE .lC rfl fun c h=>by cases h
 | ib c w=>exact mE (.ib c w) rfl fun c h=>by cases h
 | lT=>exact mE .lT rfl fun c h=>by cases h
 | iT o b=>exact mE (.iT o b) rfl fun c h=>by cases h
 | kT=>exact mE .kT rfl fun c h=>by cases h
 | fG=>exact mE .fG rfl fun c h=>by cases h
 | bW c =>
  obtain ⟨a1,a2⟩:=hl c rfl
  exact ⟨_,_,qE a1 a2,Ap.steps p _,fun c' h=>(by cases h;rfl),fun h=>h.elim,fun _=>rfl⟩
 | fB o =>
  have h:=hr o rfl
  exact ⟨_,_,qE (h.has (f:=9) (by decide)) h.live,Ap.steps p _,fun c' h=>(by cases h),fun h=>h.elim,fun _=>rfl⟩
 | fM c seen =>
  have hb':(seen.length:Int)<l.all:=hb.1
  exact ⟨_,_,sV hn (abB ho (k:=seen.length) hb'),Ap.steps p _,fun c' h=>(by cases h),fun h=>h.elim,fun _=>rfl⟩
 | iD c =>
  obtain ⟨p',x,a1,a2⟩:=U5 hn (c:=c) hb
  exact ⟨p',x,a1,a2,fun c' h=>(by cases h),fun h=>h.elim,fun h=>absurd rfl (h c).1⟩
 | jo c =>
  obtain ⟨p',x,a1,a2⟩:=U5 hn (c:=c) hb
  exact ⟨p',x,a1,a2,fun c' h=>(by cases h),fun h=>h.elim,fun h=>absurd rfl (h c).2⟩
theorem gG {c:Prop} [Decidable c] {a b:LR} (h1:c→Bs a.1 a.2) (h2:¬c→Bs b.1 b.2):Bs (if c then a else b).1 (if c then a else b).2:=by
 by_cases h:c
 ·rw [if_pos h];exact h1 h
 ·rw [if_neg h];exact h2 h
theorem EA (ho:l.OK) (s:Sp):Qj (RT.jW l s):=by
 have h1:=ho.me
 have h2:=ho.threads
 exact ⟨79+l.me,RS.yR s,by omega,rfl⟩
theorem M6 (ho:l.OK) {i:Int} (hi:0≤i∧i<9) (w:Wd):Qj (Ac.store 0 0 (25+l.me * 9+i) w):=by
 have h1:=ho.me
 have h2:=ho.threads
 exact ⟨_,w,by omega,rfl⟩
theorem yV (ho:l.OK) (k:Int):Bs (RT.leave l k).1 (RT.leave l k).2:=by
 refine gG (fun _=>EA ho _) fun _=>gG (fun _=>?_) fun _=>trivial
 cases RS.first l.h k.toNat (9-k.toNat) <;> trivial
theorem Qk (ho:l.OK):Bs (RT.scan l).1 (RT.scan l).2:=gG (fun _=>trivial) fun _=>gG (fun _=>trivial) fun _=>⟨ho.all,by decide⟩
theorem EB (ho:l.OK):Bs (RT.bS l).1 (RT.bS l).2:=gG (fun _=>Qk ho) fun _=>trivial
theorem C8 (r:List Nt):Bs (RT.dz l r).1 (RT.dz l r).2:=by cases r <;> trivial
theorem uj (ho:l.OK) {c:Ca} (h9:c.kind≠9) (h7:c.kind≠7):Bs (RT.begin l c).1 (RT.begin l c).2 :=
 gG (fun _=>gG (fun _=>trivial) fun _=>trivial) fun _=>gG (fun _=>yV ho 0) fun _=>gG (fun _=>trivial) fun _=>gG (fun _=>trivial) fun _=>gG (fun _=>trivial) fun _=>gG (fun _=>trivial) fun _=>gG (fun h=>absurd h h7) fun _ =>
  gG (fun _=>gG (fun _=>trivial) fun _=>trivial) fun _=>gG (fun h=>absurd h h9) fun _=>gG (fun _=>gG (fun _=>EB (ho.note _ _ _)) fun _=>gG (fun _=>trivial) fun _=>gG (fun _=>trivial) fun _=>trivial) fun _=>Qk ho
theorem Ql (ho:l.OK) (hs:t.fF l) (hb:Bs l t) (hc:Ck t→0≤x.word.num):Bs (RT.aG l t x).1 (RT.aG l t x).2:=by
 cases t with
 | idle y=>trivial
 | one a=>trivial
 | fin a=>trivial
 | lC=>exact EA ho _
 | ik i=>exact yV ho _
 | bW c=>exact gG (fun _=>trivial) fun _=>gG (fun _=>M6 ho hs _) fun _=>trivial
 | ib c w=>exact gG (fun _=>trivial) fun _=>gG (fun _=>M6 ho hs.2 _) fun _=>EA ho _
 | gz c a=>trivial
 | lT=>trivial
 | fB o=>trivial
 | iT o b=>exact gG (fun _=>hc trivial) fun _=>EB (ho.note _ _ _)
 | iD c=>exact EB ho
 | kT=>exact ⟨ho.all,hc trivial⟩
 | fM c seen =>
  refine gG (fun h=>⟨?_,hb.2⟩) fun _=>gG (fun _=>C8 _) fun _=>gG (fun _=>hb.2) fun _=>trivial
  rw [List.length_append,List.length_singleton]
  exact h
 | jo c=>trivial
 | fG=>exact C8 _
 | iA d r=>exact C8 _
end
end Go.Proofs.YthomdlajobnmnaaGreatDoor.Cq
namespace Go.Proofs.YthomdlajobnmnaaGreatDoor.Cq
open Go.Rex
structure Op where
 kind:Int
 key:Int
 val:Int
 wh:Int
 deriving DecidableEq
structure Jb where
 at':Int
 last:Ca
 op:Op
 node:Wd
 h:Wd
 t:Wd
 n:Wd
 val:Int
def Jb.new (o:Op):Jb:=⟨0,Ca.zero,o,Wd.zero,Wd.zero,Wd.zero,Wd.zero,0⟩
def Jb.ask (j:Jb) (s:Int) (c:Ca):Jb × Ca:=({j with at':=s},c)
def Jb.fin (j:Jb) (code val:Int):Jb × Ca:=({j with at':=-1,last:={Ca.of 12 with code:=code,val:=val}},{Ca.of 12 with code:=code,val:=val})
def qf (o r:Wd):Wd:=⟨r.slot,r.gen,o.tag+1,0,false⟩
def GH (f:Int):Ca:={Ca.of 3 with field:=f}
def uZ (f:Int):Ca:={Ca.of 6 with field:=f}
def zV (f:Int) (o r:Wd):Ca:={Ca.of 5 with field:=f,old:=o,new:=qf o r}
def MZ (w:Wd) (f:Int) (o r:Wd):Ca:={Ca.of 5 with slot:=w.slot,gen:=w.gen,field:=f,old:=o,new:=qf o r}
def U7 (w:Wd) (f i:Int):Ca:={Ca.of 6 with slot:=w.slot,gen:=w.gen,field:=f,i:=i}
def Jb.mQ (j:Jb) (x:Rp):Jb × Ca :=
 if j.at'=0 then j.ask 1 (Ca.of 8)
 else if j.at'=1 then (if x.ok=false then j.fin 4 0 else {j with node:=x.word}.ask 2 (U0 x.word 1 (Wd.dM j.op.val)))
 else if j.at'=3 then {j with t:=x.word}.ask 4 (BA x.word 2)
 else if j.at'=4 then {j with n:=x.word}.ask 5 (GH 1)
 else if j.at'=5 then
  (if ¬gF x.word j.t then j.ask 3 (uZ 1)
   else if j.n.slot≠0 then j.ask 6 (zV 1 j.t j.n)
   else j.ask 7 (MZ j.t 2 j.n j.node))
 else if j.at'=7 then (if x.ok=true then j.ask 8 (zV 1 j.t j.node) else j.ask 3 (uZ 1))
 else if j.at'=2∨j.at'=6 then j.ask 3 (uZ 1)
 else if j.at'=8 then j.fin 1 0
 else (j,j.last)
def Jb.jK (j:Jb) (x:Rp):Jb × Ca :=
 if j.at'=1 then {j with h:=x.word}.ask 2 (GH 1)
 else if j.at'=2 then {j with t:=x.word}.ask 3 (U7 j.h 2 1)
 else if j.at'=3 then {j with n:=x.word}.ask 4 (GH 0)
 else if j.at'=4 then
  (if ¬gF x.word j.h then j.ask 1 (uZ 0)
   else if j.n.slot=0 then j.fin 2 0
   else if j.h.slot=j.t.slot then j.ask 5 (zV 1 j.t j.n)
   else j.ask 6 (BA j.n 1))
 else if j.at'=6 then {j with val:=x.word.num}.ask 7 (zV 0 j.h j.n)
 else if j.at'=7 then (if x.ok=true then j.ask 8 {Ca.of 10 with old:=j.h} else j.ask 1 (uZ 0))
 else if j.at'=0∨j.at'=5 then j.ask 1 (uZ 0)
 else if j.at'=8 then j.fin 1 j.val
 else (j,j.last)
def Jb.next (j:Jb) (x:Rp):Jb × Ca:=if j.op.kind=4 then j.mQ x else j.jK x
def Jb.tg (j:Jb):Prop:=(-1000000000000≤j.h.tag∧j.h.tag≤1000000000000)∧(-1000000000000≤j.t.tag∧j.t.tag≤1000000000000)∧(-1000000000000≤j.n.tag∧j.n.tag≤1000000000000)
def Op.bT (o:Op):Prop:=if o.kind=4 then o.key=0∧o.wh=0∧0≤o.val∧o.val≤1073741824 else o.kind=5∧o.key=0∧o.val=0∧o.wh=0
instance (o:Op):Decidable o.bT:=by unfold Op.bT;exact inferInstance
structure Wk where
 r:RS
 ops:List Op
 j:Option Jb
 aV:Bool
 said:List (Int × Int)
def Wk.go:Nat→Wk→Wk × Option Bool
 | 0,w=>(w,none)
 | k+1,w =>
  if w.r.step≠0 then (w,none)
  else match w.j with
  | none =>
   if w.aV=true then
    if (w.r.begin (Ca.of 2)).2=false then ({w with aV:=false,r:=(w.r.begin (Ca.of 2)).1},some false) else Wk.go k {w with aV:=false,r:=(w.r.begin (Ca.of 2)).1}
   else if w.said.length≥w.ops.length then (w,some false)
   else if ¬(w.ops.getD w.said.length ⟨0,0,0,0⟩).bT then Wk.go k {w with said:=w.said ++ [(0,0)]}
   else if (w.r.begin (Ca.of 1)).2=false then ({w with j:=some (Jb.new (w.ops.getD w.said.length ⟨0,0,0,0⟩)),aV:=true,r:=(w.r.begin (Ca.of 1)).1},some false)
   else Wk.go k {w with j:=some (Jb.new (w.ops.getD w.said.length ⟨0,0,0,0⟩)),aV:=true,r:=(w.r.begin (Ca.of 1)).1}
  | some j =>
   if (j.next w.r.bR).2.kind=12 then Wk.go k {w with said:=w.said ++ [((j.next w.r.bR).2.code,(j.next w.r.bR).2.val)],j:=none}
   else if (w.r.begin (j.next w.r.bR).2).2=false then ({w with j:=some (j.next w.r.bR).1,r:=(w.r.begin (j.next w.r.bR).2).1},some false)
   else Wk.go k {w with j:=some (j.next w.r.bR).1,r:=(w.r.begin (j.next w.r.bR).2).1}
def Wk.step (w:Wk) (p:PS):Wk × PS × Bool :=
 match w.go 200 with
 | (w,some b)=>(w,p,b)
 | (w,none) =>
  if w.r.step=0 then (w,p,false) else
  match p.act w.r.acc with
  | (p,none)=>(w,p,false)
  | (p,some x)=>({w with r:=(w.r.aG x).1},p,(w.r.aG x).2)
def Wk.idle (w:Wk):Prop:=w.r.step=0∧w.j=none∧w.aV=false∧w.said.length≥w.ops.length
instance (w:Wk):Decidable (w.j=none):=by
 cases h:w.j with
 | none=>exact isTrue rfl
 | some _=>exact isFalse (fun h=>by cases h)
instance (w:Wk):Decidable w.idle:=by unfold Wk.idle;exact inferInstance
def Wk.new (af me threads notes:Int) (ops:List Op):Wk:=⟨RS.new af me threads notes,ops,none,false,[]⟩
end Go.Proofs.YthomdlajobnmnaaGreatDoor.Cq
namespace Go.Proofs.YthomdlajobnmnaaGreatDoor.Cq
open Go.Rex
structure Gh where
 ht:Int
 tt:Int
 fr:List Nd
 la:Nd
 lag:Bool
 hand:List Nd
 ret:List Nd
 d:Nat
def Gh.ns (G:Gh):List Nd:=G.fr ++ [G.la]
def Gh.hd (G:Gh):Nd:=G.ns.headD G.la
def Gh.tl (G:Gh):Nd:=if G.lag then G.fr.getLastD G.la else G.la
def Gh.all (G:Gh) (N:List Nt):List Int:=(G.ns ++ G.hand ++ G.ret).map Nd.s ++ N.map fun d=>d.ref.slot
def Gh.hW (G:Gh):Wd:=⟨G.hd.s,G.hd.g,G.ht,0,false⟩
def Gh.tW (G:Gh):Wd:=⟨G.tl.s,G.tl.g,G.tt,0,false⟩
def lk (b:Nd):Wd:=⟨b.s,b.g,1,0,false⟩
def nx (p:PS) (a:Nd):Wd:=p.cell (a.s-1).toNat 2
def qP (p:PS):List Nd→Prop
 | []=>True
 | [a]=>nx p a=Wd.zero
 | a :: b :: r=>nx p a=lk b∧qP p (b :: r)
theorem kU {p p':PS}:∀{l:List Nd},(∀a∈l,nx p' a=nx p a)→qP p l→qP p' l
 | [],_,_=>trivial
 | [a],h,hc=>(h a (List.mem_cons_self ..)).trans hc
 | a :: b :: r,h,hc=>⟨(h a (List.mem_cons_self ..)).trans hc.1,kU (fun x hx=>h x (List.mem_cons_of_mem _ hx)) hc.2⟩
theorem RU {p:PS} {a:Nd}:∀{l:List Nd},qP p (a :: l)→qP p l
 | [],_=>trivial
 | _ :: _,h=>h.2
theorem GI {p p':PS} {la nd:Nd} (h1:nx p' la=lk nd) (h2:nx p' nd=Wd.zero):∀{l:List Nd},(∀a∈l,nx p' a=nx p a)→qP p (l ++ [la])→qP p' ((l ++ [la]) ++ [nd])
 | [],_,_=>⟨h1,h2⟩
 | [a],h,hc=>⟨(h a (List.mem_cons_self ..)).trans hc.1,h1,h2⟩
 | a :: b :: r,h,hc=>⟨(h a (List.mem_cons_self ..)).trans hc.1,GI h1 h2 (l:=b :: r) (fun x hx=>h x (List.mem_cons_of_mem _ hx)) hc.2⟩
theorem GJ {p:PS} {la:Nd}:∀{l:List Nd},qP p (l ++ [la])→nx p la=Wd.zero
 | [],h=>h
 | [_],h=>h.2
 | _ :: b :: r,h=>GJ (l:=b :: r) h.2
structure Qs (p:PS) (G:Gh) (N:List Nt):Prop where
 nb:p.nb=85
 bT:p.bT=true
 mE:1≤(p.bd 24).num
 head:p.bd 0=G.hW
 tail:p.bd 1=G.tW
 si:G.lag=true→G.fr≠[]
 use:∀n∈G.ns ++ G.hand ++ G.ret,p.jc n.s n.g
 chain:qP p G.ns
 val:∀n∈G.ns.tail,p.cell (n.s-1).toNat 1=Wd.dM n.v
 note:∀d∈N,p.jc d.ref.slot d.ref.gen
 one:(G.all N).Nodup
 seq:∀(i:Nat) (n:Nd),G.ns.tail[i]?=some n→n.v=(G.d:Int)+i
 hz:∀n∈G.hand,nx p n=Wd.zero
 room:59≤p.nf+((G.d:Int)+G.fr.length+G.hand.length)
 few:N.length+G.ret.length≤G.d
section
variable {p p':PS} {G:Gh} {N N':List Nt}
theorem Qs.ap (h:Qs p G N) (ha:Ap p p'):Qs p' G N :=
 ⟨ha.nb.trans h.nb,ha.bT.trans h.bT,ha.mE h.mE,(ha.bd 0 (by decide)).trans h.head,(ha.bd 1 (by decide)).trans h.tail,h.si,fun n hn=>Qh ha (h.use n hn),kU (fun a _=>by unfold nx;rw [ha.cell]) h.chain,fun n hn=>by rw [ha.cell];exact h.val n hn,fun d hd=>Qh ha (h.note d hd),h.one,h.seq,fun n hn=>by unfold nx;rw [ha.cell];exact h.hz n hn,by rw [ha.nf];exact h.room,h.few⟩
theorem Qs.steps (h:Qs p G N) (k:Int):Qs {p with steps:=k} G N:=h.ap (Ap.steps p k)
theorem nV {n:Nd} (h:n∈G.ns):n∈G.ns ++ G.hand ++ G.ret:=List.mem_append_left _ (List.mem_append_left _ h)
theorem EC {n:Nd} (h:n∈G.ns.tail):n∈G.ns:=List.mem_of_mem_tail h
theorem adu:G.hd∈G.ns:=by
 unfold Gh.hd Gh.ns
 cases h:G.fr with
 | nil=>simp
 | cons a r=>simp
theorem M7:G.la∈G.ns:=by unfold Gh.ns;simp
theorem rA {α:Type} {f:α→Int} {l1 l2:List α} (h:((l1 ++ l2).map f).Nodup) {a b:α} (ha:a∈l1) (hb:b∈l2):f a≠f b:=by
 rw [List.map_append,List.nodup_append] at h
 exact h.2.2 _ (List.mem_map_of_mem ha) _ (List.mem_map_of_mem hb)
theorem Qs.nod (h:Qs p G N):((G.ns ++ G.hand ++ G.ret).map Nd.s).Nodup:=(List.nodup_append.1 h.one).1
theorem Qs.RV (h:Qs p G N):(G.ns.map Nd.s).Nodup:=by
 have:=h.nod
 rw [List.map_append,List.map_append] at this
 exact (List.nodup_append.1 (List.nodup_append.1 this).1).1
theorem Qs.free (h:Qs p G N) (hok:p.OK) {d:Nt} (hd:d∈N):Qs (PS.free p d.ref.slot) G (N.erase d):=by
 have hds:=h.note d hd
 have h1:=h.one
 unfold Gh.all at h1
 rw [List.nodup_append] at h1
 obtain ⟨-,hN,hx⟩:=h1
 have hfree:∀s g,p.jc s g→s≠d.ref.slot→(PS.free p d.ref.slot).jc s g:=fun s g ⟨a,b,c⟩ hne=>by
  refine ⟨a,?_,c⟩
  show (if (s-1).toNat=(d.ref.slot-1).toNat then false else p.used (s-1).toNat)=true
  rw [if_neg (fun e=>hne (by have:=a.1;have:=hds.1.1;omega))]
  exact b
 refine ⟨h.nb,h.bT,h.mE,h.head,h.tail,h.si,fun n hn=>hfree _ _ (h.use n hn) ?_,kU (p:=p) (fun _ _=>rfl) h.chain,h.val,fun e he=>?_,h.one.sublist ((List.Sublist.refl _).append (List.erase_sublist.map _)),h.seq,h.hz,?_,Nat.le_trans (Nat.add_le_add_right (List.length_erase_le ..) _) h.few⟩
 ·exact hx n.s (List.mem_map_of_mem hn) d.ref.slot (List.mem_map_of_mem (f:=fun d:Nt=>d.ref.slot) hd)
 ·refine hfree _ _ (h.note e (List.mem_of_mem_erase he)) fun heq=>?_
  have hNd:N.Nodup:=List.Pairwise.of_map (fun d:Nt=>d.ref.slot) (fun a b h e=>h (congrArg (fun d:Nt=>d.ref.slot) e)) hN
  have hne:e≠d:=fun q=>by
   rw [q] at he
   exact (List.Nodup.not_mem_erase hNd) he
  exact hne (inj hN (List.mem_of_mem_erase he) hd heq)
 ·have:=h.room
  show 59≤p.nf+1+_
  omega
where
 inj {N:List Nt} (h:(N.map fun d=>d.ref.slot).Nodup) {a b:Nt} (ha:a∈N) (hb:b∈N) (hab:a.ref.slot=b.ref.slot):a=b:=by
  induction N with
  | nil=>cases ha
  | cons x N ih =>
   rw [List.map_cons,List.nodup_cons] at h
   rcases List.mem_cons.1 ha with rfl | ha
   ·rcases List.mem_cons.1 hb with rfl | hb
    ·rfl
    ·exact absurd (List.mem_map.2 ⟨b,hb,hab.symm⟩) h.1
   ·rcases List.mem_cons.1 hb with hb | hb
    ·exact absurd (List.mem_map.2 ⟨a,ha,by rw [hab,hb]⟩) h.1
    ·exact ih h.2 ha hb
theorem Qs.sub (h:Qs p G N) (hs:N'.Sublist N):Qs p G N' :=
 ⟨h.nb,h.bT,h.mE,h.head,h.tail,h.si,h.use,h.chain,h.val,fun d hd=>h.note d (hs.subset hd),h.one.sublist ((List.Sublist.refl _).append (hs.map _)),h.seq,h.hz,h.room,Nat.le_trans (Nat.add_le_add_right hs.length_le _) h.few⟩
theorem Qs.bS (h:Qs p G N) {n:Nd} (hr:G.ret=[n]) {w:Wd} (hw:w.slot=n.s∧w.gen=n.g) (b d:Int):Qs p {G with ret:=[]} (N ++ [⟨w.gI,b,d⟩]):=by
 refine ⟨h.nb,h.bT,h.mE,h.head,h.tail,h.si,fun m hm=>h.use m ?_,h.chain,h.val,fun e he=>?_,?_,h.seq,h.hz,h.room,by have:=h.few;rw [hr] at this;simpa using this⟩
 ·rw [List.append_nil] at hm
  exact List.mem_append_left _ hm
 ·rcases List.mem_append.1 he with he | he
  ·exact h.note e he
  ·obtain rfl:=List.mem_singleton.1 he
   show p.jc w.slot w.gen
   rw [hw.1,hw.2]
   exact h.use n (by rw [hr];simp)
 ·have h1:=h.one
  unfold Gh.all at h1 ⊢
  rw [hr] at h1
  refine (List.Perm.nodup_iff ?_).1 h1
  simp only [List.map_append,List.map_cons,List.map_nil,List.append_nil,List.append_assoc]
  refine List.Perm.append_left _ (List.Perm.append_left _ ?_)
  show List.Perm ([n.s] ++ _) (_ ++ [w.slot])
  rw [hw.1]
  exact List.perm_append_comm
theorem Qs.drop (h:Qs p G N):Qs p {G with ret:=[]} N:=by
 refine ⟨h.nb,h.bT,h.mE,h.head,h.tail,h.si,fun m hm=>h.use m ?_,h.chain,h.val,h.note,h.one.sublist ?_,h.seq,h.hz,h.room,Nat.le_trans (Nat.le_add_right _ _) h.few⟩
 ·rw [List.append_nil] at hm
  exact List.mem_append_left _ hm
 ·unfold Gh.all
  refine List.Sublist.append (List.Sublist.map _ ?_) (List.Sublist.refl _)
  rw [List.append_nil]
  exact List.sublist_append_left _ _
theorem Qs.U8 (h:Qs p G N) (hl:G.lag=true):Qs (p.put 0 1 ⟨G.la.s,G.la.g,G.tt+1,0,false⟩) {G with lag:=false,tt:=G.tt+1} N:=by
 have e:p.put 0 1 ⟨G.la.s,G.la.g,G.tt+1,0,false⟩={p with bd:=fun i=>if i=1 then ⟨G.la.s,G.la.g,G.tt+1,0,false⟩ else p.bd i}:=rfl
 rw [e]
 exact ⟨h.nb,h.bT,h.mE,h.head,rfl,(fun e=>by cases e),h.use,kU (p:=p) (fun _ _=>rfl) h.chain,h.val,h.note,h.one,h.seq,h.hz,h.room,h.few⟩
end
end Go.Proofs.YthomdlajobnmnaaGreatDoor.Cq
namespace Go.Proofs.YthomdlajobnmnaaGreatDoor.Cq
open Go.Rex
section
variable {p p':PS} {G:Gh} {N N':List Nt}
theorem Qs.sep (h:Qs p G N) {n m:Nd} (hn:n∈G.ns) (hm:m∈G.hand):(n.s-1).toNat≠(m.s-1).toNat:=by
 refine Qi (h.use n (nV hn)) (h.use m (by simp [hm])) ?_
 have:=h.nod
 rw [List.append_assoc] at this
 exact rA this hn (by simp [hm])
theorem Qs.alloc (h:Qs p G N) (hok:p.OK) (hh:G.hand=[]) (hd:G.d+G.fr.length≤50) (b:Int):∃n:Nd,n.v=(G.d:Int)+G.fr.length∧(p.alloc b).2=⟨⟨n.s,n.g,0,0,false⟩,true⟩∧Qs (p.alloc b).1 {G with hand:=[n]} N:=by
 have hroom:=h.room
 rw [hh] at hroom
 simp only [List.length_nil,Int.natCast_zero,Int.add_zero] at hroom
 have hnf:¬p.nf=0:=by omega
 obtain ⟨f1,f2,f3⟩:=hok.fr (p.nf-1).toNat (by have:=hok.nf;omega)
 generalize hn:p.fr (p.nf-1).toNat=n at f1 f2 f3
 have e:p.alloc b=({p with nf:=p.nf-1,made:=p.made+1,gen:=fun i=>if i=(n-1).toNat then p.gen (n-1).toNat+1 else p.gen i,used:=fun i=>if i=(n-1).toNat then true else p.used i,cell:=fun i k=>if i=(n-1).toNat∧k<10 then iM b k else p.cell i k},⟨⟨n,p.gen (n-1).toNat+1,0,0,false⟩,true⟩):=by
  unfold PS.alloc
  rw [if_neg hnf]
  simp only [hn]
 rw [e]
 have old:∀s g,p.jc s g→s≠n∧(s-1).toNat≠(n-1).toNat:=fun s g ⟨a,c,_⟩=>by
  have:s≠n:=fun q=>by rw [q,f3] at c;cases c
  exact ⟨this,fun q=>this (by have:=a.1;omega)⟩
 have qB:∀s g,p.jc s g→PS.jc {p with nf:=p.nf-1,made:=p.made+1,gen:=fun i=>if i=(n-1).toNat then p.gen (n-1).toNat+1 else p.gen i,used:=fun i=>if i=(n-1).toNat then true else p.used i,cell:=fun i k=>if i=(n-1).toNat∧k<10 then iM b k else p.cell i k} s g:=fun s g h1=>⟨h1.1,(if_neg (old s g h1).2).trans h1.2.1,(if_neg (old s g h1).2).trans h1.2.2⟩
 refine ⟨⟨n,p.gen (n-1).toNat+1,(G.d:Int)+G.fr.length⟩,rfl,rfl,⟨h.nb,h.bT,h.mE,h.head,h.tail,h.si,fun m hm=>?_,kU (p:=p) (fun m hm=>?_) h.chain,fun m hm=>?_,fun e he=>qB _ _ (h.note e he),?_,h.seq,fun m hm=>?_,?_,h.few⟩⟩
 ·have hm':m∈G.ns∨m=⟨n,p.gen (n-1).toNat+1,(G.d:Int)+G.fr.length⟩∨m∈G.ret:=by
   rcases List.mem_append.1 hm with hm | hm
   ·rcases List.mem_append.1 hm with hm | hm
    ·exact .inl hm
    ·exact .inr (.inl (List.mem_singleton.1 hm))
   ·exact .inr (.inr hm)
  rcases hm' with hm | rfl | hm
  ·exact qB _ _ (h.use m (nV hm))
  ·exact ⟨⟨f1,f2⟩,if_pos rfl,if_pos rfl⟩
  ·exact qB _ _ (h.use m (by simp [hm]))
 ·exact if_neg fun q=>(old _ _ (h.use m (nV hm))).2 q.1
 ·exact (if_neg fun q=>(old _ _ (h.use m (nV (EC hm)))).2 q.1).trans (h.val m hm)
 ·have h1:=h.one
  unfold Gh.all at h1 ⊢
  rw [hh,List.append_nil] at h1
  have hp:List.Perm (n :: ((G.ns ++ G.ret).map Nd.s ++ N.map fun d=>d.ref.slot)) ((G.ns ++ [(⟨n,p.gen (n-1).toNat+1,(G.d:Int)+G.fr.length⟩:Nd)] ++ G.ret).map Nd.s ++ N.map fun d=>d.ref.slot):=by
   simp only [List.map_append,List.map_cons,List.map_nil,List.append_assoc,List.singleton_append]
   exact List.perm_middle.symm
  refine hp.nodup_iff.1 (List.nodup_cons.2 ⟨fun q=>?_,h1⟩)
  rcases List.mem_append.1 q with q | q
  ·obtain ⟨x,hx,ex⟩:=List.mem_map.1 q
   exact (old x.s x.g (h.use x (by rcases List.mem_append.1 hx with hx | hx <;> simp [hx]))).1 ex
  ·obtain ⟨x,hx,ex⟩:=List.mem_map.1 q
   exact (old _ _ (h.note x hx)).1 ex
 ·obtain rfl:=List.mem_singleton.1 hm
  exact if_pos ⟨rfl,by decide⟩
 ·show 59≤p.nf-1+((G.d:Int)+G.fr.length+((1:Nat):Int))
  omega
theorem Qs.ahL (h:Qs p G N) {n:Nd} (hn:n∈G.hand) (w:Wd):Qs (p.put n.s 1 w) G N∧(p.put n.s 1 w).cell (n.s-1).toNat 1=w:=by
 have hu:=h.use n (by simp [hn])
 have hn0:n.s≠0:=fun e=>by have:=hu.1.1;omega
 rw [M5 hn0]
 refine ⟨⟨h.nb,h.bT,h.mE,h.head,h.tail,h.si,h.use,kU (p:=p) (fun m hm=>if_neg fun q=>absurd q.2 (by decide)) h.chain,fun m hm=>?_,h.note,h.one,h.seq,fun m hm=>?_,h.room,h.few⟩,if_pos ⟨rfl,rfl⟩⟩
 ·exact (if_neg fun q=>h.sep (EC hm) hn q.1).trans (h.val m hm)
 ·exact (if_neg fun q=>absurd q.2 (by decide)).trans (h.hz m hm)
theorem U9 {α:Type} (l:List α) (a b c:α):((l ++ [a]) ++ [b]).headD c=(l ++ [a]).headD a:=by cases l <;> rfl
theorem M8 {α:Type} (l:List α) (a b:α):((l ++ [a]) ++ [b]).tail=(l ++ [a]).tail ++ [b]:=by cases l <;> rfl
theorem X4 {α:Type} (l:List α) (a:α):(l ++ [a]).tail.length=l.length:=by simp
theorem Qs.link (h:Qs p G N) {n:Nd} (hh:G.hand=[n]) (hl:G.lag=false) (hv:p.cell (n.s-1).toNat 1=Wd.dM n.v) (hnv:n.v=(G.d:Int)+G.fr.length) :
  Qs (p.put G.la.s 2 (lk n)) {G with fr:=G.fr ++ [G.la],la:=n,hand:=[],lag:=true} N:=by
 have Va:n∈G.hand:=by rw [hh];simp
 have hla:=h.use G.la (nV M7)
 have hn0:G.la.s≠0:=fun e=>by have:=hla.1.1;omega
 have hne:∀a∈G.fr,(a.s-1).toNat≠(G.la.s-1).toNat:=fun a ha=>by
  have h1:=h.RV
  have ha':a∈G.ns:=by unfold Gh.ns;simp [ha]
  refine Qi (h.use a (nV ha')) hla ?_
  unfold Gh.ns at h1
  exact rA h1 ha (List.mem_singleton.2 rfl)
 have hsn:(n.s-1).toNat≠(G.la.s-1).toNat:=fun e=>h.sep M7 Va e.symm
 rw [M5 hn0]
 refine ⟨h.nb,h.bT,h.mE,?_,?_,fun _=>by simp,fun m hm=>h.use m ?_,GI (p:=p) ?_ ?_ (fun a ha=>?_) h.chain,fun m hm=>?_,h.note,?_,fun i m hi=>?_,fun m hm=>(by cases hm),?_,h.few⟩
 ·have e:=h.head
  unfold Gh.hW Gh.hd Gh.ns at e ⊢
  rw [U9]
  exact e
 ·have e:=h.tail
  unfold Gh.tW Gh.tl at e ⊢
  rw [hl] at e
  simpa using e
 ·have:m∈G.ns∨m=n∨m∈G.ret:=by
   unfold Gh.ns at hm ⊢
   simp at hm ⊢
   rcases hm with hm | hm | hm | hm <;> simp [hm]
  rw [hh]
  rcases this with h | rfl | h <;> simp [h]
 ·exact if_pos ⟨rfl,rfl⟩
 ·exact (if_neg fun q=>hsn q.1).trans (h.hz n Va)
 ·exact if_neg fun q=>hne a ha q.1
 ·have hm':m∈G.ns.tail∨m=n:=by
   unfold Gh.ns at hm ⊢
   rw [M8] at hm
   simpa using hm
  have e1:¬(1=(2:Int).toNat):=by decide
  refine (if_neg fun q=>e1 q.2).trans ?_
  rcases hm' with hm | rfl
  ·exact h.val m hm
  ·exact hv
 ·have h1:=h.one
  unfold Gh.all Gh.ns at h1 ⊢
  rw [hh] at h1
  simpa using h1
 ·unfold Gh.ns at hi
  rw [M8] at hi
  have hlen:G.ns.tail.length=G.fr.length:=X4 _ _
  rcases Nat.lt_or_ge i G.fr.length with hi' | hi'
  ·rw [List.getElem?_append_left (by simpa using hi')] at hi
   exact h.seq i m hi
  ·rw [List.getElem?_append_right (by simpa using hi')] at hi
   have hi0:i=G.fr.length:=by
    have:=(List.getElem?_eq_some_iff.1 hi).1
    simp at this
    omega
   subst hi0
   simp at hi
   rw [←hi,hnv]
 ·have:=h.room
  rw [hh] at this
  show 59≤p.nf+((G.d:Int)+((G.fr ++ [G.la]).length:Nat)+((0:Nat):Int))
  simp only [List.length_append,List.length_cons,List.length_nil] at this ⊢
  omega
theorem Qs.pop (h:Qs p G N) {n0:Nd} {r:List Nd} (hf:G.fr=n0 :: r) (hr:G.ret=[]) (hl:G.lag=true→r≠[]) :
  Qs (p.put 0 0 ⟨((r ++ [G.la]).headD G.la).s,((r ++ [G.la]).headD G.la).g,G.ht+1,0,false⟩) {G with fr:=r,ht:=G.ht+1,ret:=[n0],d:=G.d+1} N:=by
 have e:p.put 0 0 ⟨((r ++ [G.la]).headD G.la).s,((r ++ [G.la]).headD G.la).g,G.ht+1,0,false⟩={p with bd:=fun i=>if i=0 then ⟨((r ++ [G.la]).headD G.la).s,((r ++ [G.la]).headD G.la).g,G.ht+1,0,false⟩ else p.bd i}:=rfl
 rw [e]
 have hns:G.ns=n0 :: (r ++ [G.la]):=by unfold Gh.ns;rw [hf];rfl
 refine ⟨h.nb,h.bT,h.mE,rfl,?_,hl,fun m hm=>h.use m ?_,?_,fun m hm=>?_,h.note,?_,fun i m hi=>?_,h.hz,?_,by have:=h.few;rw [hr] at this;simpa using this⟩
 ·have e:=h.tail
  unfold Gh.tW Gh.tl at e ⊢
  cases rR:G.lag with
  | false=>rw [rR] at e;exact e
  | true =>
   rw [rR,hf] at e
   have:=hl rR
   cases r with
   | nil=>exact absurd rfl this
   | cons a r=>exact e
 ·rw [hns,hr]
  unfold Gh.ns at hm
  simp at hm ⊢
  rcases hm with hm | hm | hm | hm <;> simp [hm]
 ·have hc:=h.chain
  rw [hns] at hc
  exact kU (p:=p) (fun _ _=>rfl) (RU hc)
 ·refine h.val m ?_
  rw [hns]
  exact List.mem_of_mem_tail hm
 ·have h1:=h.one
  unfold Gh.all at h1 ⊢
  rw [hns,hr] at h1
  unfold Gh.ns
  refine (List.Perm.nodup_iff ?_).1 h1
  have hp:=List.perm_middle (a:=n0.s) (l₁:=(r.map Nd.s ++ [G.la.s]) ++ G.hand.map Nd.s) (l₂:=N.map fun d=>d.ref.slot)
  simpa [List.map_append,List.append_assoc] using hp.symm
 ·have h1:=h.seq (i+1) m
  rw [hns] at h1
  have hi':(r ++ [G.la]).tail[i]?=some m:=hi
  have:(n0 :: (r ++ [G.la])).tail[i+1]?=some m:=by
   show (r ++ [G.la])[i+1]?=some m
   cases hra:r ++ [G.la] with
   | nil=>rw [hra] at hi';simp at hi'
   | cons a q=>rw [hra] at hi';simpa using hi'
  rw [h1 this]
  show (G.d:Int)+((i+1:Nat):Int)=((G.d+1:Nat):Int)+i
  omega
 ·have:=h.room
  rw [hf] at this
  show 59≤p.nf+(((G.d+1:Nat):Int)+(r.length:Nat)+(G.hand.length:Nat))
  simp only [List.length_cons] at this
  omega
end
end Go.Proofs.YthomdlajobnmnaaGreatDoor.Cq
