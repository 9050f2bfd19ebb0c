/- part 12 of the proof -/
import Derived.Test.YthomdlajobnmnaaGreatDoorX11
set_option linter.unusedSimpArgs false
set_option linter.unusedVariables false
namespace Go.Proofs.YthomdlajobnmnaaGreatDoor.Sv
open Go.Rex
structure wC where
 slot:Int
 gen:Int
 tag:Int
 num:Int
 mark:Bool
 kZ:Int
 lS:Int
 deriving DecidableEq
def bq (ρ:Env) (r i:Nat):wC:=⟨ρ.ic r i 0 0,ρ.ic r i 0 1,ρ.ic r i 0 2,ρ.ic r i 0 3,ρ.bc r i 0 4,ρ.ic r i 0 5,ρ.ic r i 0 6⟩
def notes (ρ:Env) (b:Nat):List wC:=(List.range (ρ.iv (b+1)).toNat).map (bq ρ (b+3))
theorem vw {α:Type} {f g:Nat→α} {n:Nat} (h:∀i,i<n→f i=g i):(List.range n).map f=(List.range n).map g :=
 List.map_congr_left fun i hi=>h i (List.mem_range.1 hi)
theorem lD (ρ:Env) (b:Nat):(notes ρ b).length=(ρ.iv (b+1)).toNat:=by simp [notes]
theorem kD {ρ ρ':Env} {b b':Nat} {x:wC} (h0:0≤ρ.iv (b+1)) (h1:ρ'.iv (b'+1)=ρ.iv (b+1)+1) (h2:∀i,i<(ρ.iv (b+1)).toNat→bq ρ' (b'+3) i=bq ρ (b+3) i)
  (h3:bq ρ' (b'+3) (ρ.iv (b+1)).toNat=x):notes ρ' b'=notes ρ b ++ [x]:=by
 unfold notes
 rw [h1,show (ρ.iv (b+1)+1).toNat=(ρ.iv (b+1)).toNat+1 by omega,List.range_succ,List.map_append,vw h2,List.map_cons,List.map_nil,h3]
theorem fq {ρ ρ':Env} {b b':Nat} (h1:ρ'.iv (b'+1)=ρ.iv (b+1)) (h2:∀i,i<(ρ.iv (b+1)).toNat→bq ρ' (b'+3) i=bq ρ (b+3) i):notes ρ' b'=notes ρ b:=by
 unfold notes
 rw [h1,vw h2]
theorem sj {ρ:Env} {b:Nat} {i:Nat} (h:i<(ρ.iv (b+1)).toNat):(notes ρ b).take (i+1)=(notes ρ b).take i ++ [bq ρ (b+3) i]:=by
 have hl:i<(notes ρ b).length:=by rw [lD];exact h
 rw [List.take_succ_eq_append_getElem hl]
 simp [notes]
theorem su (ρ:Env) (b:Nat) {n:Nat} (h:(ρ.iv (b+1)).toNat≤n):(notes ρ b).take n=notes ρ b:=List.take_of_length_le (by rw [lD];exact h)
def lF (ρ:Env) (b:Nat):List Int:=(List.range (ρ.iv (b+1)).toNat).map fun j=>ρ.ic (b+3) j 0 0
def wD (ρ:Env) (b:Nat):List (Bool × Int × Int):=(List.range (ρ.iv (b+1)).toNat).map fun j=>(ρ.bc (b+3) j 0 0,ρ.ic (b+3) j 0 1,ρ.ic (b+3) j 0 2)
def qR (l:List Int) (n:wC):Bool:=l.any fun s=>decide (s=n.slot)
def nL (l:List Int) (n:wC):Bool:=l.any fun e=>decide ((0<e∧n.kZ≤e)∧e≤n.lS)
def qU (l:List (Bool × Int × Int)) (n:wC):Bool:=l.any fun s=>decide ((s.1=true∧s.2.1≤n.lS)∧n.kZ≤s.2.2)
def qV (now:Int) (n:wC):Bool:=decide (now < -9223372036854775806∨now-2<n.lS)
noncomputable def Vl:Ex:={sched:=sched,loops:=[RZ,adz],fin:=lW}
abbrev Sc:List (Nat × IE):=[yz 16,yz 14,yz 13,yz 10,yz 9]
abbrev Sd:List (Nat × BE):=[(12,.lit true),(8,.lit true)]
abbrev Yf:List (Nat × IE):=[(16,.add (.var 16) y1),(14,yv 18),(13,.add (.var 13) y1),(10,yv 10),(9,yv 9)]
abbrev Sg:List (Nat × BE):=[(12,.lit false),(8,yw 8)]
abbrev Si:List (Nat × CV):=[(15,.up {r:=15,n1:=.add (.var 13) y1,s1:=7,ks:=yN} 0 [⟨0,(.var 13),y0,0,.int .i64 (.cell 3 (.var 16) y0 0)⟩,⟨0,(.var 13),y0,1,.int .i64 (.cell 3 (.var 16) y0 1)⟩,⟨0,(.var 13),y0,2,.int .i64 (.cell 3 (.var 16) y0 2)⟩,⟨0,(.var 13),y0,3,.int .i64 (.cell 3 (.var 16) y0 3)⟩,⟨0,(.var 13),y0,4,.bool (.cell 3 (.var 16) y0 4)⟩,⟨0,(.var 13),y0,5,.int .i64 (.cell 3 (.var 16) y0 5)⟩,⟨0,(.var 13),y0,6,.int .i64 (.cell 3 (.var 16) y0 6)⟩] y0),(11,yu 11 9 7 yN 0)]
abbrev Yg:List (Nat × IE):=[(16,.add (.var 16) y1),(14,yv 14),(13,yv 13),(10,yv 18),(9,.add (.var 9) y1)]
abbrev Sj:List (Nat × BE):=[(12,yw 12),(8,.lit false)]
abbrev Sk:List (Nat × CV):=[(15,yu 15 13 7 yN 0),(11,.up {r:=11,n1:=.add (.var 9) y1,s1:=7,ks:=yN} 0 [⟨0,(.var 9),y0,0,.int .i64 (.cell 3 (.var 16) y0 0)⟩,⟨0,(.var 9),y0,1,.int .i64 (.cell 3 (.var 16) y0 1)⟩,⟨0,(.var 9),y0,2,.int .i64 (.cell 3 (.var 16) y0 2)⟩,⟨0,(.var 9),y0,3,.int .i64 (.cell 3 (.var 16) y0 3)⟩,⟨0,(.var 9),y0,4,.bool (.cell 3 (.var 16) y0 4)⟩,⟨0,(.var 9),y0,5,.int .i64 (.cell 3 (.var 16) y0 5)⟩,⟨0,(.var 9),y0,6,.int .i64 (.cell 3 (.var 16) y0 6)⟩] y0)]
abbrev Sl:List (Nat × IE):=[(14,yv 14),(13,yv 13),(10,yv 10),(9,yv 9)]
abbrev Sn:List (Nat × CV):=[(15,yu 15 13 7 yN 0),(11,yu 11 9 7 yN 0)]
def EF:Out :=
 .ob (.or (.not (.var 0)) (.aA (.var 1) y0)) <|
 .ob (.ai y0 (.var 1)) <|
 .loop 8 {lo:=8,ah:=3,iv:=Sc,bv:=Sd,nb:=[4,3]} <|
 .br (.bO (.var 16) (.var 1))
 (.ob (.not (.var 0)) <|
  .ob (.ai y0 (.var 16)) <|
  .ob (.or (.not (.var 4)) (.aA (.var 5) y0)) <|
  .ob (.ai y0 (.var 5)) <|
  .loop 17 {lo:=17,ah:=7,iv:=[yz 17]} <|
  .br (.bO (.var 17) (.var 5))
  (.ob (.not (.var 4)) <|
   .ob (.ai y0 (.var 17)) <|
   .br (.aA (.cell 7 (.var 17) y0 0) (.cell 3 (.var 16) y0 0))
   (.ob (.ai (.mul (.add (.var 13) y1) (.lit 56)) (.lit 140737488355328)) <|
    .ob (.ai y0 (.var 13)) <|
    .ob (.ai (.var 13) (.var 14)) <|
    .ob (.ai (.var 14) (.lit 9223372036854775807)) <|
    .ob (.or (.not (.var 12)) (.aA (.var 13) y0)) <|
    .new 18 [.be (.and (.ai (.add (.var 13) y1) (.var 18)) (.ai (.var 18) (.lit 9223372036854775807)))] <|
    .ob (.inr .i64 (.add (.var 16) y1)) <|
    .back 1 {lo:=8,ah:=3,iv:=Yf,bv:=Sg,ct:=Si,bk:=[(4,yc 9 7),(3,yc 3 7)]})
   (.ob (.inr .i64 (.add (.var 17) y1)) <|
    .back 0 {lo:=17,ah:=7,iv:=[(17,.add (.var 17) y1)]}))
  (.ob (.ai (.mul (.add (.var 9) y1) (.lit 56)) (.lit 140737488355328)) <|
   .ob (.ai y0 (.var 9)) <|
   .ob (.ai (.var 9) (.var 10)) <|
   .ob (.ai (.var 10) (.lit 9223372036854775807)) <|
   .ob (.or (.not (.var 8)) (.aA (.var 9) y0)) <|
   .new 18 [.be (.and (.ai (.add (.var 9) y1) (.var 18)) (.ai (.var 18) (.lit 9223372036854775807)))] <|
   .ob (.inr .i64 (.add (.var 16) y1)) <|
   .back 1 {lo:=8,ah:=3,iv:=Yg,bv:=Sj,ct:=Sk,bk:=[(4,yc 4 7),(3,yc 8 7)]}))
 (.fin {lo:=8,ah:=2,iv:=Sl,bv:=[(12,yw 12),(8,yw 8)],ct:=Sn,bk:=[(3,yc 4 7),(2,yc 3 7)]})
theorem Vm:exec tab Vl 4000 [] (fE lW.f 8 [] [] lW.hp lW.args)=EF:=by kernel_rfl
def zg (ρ:Env) (i j:Nat):Prop:=ρ.ic 7 j 0 0=ρ.ic 3 i 0 0
def mY (ρ:Env):Prop:=bz ρ 0∧ρ.iv 1≤1000000∧bz ρ 4∧ρ.iv 5≤1000000
def Kc (ρ:Env):Prop:=bz ρ 8∧notes ρ 8=(notes ρ 0).filter (fun n=>!qR (lF ρ 4) n)∧bz ρ 12∧notes ρ 12=(notes ρ 0).filter (qR (lF ρ 4))
def uo (ρ:Env):Prop:=(0≤ρ.iv 16∧ρ.iv 16≤ρ.iv 1)∧(bz ρ 8∧notes ρ 8=((notes ρ 0).take (ρ.iv 16).toNat).filter (fun n=>!qR (lF ρ 4) n))∧bz ρ 12∧notes ρ 12=((notes ρ 0).take (ρ.iv 16).toNat).filter (qR (lF ρ 4))
def IK (ρ:Env):Prop:=(0≤ρ.iv 17∧ρ.iv 17≤ρ.iv 5)∧∀j:Nat,(j:Int)<ρ.iv 17→¬zg ρ (ρ.iv 16).toNat j
def qG (ρ:Env):Prop:=mY ρ∧uo ρ∧ρ.iv 16<ρ.iv 1
theorem qG.lens {ρ:Env} (h:qG ρ):ρ.iv 9≤ρ.iv 16∧ρ.iv 13≤ρ.iv 16:=by
 obtain ⟨⟨a1,a5,b1,b5⟩,⟨⟨i1,i2⟩,⟨⟨o1,o2,o3,o4⟩,n1⟩,⟨⟨p1,p2,p3,p4⟩,n2⟩⟩,hlt⟩:=h
 have l1:(notes ρ 8).length≤(ρ.iv 16).toNat:=by
  rw [n1];refine Nat.le_trans (List.length_filter_le _ _) ?_;rw [List.length_take];omega
 have l2:(notes ρ 12).length≤(ρ.iv 16).toNat:=by
  rw [n2];refine Nat.le_trans (List.length_filter_le _ _) ?_;rw [List.length_take];omega
 rw [lD] at l1 l2
 simp only [Nat.reduceAdd] at *
 omega
theorem qG.take {ρ:Env} (h:qG ρ):(notes ρ 0).take (ρ.iv 16+1).toNat=(notes ρ 0).take (ρ.iv 16).toNat ++ [bq ρ 3 (ρ.iv 16).toNat]:=by
 obtain ⟨_,⟨⟨i1,i2⟩,_⟩,hlt⟩:=h
 rw [show (ρ.iv 16+1).toNat=(ρ.iv 16).toNat+1 by omega]
 exact sj (b:=0) (by simp only [Nat.zero_add];omega)
theorem Vn (ρ:Env) (hpre:mY ρ.num):Sat Kc [] [] ρ EF:=by
 replace hpre:mY ρ:=hpre
 unfold EF
 refine Sat.ob (df hpre.1) (Sat.ob (decide_eq_true hpre.1.2.1) (Sat.loop uo (fun r=>(r.iv 1-r.iv 16).toNat) ?_ fun e hI=>Sat.br (fun hlt=>?_) (fun hge=>?_)))
 ·have h2:=hpre.1.2.1
  simp [uo,bz,notes,Sub.ag,assoc,CV.I,CV.B,aj,ak,ae.I,ae.B,SC.I,SC.B,IE.den,BE.den,h2]
 ·replace hpre:mY (ρ.join 8 e):=hpre
  replace hI:uo (ρ.join 8 e):=hI
  replace hlt:(ρ.join 8 e).iv 16<(ρ.join 8 e).iv 1:=of_decide_eq_true hlt
  have hat:qG (ρ.join 8 e):=⟨hpre,hI,hlt⟩
  clear hpre hI hlt
  have hm:((ρ.join 8 e).num.iv 1-(ρ.join 8 e).num.iv 16).toNat=((ρ.join 8 e).iv 1-(ρ.join 8 e).iv 16).toNat:=rfl
  rw [hm]
  clear hm
  generalize ρ.join 8 e=r at *
  have hpre:=hat.1
  obtain ⟨⟨i1,i2⟩,-⟩:=hat.2.1
  have hlt:=hat.2.2
  obtain ⟨l1,l2⟩:=hat.lens
  refine Sat.ob ?_ (Sat.ob (decide_eq_true i1) (Sat.ob (df hpre.2.2.1) (Sat.ob (decide_eq_true hpre.2.2.1.2.1) (Sat.loop IK (fun r=>(r.iv 5-r.iv 17).toNat) ?_ fun e2 hI2=>Sat.br (fun hlt2=>?_) (fun BH=>?_)))))
  ·simp only [D.le,D.gQ,D.lt,D.gU,D.eq,D.gV,D.not,D.dU,D.and,D.dV,D.or,D.gW,D.inr,D.var,D.lit,D.dh,D.beq,D.dW,D.dX,D.dY,D.add,D.sub,D.mul,D.min,D.max,D.di,D.bP,D.bQ]
   cases h:r.bv 0
   ·rfl
   ·have:=hpre.1.1 h
    simp only [Nat.zero_add] at this
    omega
  ·refine ⟨⟨Int.le_refl 0,hpre.2.2.1.2.1⟩,fun j hj=>?_⟩
   have:(j:Int)<0:=hj
   omega
  ·replace hI2:IK (r.join 17 e2):=hI2
   replace hat:qG (r.join 17 e2):=hat
   replace hlt2:(r.join 17 e2).iv 17<(r.join 17 e2).iv 5:=of_decide_eq_true hlt2
   rw [show (r.iv 1-r.iv 16).toNat=((r.join 17 e2).iv 1-(r.join 17 e2).iv 16).toNat from rfl]
   rw [show ((r.join 17 e2).num.iv 5-(r.join 17 e2).num.iv 17).toNat=((r.join 17 e2).iv 5-(r.join 17 e2).iv 17).toNat from rfl]
   clear hpre hlt l1 l2 i1 i2
   generalize r.join 17 e2=q at *
   have hpre:=hat.1
   obtain ⟨⟨i1,i2⟩,-⟩:=hat.2.1
   have hlt:=hat.2.2
   obtain ⟨l1,l2⟩:=hat.lens
   obtain ⟨⟨j1,j2⟩,j3⟩:=hI2
   refine Sat.ob ?_ (Sat.ob (decide_eq_true j1) (Sat.br (fun heq=>?_) (fun hne=>?_)))
   ·simp only [D.le,D.gQ,D.lt,D.gU,D.eq,D.gV,D.not,D.dU,D.and,D.dV,D.or,D.gW,D.inr,D.var,D.lit,D.dh,D.beq,D.dW,D.dX,D.dY,D.add,D.sub,D.mul,D.min,D.max,D.di,D.bP,D.bQ]
    cases h:q.bv 4
    ·rfl
    ·have:=hpre.2.2.1.1 h
     simp only [Nat.reduceAdd] at this
     omega
   ·replace heq:zg q (q.iv 16).toNat (q.iv 17).toNat:=by simp only [D.le,D.gQ,D.lt,D.gU,D.eq,D.gV,D.not,D.dU,D.and,D.dV,D.or,D.gW,D.inr,D.var,D.lit,D.dh,D.beq,D.dW,D.dX,D.dY,D.add,D.sub,D.mul,D.min,D.max,D.di,D.bP,D.bQ] at heq;exact heq
    have hk:qR (lF q 4) (bq q 3 (q.iv 16).toNat)=true:=by
     refine List.any_eq_true.2 ⟨_,List.mem_map.2 ⟨(q.iv 17).toNat,List.mem_range.2 (by simp only [Nat.reduceAdd];omega),rfl⟩,decide_eq_true heq⟩
    obtain ⟨⟨o1,o2,o3,o4⟩,n1⟩:=hat.2.1.2.1
    obtain ⟨⟨p1,p2,p3,p4⟩,n2⟩:=hat.2.1.2.2
    have htk:=hat.take
    obtain ⟨_,a5,_,b5⟩:=hpre
    simp only [Nat.reduceAdd] at *
    refine Sat.ob ?_ (Sat.ob (decide_eq_true p2) (Sat.ob (decide_eq_true p3) (Sat.ob (decide_eq_true p4) (Sat.ob (df hat.2.1.2.2.1) (Sat.new fun e3 hf=>Sat.ob ?_ (Sat.back rfl ⟨?_,?_⟩))))))
    ·simp only [D.le,D.gQ,D.lt,D.gU,D.eq,D.gV,D.not,D.dU,D.and,D.dV,D.or,D.gW,D.inr,D.var,D.lit,D.dh,D.beq,D.dW,D.dX,D.dY,D.add,D.sub,D.mul,D.min,D.max,D.di,D.bP,D.bQ];omega
    ·simp only [D.le,D.gQ,D.lt,D.gU,D.eq,D.gV,D.not,D.dU,D.and,D.dV,D.or,D.gW,D.inr,D.var,D.lit,D.dh,D.beq,D.dW,D.dX,D.dY,D.add,D.sub,D.mul,D.min,D.max,D.di,D.bP,D.bQ];simp [Env.join];omega
    ·have hf:=hf _ (List.mem_singleton.2 rfl)
     simp only [D.be,D.le,D.gQ,D.lt,D.gU,D.eq,D.gV,D.not,D.dU,D.and,D.dV,D.or,D.gW,D.inr,D.var,D.lit,D.dh,D.beq,D.dW,D.dX,D.dY,D.add,D.sub,D.mul,D.min,D.max,D.di,D.bP,D.bQ] at hf
     simp [Env.join] at hf
     refine ⟨⟨by simp [Sub.ag,assoc,CV.I,CV.B,aj,ak,ae.I,ae.B,SC.I,SC.B,IE.den,BE.den,Env.join];omega,by simp [Sub.ag,assoc,CV.I,CV.B,aj,ak,ae.I,ae.B,SC.I,SC.B,IE.den,BE.den,Env.join];omega⟩,⟨⟨o1,o2,o3,o4⟩,?_⟩,⟨?_,?_⟩⟩
     ·refine Eq.trans (b:=notes q 8) (by exact fq rfl fun i _=>by simp [bq,Sub.ag,assoc,CV.I,CV.B,aj,ak,ae.I,ae.B,SC.I,SC.B,IE.den,BE.den,Env.join]) ?_
      show notes q 8=((notes q 0).take (q.iv 16+1).toNat).filter (fun n=>!qR (lF q 4) n)
      rw [htk,List.filter_append,n1]
      simp [hk]
     ·simp [bz,Sub.ag,assoc,CV.I,CV.B,aj,ak,ae.I,ae.B,SC.I,SC.B,IE.den,BE.den,Env.join]
      omega
     ·refine (kD (ρ:=q) (b:=12) (x:=bq q 3 (q.iv 16).toNat) p2 rfl (fun i hi=>?_) ?_).trans ?_
      ·have:¬(q.iv 13).toNat=i:=by simp only [Nat.reduceAdd] at hi;omega
       simp [bq,Sub.ag,assoc,CV.I,CV.B,aj,ak,ae.I,ae.B,SC.I,SC.B,IE.den,BE.den,Env.join,this]
      ·simp [bq,Sub.ag,assoc,CV.I,CV.B,aj,ak,ae.I,ae.B,SC.I,SC.B,IE.den,BE.den,Env.join]
      ·show notes q 12 ++ _=((notes q 0).take (q.iv 16+1).toNat).filter (qR (lF q 4))
       rw [htk,List.filter_append,n2]
       simp [hk]
    ·show (q.iv 1-(q.iv 16+1)).toNat<(q.iv 1-q.iv 16).toNat
     omega
   ·replace hne:¬zg q (q.iv 16).toNat (q.iv 17).toNat:=fun h=>by
     exact Bool.false_ne_true (hne.symm.trans (by simp only [D.le,D.gQ,D.lt,D.gU,D.eq,D.gV,D.not,D.dU,D.and,D.dV,D.or,D.gW,D.inr,D.var,D.lit,D.dh,D.beq,D.dW,D.dX,D.dY,D.add,D.sub,D.mul,D.min,D.max,D.di,D.bP,D.bQ];exact h))
    refine Sat.ob ?_ (Sat.back rfl ⟨⟨⟨?_,?_⟩,fun j hj=>?_⟩,?_⟩)
    ·simp only [D.le,D.gQ,D.lt,D.gU,D.eq,D.gV,D.not,D.dU,D.and,D.dV,D.or,D.gW,D.inr,D.var,D.lit,D.dh,D.beq,D.dW,D.dX,D.dY,D.add,D.sub,D.mul,D.min,D.max,D.di,D.bP,D.bQ];have:=hpre.2.2.2;omega
    ·show 0≤q.iv 17+1;omega
    ·show q.iv 17+1≤q.iv 5;omega
    ·replace hj:(j:Int)<q.iv 17+1:=hj
     show ¬zg q (q.iv 16).toNat j
     by_cases h:j=(q.iv 17).toNat
     ·subst h;exact hne
     ·exact j3 j (by omega)
    ·show (q.iv 5-(q.iv 17+1)).toNat<(q.iv 5-q.iv 17).toNat
     omega
  ·replace hI2:IK (r.join 17 e2):=hI2
   replace hat:qG (r.join 17 e2):=hat
   replace BH:¬(r.join 17 e2).iv 17<(r.join 17 e2).iv 5:=of_decide_eq_false BH
   rw [show (r.iv 1-r.iv 16).toNat=((r.join 17 e2).iv 1-(r.join 17 e2).iv 16).toNat from rfl]
   clear hpre hlt l1 l2 i1 i2
   generalize r.join 17 e2=q at *
   have hpre:=hat.1
   obtain ⟨⟨i1,i2⟩,-⟩:=hat.2.1
   have hlt:=hat.2.2
   obtain ⟨l1,l2⟩:=hat.lens
   obtain ⟨⟨j1,j2⟩,j3⟩:=hI2
   have hk:qR (lF q 4) (bq q 3 (q.iv 16).toNat)=false:=by
    refine List.any_eq_false.2 fun x hx=>?_
    obtain ⟨j,hj,rfl⟩:=List.mem_map.1 hx
    have hj:=List.mem_range.1 hj
    simp only [Nat.reduceAdd] at hj
    exact ne_true_of_eq_false (decide_eq_false (j3 j (by omega)))
   obtain ⟨⟨o1,o2,o3,o4⟩,n1⟩:=hat.2.1.2.1
   obtain ⟨⟨p1,p2,p3,p4⟩,n2⟩:=hat.2.1.2.2
   have htk:=hat.take
   obtain ⟨_,a5,_,b5⟩:=hpre
   simp only [Nat.reduceAdd] at *
   refine Sat.ob ?_ (Sat.ob (decide_eq_true o2) (Sat.ob (decide_eq_true o3) (Sat.ob (decide_eq_true o4) (Sat.ob (df hat.2.1.2.1.1) (Sat.new fun e3 hf=>Sat.ob ?_ (Sat.back rfl ⟨?_,?_⟩))))))
   ·simp only [D.le,D.gQ,D.lt,D.gU,D.eq,D.gV,D.not,D.dU,D.and,D.dV,D.or,D.gW,D.inr,D.var,D.lit,D.dh,D.beq,D.dW,D.dX,D.dY,D.add,D.sub,D.mul,D.min,D.max,D.di,D.bP,D.bQ];omega
   ·simp only [D.le,D.gQ,D.lt,D.gU,D.eq,D.gV,D.not,D.dU,D.and,D.dV,D.or,D.gW,D.inr,D.var,D.lit,D.dh,D.beq,D.dW,D.dX,D.dY,D.add,D.sub,D.mul,D.min,D.max,D.di,D.bP,D.bQ];simp [Env.join];omega
   ·have hf:=hf _ (List.mem_singleton.2 rfl)
    simp only [D.be,D.le,D.gQ,D.lt,D.gU,D.eq,D.gV,D.not,D.dU,D.and,D.dV,D.or,D.gW,D.inr,D.var,D.lit,D.dh,D.beq,D.dW,D.dX,D.dY,D.add,D.sub,D.mul,D.min,D.max,D.di,D.bP,D.bQ] at hf
    simp [Env.join] at hf
    refine ⟨⟨by simp [Sub.ag,assoc,CV.I,CV.B,aj,ak,ae.I,ae.B,SC.I,SC.B,IE.den,BE.den,Env.join];omega,by simp [Sub.ag,assoc,CV.I,CV.B,aj,ak,ae.I,ae.B,SC.I,SC.B,IE.den,BE.den,Env.join];omega⟩,⟨?_,?_⟩,⟨⟨p1,p2,p3,p4⟩,?_⟩⟩
    ·simp [bz,Sub.ag,assoc,CV.I,CV.B,aj,ak,ae.I,ae.B,SC.I,SC.B,IE.den,BE.den,Env.join]
     omega
    ·refine (kD (ρ:=q) (b:=8) (x:=bq q 3 (q.iv 16).toNat) o2 rfl (fun i hi=>?_) ?_).trans ?_
     ·have:¬(q.iv 9).toNat=i:=by simp only [Nat.reduceAdd] at hi;omega
      simp [bq,Sub.ag,assoc,CV.I,CV.B,aj,ak,ae.I,ae.B,SC.I,SC.B,IE.den,BE.den,Env.join,this]
     ·simp [bq,Sub.ag,assoc,CV.I,CV.B,aj,ak,ae.I,ae.B,SC.I,SC.B,IE.den,BE.den,Env.join]
     ·show notes q 8 ++ _=((notes q 0).take (q.iv 16+1).toNat).filter (fun n=>!qR (lF q 4) n)
      rw [htk,List.filter_append,n1]
      simp [hk]
    ·refine Eq.trans (b:=notes q 12) (by exact fq rfl fun i _=>by simp [bq,Sub.ag,assoc,CV.I,CV.B,aj,ak,ae.I,ae.B,SC.I,SC.B,IE.den,BE.den,Env.join]) ?_
     show notes q 12=((notes q 0).take (q.iv 16+1).toNat).filter (qR (lF q 4))
     rw [htk,List.filter_append,n2]
     simp [hk]
   ·show (q.iv 1-(q.iv 16+1)).toNat<(q.iv 1-q.iv 16).toNat
    omega
 ·replace hpre:mY (ρ.join 8 e):=hpre
  replace hI:uo (ρ.join 8 e):=hI
  replace hge:¬(ρ.join 8 e).iv 16<(ρ.join 8 e).iv 1:=of_decide_eq_false hge
  generalize ρ.join 8 e=q at *
  obtain ⟨⟨i1,i2⟩,⟨o,n1⟩,⟨p,n2⟩⟩:=hI
  rw [su _ _ (by simp only [Nat.zero_add];omega)] at n1 n2
  refine Sat.fin ⟨o,?_,p,?_⟩
  ·exact Eq.trans (b:=notes q 8) (by exact fq rfl fun i _=>by simp [bq,Sub.ag,assoc,CV.I,CV.B,aj,ak,ae.I,ae.B,SC.I,SC.B,IE.den,BE.den,Env.join]) n1
  ·exact Eq.trans (b:=notes q 12) (by exact fq rfl fun i _=>by simp [bq,Sub.ag,assoc,CV.I,CV.B,aj,ak,ae.I,ae.B,SC.I,SC.B,IE.den,BE.den,Env.join]) n2
theorem Vo:bg Tryz.prog lW mY Kc :=
 dA dO (E:=Vl) (cs:=[]) rfl (fun k pre post h=>by cases h) bX rfl Vm (by kernel_rfl) (fun ρ _ p hp=>by cases hp) Vn
noncomputable def aaf:Ex:={sched:=sched,loops:=[RZ,af2],fin:=nK}
def IL:Out :=
 .ob (.or (.not (.var 0)) (.aA (.var 1) y0)) <|
 .ob (.ai y0 (.var 1)) <|
 .loop 8 {lo:=8,ah:=3,iv:=Sc,bv:=Sd,nb:=[4,3]} <|
 .br (.bO (.var 16) (.var 1))
 (.ob (.not (.var 0)) <|
  .ob (.ai y0 (.var 16)) <|
  .ob (.or (.not (.var 4)) (.aA (.var 5) y0)) <|
  .ob (.ai y0 (.var 5)) <|
  .loop 17 {lo:=17,ah:=7,iv:=[yz 17]} <|
  .br (.bO (.var 17) (.var 5))
  (.ob (.not (.var 4)) <|
   .ob (.ai y0 (.var 17)) <|
   .br (.and (.and (.bO y0 (.cell 7 (.var 17) y0 0)) (.ai (.cell 3 (.var 16) y0 5) (.cell 7 (.var 17) y0 0))) (.ai (.cell 7 (.var 17) y0 0) (.cell 3 (.var 16) y0 6)))
   (.ob (.ai (.mul (.add (.var 13) y1) (.lit 56)) (.lit 140737488355328)) <|
    .ob (.ai y0 (.var 13)) <|
    .ob (.ai (.var 13) (.var 14)) <|
    .ob (.ai (.var 14) (.lit 9223372036854775807)) <|
    .ob (.or (.not (.var 12)) (.aA (.var 13) y0)) <|
    .new 18 [.be (.and (.ai (.add (.var 13) y1) (.var 18)) (.ai (.var 18) (.lit 9223372036854775807)))] <|
    .ob (.inr .i64 (.add (.var 16) y1)) <|
    .back 1 {lo:=8,ah:=3,iv:=Yf,bv:=Sg,ct:=Si,bk:=[(4,yc 8 7),(3,yc 3 7)]})
   (.ob (.inr .i64 (.add (.var 17) y1)) <|
    .back 0 {lo:=17,ah:=7,iv:=[(17,.add (.var 17) y1)]}))
  (.ob (.ai (.mul (.add (.var 9) y1) (.lit 56)) (.lit 140737488355328)) <|
   .ob (.ai y0 (.var 9)) <|
   .ob (.ai (.var 9) (.var 10)) <|
   .ob (.ai (.var 10) (.lit 9223372036854775807)) <|
   .ob (.or (.not (.var 8)) (.aA (.var 9) y0)) <|
   .new 18 [.be (.and (.ai (.add (.var 9) y1) (.var 18)) (.ai (.var 18) (.lit 9223372036854775807)))] <|
   .ob (.inr .i64 (.add (.var 16) y1)) <|
   .back 1 {lo:=8,ah:=3,iv:=Yg,bv:=Sj,ct:=Sk,bk:=[(4,yc 4 7),(3,yc 8 7)]}))
 (.fin {lo:=8,ah:=2,iv:=Sl,bv:=[(12,yw 12),(8,yw 8)],ct:=Sn,bk:=[(3,yc 4 7),(2,yc 3 7)]})
theorem Yh:exec tab aaf 4000 [] (fE nK.f 8 [] [] nK.hp nK.args)=IL:=by kernel_rfl
def C9 (ρ:Env) (i j:Nat):Prop:=(0<ρ.ic 7 j 0 0∧ρ.ic 3 i 0 5≤ρ.ic 7 j 0 0)∧ρ.ic 7 j 0 0≤ρ.ic 3 i 0 6
def oW (ρ:Env):Prop:=bz ρ 0∧ρ.iv 1≤1000000∧bz ρ 4∧ρ.iv 5≤1000000
def Ni (ρ:Env):Prop:=bz ρ 8∧notes ρ 8=(notes ρ 0).filter (fun n=>!nL (lF ρ 4) n)∧bz ρ 12∧notes ρ 12=(notes ρ 0).filter (nL (lF ρ 4))
def xw (ρ:Env):Prop:=(0≤ρ.iv 16∧ρ.iv 16≤ρ.iv 1)∧(bz ρ 8∧notes ρ 8=((notes ρ 0).take (ρ.iv 16).toNat).filter (fun n=>!nL (lF ρ 4) n))∧bz ρ 12∧notes ρ 12=((notes ρ 0).take (ρ.iv 16).toNat).filter (nL (lF ρ 4))
def Nj (ρ:Env):Prop:=(0≤ρ.iv 17∧ρ.iv 17≤ρ.iv 5)∧∀j:Nat,(j:Int)<ρ.iv 17→¬C9 ρ (ρ.iv 16).toNat j
def uq (ρ:Env):Prop:=oW ρ∧xw ρ∧ρ.iv 16<ρ.iv 1
theorem uq.lens {ρ:Env} (h:uq ρ):ρ.iv 9≤ρ.iv 16∧ρ.iv 13≤ρ.iv 16:=by
 obtain ⟨⟨a1,a5,b1,b5⟩,⟨⟨i1,i2⟩,⟨⟨o1,o2,o3,o4⟩,n1⟩,⟨⟨p1,p2,p3,p4⟩,n2⟩⟩,hlt⟩:=h
 have l1:(notes ρ 8).length≤(ρ.iv 16).toNat:=by
  rw [n1];refine Nat.le_trans (List.length_filter_le _ _) ?_;rw [List.length_take];omega
 have l2:(notes ρ 12).length≤(ρ.iv 16).toNat:=by
  rw [n2];refine Nat.le_trans (List.length_filter_le _ _) ?_;rw [List.length_take];omega
 rw [lD] at l1 l2
 simp only [Nat.reduceAdd] at *
 omega
theorem uq.take {ρ:Env} (h:uq ρ):(notes ρ 0).take (ρ.iv 16+1).toNat=(notes ρ 0).take (ρ.iv 16).toNat ++ [bq ρ 3 (ρ.iv 16).toNat]:=by
 obtain ⟨_,⟨⟨i1,i2⟩,_⟩,hlt⟩:=h
 rw [show (ρ.iv 16+1).toNat=(ρ.iv 16).toNat+1 by omega]
 exact sj (b:=0) (by simp only [Nat.zero_add];omega)
theorem Yi (ρ:Env) (hpre:oW ρ.num):Sat Ni [] [] ρ IL:=by
 replace hpre:oW ρ:=hpre
 unfold IL
 refine Sat.ob (df hpre.1) (Sat.ob (decide_eq_true hpre.1.2.1) (Sat.loop xw (fun r=>(r.iv 1-r.iv 16).toNat) ?_ fun e hI=>Sat.br (fun hlt=>?_) (fun hge=>?_)))
 ·have h2:=hpre.1.2.1
  simp [xw,bz,notes,Sub.ag,assoc,CV.I,CV.B,aj,ak,ae.I,ae.B,SC.I,SC.B,IE.den,BE.den,h2]
 ·replace hpre:oW (ρ.join 8 e):=hpre
  replace hI:xw (ρ.join 8 e):=hI
  replace hlt:(ρ.join 8 e).iv 16<(ρ.join 8 e).iv 1:=of_decide_eq_true hlt
  have hat:uq (ρ.join 8 e):=⟨hpre,hI,hlt⟩
  clear hpre hI hlt
  have hm:((ρ.join 8 e).num.iv 1-(ρ.join 8 e).num.iv 16).toNat=((ρ.join 8 e).iv 1-(ρ.join 8 e).iv 16).toNat:=rfl
  rw [hm]
  clear hm
  generalize ρ.join 8 e=r at *
  have hpre:=hat.1
  obtain ⟨⟨i1,i2⟩,-⟩:=hat.2.1
  have hlt:=hat.2.2
  obtain ⟨l1,l2⟩:=hat.lens
  refine Sat.ob ?_ (Sat.ob (decide_eq_true i1) (Sat.ob (df hpre.2.2.1) (Sat.ob (decide_eq_true hpre.2.2.1.2.1) (Sat.loop Nj (fun r=>(r.iv 5-r.iv 17).toNat) ?_ fun e2 hI2=>Sat.br (fun hlt2=>?_) (fun BH=>?_)))))
  ·simp only [D.le,D.gQ,D.lt,D.gU,D.eq,D.gV,D.not,D.dU,D.and,D.dV,D.or,D.gW,D.inr,D.var,D.lit,D.dh,D.beq,D.dW,D.dX,D.dY,D.add,D.sub,D.mul,D.min,D.max,D.di,D.bP,D.bQ]
   cases h:r.bv 0
   ·rfl
   ·have:=hpre.1.1 h
    simp only [Nat.zero_add] at this
    omega
  ·refine ⟨⟨Int.le_refl 0,hpre.2.2.1.2.1⟩,fun j hj=>?_⟩
   have:(j:Int)<0:=hj
   omega
  ·replace hI2:Nj (r.join 17 e2):=hI2
   replace hat:uq (r.join 17 e2):=hat
   replace hlt2:(r.join 17 e2).iv 17<(r.join 17 e2).iv 5:=of_decide_eq_true hlt2
   rw [show (r.iv 1-r.iv 16).toNat=((r.join 17 e2).iv 1-(r.join 17 e2).iv 16).toNat from rfl]
   rw [show ((r.join 17 e2).num.iv 5-(r.join 17 e2).num.iv 17).toNat=((r.join 17 e2).iv 5-(r.join 17 e2).iv 17).toNat from rfl]
   clear hpre hlt l1 l2 i1 i2
   generalize r.join 17 e2=q at *
   have hpre:=hat.1
   obtain ⟨⟨i1,i2⟩,-⟩:=hat.2.1
   have hlt:=hat.2.2
   obtain ⟨l1,l2⟩:=hat.lens
   obtain ⟨⟨j1,j2⟩,j3⟩:=hI2
   refine Sat.ob ?_ (Sat.ob (decide_eq_true j1) (Sat.br (fun heq=>?_) (fun hne=>?_)))
   ·simp only [D.le,D.gQ,D.lt,D.gU,D.eq,D.gV,D.not,D.dU,D.and,D.dV,D.or,D.gW,D.inr,D.var,D.lit,D.dh,D.beq,D.dW,D.dX,D.dY,D.add,D.sub,D.mul,D.min,D.max,D.di,D.bP,D.bQ]
    cases h:q.bv 4
    ·rfl
    ·have:=hpre.2.2.1.1 h
     simp only [Nat.reduceAdd] at this
     omega
   ·replace heq:C9 q (q.iv 16).toNat (q.iv 17).toNat:=by simp only [D.le,D.gQ,D.lt,D.gU,D.eq,D.gV,D.not,D.dU,D.and,D.dV,D.or,D.gW,D.inr,D.var,D.lit,D.dh,D.beq,D.dW,D.dX,D.dY,D.add,D.sub,D.mul,D.min,D.max,D.di,D.bP,D.bQ] at heq;exact heq
    have hk:nL (lF q 4) (bq q 3 (q.iv 16).toNat)=true:=by
     refine List.any_eq_true.2 ⟨_,List.mem_map.2 ⟨(q.iv 17).toNat,List.mem_range.2 (by simp only [Nat.reduceAdd];omega),rfl⟩,decide_eq_true heq⟩
    obtain ⟨⟨o1,o2,o3,o4⟩,n1⟩:=hat.2.1.2.1
    obtain ⟨⟨p1,p2,p3,p4⟩,n2⟩:=hat.2.1.2.2
    have htk:=hat.take
    obtain ⟨_,a5,_,b5⟩:=hpre
    simp only [Nat.reduceAdd] at *
    refine Sat.ob ?_ (Sat.ob (decide_eq_true p2) (Sat.ob (decide_eq_true p3) (Sat.ob (decide_eq_true p4) (Sat.ob (df hat.2.1.2.2.1) (Sat.new fun e3 hf=>Sat.ob ?_ (Sat.back rfl ⟨?_,?_⟩))))))
    ·simp only [D.le,D.gQ,D.lt,D.gU,D.eq,D.gV,D.not,D.dU,D.and,D.dV,D.or,D.gW,D.inr,D.var,D.lit,D.dh,D.beq,D.dW,D.dX,D.dY,D.add,D.sub,D.mul,D.min,D.max,D.di,D.bP,D.bQ];omega
    ·simp only [D.le,D.gQ,D.lt,D.gU,D.eq,D.gV,D.not,D.dU,D.and,D.dV,D.or,D.gW,D.inr,D.var,D.lit,D.dh,D.beq,D.dW,D.dX,D.dY,D.add,D.sub,D.mul,D.min,D.max,D.di,D.bP,D.bQ];simp [Env.join];omega
    ·have hf:=hf _ (List.mem_singleton.2 rfl)
     simp only [D.be,D.le,D.gQ,D.lt,D.gU,D.eq,D.gV,D.not,D.dU,D.and,D.dV,D.or,D.gW,D.inr,D.var,D.lit,D.dh,D.beq,D.dW,D.dX,D.dY,D.add,D.sub,D.mul,D.min,D.max,D.di,D.bP,D.bQ] at hf
     simp [Env.join] at hf
     refine ⟨⟨by simp [Sub.ag,assoc,CV.I,CV.B,aj,ak,ae.I,ae.B,SC.I,SC.B,IE.den,BE.den,Env.join];omega,by simp [Sub.ag,assoc,CV.I,CV.B,aj,ak,ae.I,ae.B,SC.I,SC.B,IE.den,BE.den,Env.join];omega⟩,⟨⟨o1,o2,o3,o4⟩,?_⟩,⟨?_,?_⟩⟩
     ·refine Eq.trans (b:=notes q 8) (by exact fq rfl fun i _=>by simp [bq,Sub.ag,assoc,CV.I,CV.B,aj,ak,ae.I,ae.B,SC.I,SC.B,IE.den,BE.den,Env.join]) ?_
      show notes q 8=((notes q 0).take (q.iv 16+1).toNat).filter (fun n=>!nL (lF q 4) n)
      rw [htk,List.filter_append,n1]
      simp [hk]
     ·simp [bz,Sub.ag,assoc,CV.I,CV.B,aj,ak,ae.I,ae.B,SC.I,SC.B,IE.den,BE.den,Env.join]
      omega
     ·refine (kD (ρ:=q) (b:=12) (x:=bq q 3 (q.iv 16).toNat) p2 rfl (fun i hi=>?_) ?_).trans ?_
      ·have:¬(q.iv 13).toNat=i:=by simp only [Nat.reduceAdd] at hi;omega
       simp [bq,Sub.ag,assoc,CV.I,CV.B,aj,ak,ae.I,ae.B,SC.I,SC.B,IE.den,BE.den,Env.join,this]
      ·simp [bq,Sub.ag,assoc,CV.I,CV.B,aj,ak,ae.I,ae.B,SC.I,SC.B,IE.den,BE.den,Env.join]
      ·show notes q 12 ++ _=((notes q 0).take (q.iv 16+1).toNat).filter (nL (lF q 4))
       rw [htk,List.filter_append,n2]
       simp [hk]
    ·show (q.iv 1-(q.iv 16+1)).toNat<(q.iv 1-q.iv 16).toNat
     omega
   ·replace hne:¬C9 q (q.iv 16).toNat (q.iv 17).toNat:=fun h=>by
     exact Bool.false_ne_true (hne.symm.trans (by simp only [D.le,D.gQ,D.lt,D.gU,D.eq,D.gV,D.not,D.dU,D.and,D.dV,D.or,D.gW,D.inr,D.var,D.lit,D.dh,D.beq,D.dW,D.dX,D.dY,D.add,D.sub,D.mul,D.min,D.max,D.di,D.bP,D.bQ];exact h))
    refine Sat.ob ?_ (Sat.back rfl ⟨⟨⟨?_,?_⟩,fun j hj=>?_⟩,?_⟩)
    ·simp only [D.le,D.gQ,D.lt,D.gU,D.eq,D.gV,D.not,D.dU,D.and,D.dV,D.or,D.gW,D.inr,D.var,D.lit,D.dh,D.beq,D.dW,D.dX,D.dY,D.add,D.sub,D.mul,D.min,D.max,D.di,D.bP,D.bQ];have:=hpre.2.2.2;omega
    ·show 0≤q.iv 17+1;omega
    ·show q.iv 17+1≤q.iv 5;omega
    ·replace hj:(j:Int)<q.iv 17+1:=hj
     show ¬C9 q (q.iv 16).toNat j
     by_cases h:j=(q.iv 17).toNat
     ·subst h;exact hne
     ·exact j3 j (by omega)
    ·show (q.iv 5-(q.iv 17+1)).toNat<(q.iv 5-q.iv 17).toNat
     omega
  ·replace hI2:Nj (r.join 17 e2):=hI2
   replace hat:uq (r.join 17 e2):=hat
   replace BH:¬(r.join 17 e2).iv 17<(r.join 17 e2).iv 5:=of_decide_eq_false BH
   rw [show (r.iv 1-r.iv 16).toNat=((r.join 17 e2).iv 1-(r.join 17 e2).iv 16).toNat from rfl]
   clear hpre hlt l1 l2 i1 i2
   generalize r.join 17 e2=q at *
   have hpre:=hat.1
   obtain ⟨⟨i1,i2⟩,-⟩:=hat.2.1
   have hlt:=hat.2.2
   obtain ⟨l1,l2⟩:=hat.lens
   obtain ⟨⟨j1,j2⟩,j3⟩:=hI2
   have hk:nL (lF q 4) (bq q 3 (q.iv 16).toNat)=false:=by
    refine List.any_eq_false.2 fun x hx=>?_
    obtain ⟨j,hj,rfl⟩:=List.mem_map.1 hx
    have hj:=List.mem_range.1 hj
    simp only [Nat.reduceAdd] at hj
    exact ne_true_of_eq_false (decide_eq_false (j3 j (by omega)))
   obtain ⟨⟨o1,o2,o3,o4⟩,n1⟩:=hat.2.1.2.1
   obtain ⟨⟨p1,p2,p3,p4⟩,n2⟩:=hat.2.1.2.2
   have htk:=hat.take
   obtain ⟨_,a5,_,b5⟩:=hpre
   simp only [Nat.reduceAdd] at *
   refine Sat.ob ?_ (Sat.ob (decide_eq_true o2) (Sat.ob (decide_eq_true o3) (Sat.ob (decide_eq_true o4) (Sat.ob (df hat.2.1.2.1.1) (Sat.new fun e3 hf=>Sat.ob ?_ (Sat.back rfl ⟨?_,?_⟩))))))
   ·simp only [D.le,D.gQ,D.lt,D.gU,D.eq,D.gV,D.not,D.dU,D.and,D.dV,D.or,D.gW,D.inr,D.var,D.lit,D.dh,D.beq,D.dW,D.dX,D.dY,D.add,D.sub,D.mul,D.min,D.max,D.di,D.bP,D.bQ];omega
   ·simp only [D.le,D.gQ,D.lt,D.gU,D.eq,D.gV,D.not,D.dU,D.and,D.dV,D.or,D.gW,D.inr,D.var,D.lit,D.dh,D.beq,D.dW,D.dX,D.dY,D.add,D.sub,D.mul,D.min,D.max,D.di,D.bP,D.bQ];simp [Env.join];omega
   ·have hf:=hf _ (List.mem_singleton.2 rfl)
    simp only [D.be,D.le,D.gQ,D.lt,D.gU,D.eq,D.gV,D.not,D.dU,D.and,D.dV,D.or,D.gW,D.inr,D.var,D.lit,D.dh,D.beq,D.dW,D.dX,D.dY,D.add,D.sub,D.mul,D.min,D.max,D.di,D.bP,D.bQ] at hf
    simp [Env.join] at hf
    refine ⟨⟨by simp [Sub.ag,assoc,CV.I,CV.B,aj,ak,ae.I,ae.B,SC.I,SC.B,IE.den,BE.den,Env.join];omega,by simp [Sub.ag,assoc,CV.I,CV.B,aj,ak,ae.I,ae.B,SC.I,SC.B,IE.den,BE.den,Env.join];omega⟩,⟨?_,?_⟩,⟨⟨p1,p2,p3,p4⟩,?_⟩⟩
    ·simp [bz,Sub.ag,assoc,CV.I,CV.B,aj,ak,ae.I,ae.B,SC.I,SC.B,IE.den,BE.den,Env.join]
     omega
    ·refine (kD (ρ:=q) (b:=8) (x:=bq q 3 (q.iv 16).toNat) o2 rfl (fun i hi=>?_) ?_).trans ?_
     ·have:¬(q.iv 9).toNat=i:=by simp only [Nat.reduceAdd] at hi;omega
      simp [bq,Sub.ag,assoc,CV.I,CV.B,aj,ak,ae.I,ae.B,SC.I,SC.B,IE.den,BE.den,Env.join,this]
     ·simp [bq,Sub.ag,assoc,CV.I,CV.B,aj,ak,ae.I,ae.B,SC.I,SC.B,IE.den,BE.den,Env.join]
     ·show notes q 8 ++ _=((notes q 0).take (q.iv 16+1).toNat).filter (fun n=>!nL (lF q 4) n)
      rw [htk,List.filter_append,n1]
      simp [hk]
    ·refine Eq.trans (b:=notes q 12) (by exact fq rfl fun i _=>by simp [bq,Sub.ag,assoc,CV.I,CV.B,aj,ak,ae.I,ae.B,SC.I,SC.B,IE.den,BE.den,Env.join]) ?_
     show notes q 12=((notes q 0).take (q.iv 16+1).toNat).filter (nL (lF q 4))
     rw [htk,List.filter_append,n2]
     simp [hk]
   ·show (q.iv 1-(q.iv 16+1)).toNat<(q.iv 1-q.iv 16).toNat
    omega
 ·replace hpre:oW (ρ.join 8 e):=hpre
  replace hI:xw (ρ.join 8 e):=hI
  replace hge:¬(ρ.join 8 e).iv 16<(ρ.join 8 e).iv 1:=of_decide_eq_false hge
  generalize ρ.join 8 e=q at *
  obtain ⟨⟨i1,i2⟩,⟨o,n1⟩,⟨p,n2⟩⟩:=hI
  rw [su _ _ (by simp only [Nat.zero_add];omega)] at n1 n2
  refine Sat.fin ⟨o,?_,p,?_⟩
  ·exact Eq.trans (b:=notes q 8) (by exact fq rfl fun i _=>by simp [bq,Sub.ag,assoc,CV.I,CV.B,aj,ak,ae.I,ae.B,SC.I,SC.B,IE.den,BE.den,Env.join]) n1
  ·exact Eq.trans (b:=notes q 12) (by exact fq rfl fun i _=>by simp [bq,Sub.ag,assoc,CV.I,CV.B,aj,ak,ae.I,ae.B,SC.I,SC.B,IE.den,BE.den,Env.join]) n2
theorem Yj:bg Tryz.prog nK oW Ni :=
 dA dO (E:=aaf) (cs:=[]) rfl (fun k pre post h=>by cases h) bX rfl Yh (by kernel_rfl) (fun ρ _ p hp=>by cases hp) Yi
noncomputable def Vp:Ex:={sched:=sched,loops:=[RZ,abH],fin:=lX}
def EG:Out :=
 .ob (.or (.not (.var 0)) (.aA (.var 1) y0)) <|
 .ob (.ai y0 (.var 1)) <|
 .loop 8 {lo:=8,ah:=3,iv:=Sc,bv:=Sd,nb:=[4,3]} <|
 .br (.bO (.var 16) (.var 1))
 (.ob (.not (.var 0)) <|
  .ob (.ai y0 (.var 16)) <|
  .ob (.or (.not (.var 4)) (.aA (.var 5) y0)) <|
  .ob (.ai y0 (.var 5)) <|
  .loop 17 {lo:=17,ah:=7,iv:=[yz 17]} <|
  .br (.bO (.var 17) (.var 5))
  (.ob (.not (.var 4)) <|
   .ob (.ai y0 (.var 17)) <|
   .br (.and (.and (.cell 7 (.var 17) y0 0) (.ai (.cell 7 (.var 17) y0 1) (.cell 3 (.var 16) y0 6))) (.ai (.cell 3 (.var 16) y0 5) (.cell 7 (.var 17) y0 2)))
   (.ob (.ai (.mul (.add (.var 13) y1) (.lit 56)) (.lit 140737488355328)) <|
    .ob (.ai y0 (.var 13)) <|
    .ob (.ai (.var 13) (.var 14)) <|
    .ob (.ai (.var 14) (.lit 9223372036854775807)) <|
    .ob (.or (.not (.var 12)) (.aA (.var 13) y0)) <|
    .new 18 [.be (.and (.ai (.add (.var 13) y1) (.var 18)) (.ai (.var 18) (.lit 9223372036854775807)))] <|
    .ob (.inr .i64 (.add (.var 16) y1)) <|
    .back 1 {lo:=8,ah:=3,iv:=Yf,bv:=Sg,ct:=Si,bk:=[(4,yc 9 7),(3,yc 3 7)]})
   (.ob (.inr .i64 (.add (.var 17) y1)) <|
    .back 0 {lo:=17,ah:=7,iv:=[(17,.add (.var 17) y1)]}))
  (.ob (.ai (.mul (.add (.var 9) y1) (.lit 56)) (.lit 140737488355328)) <|
   .ob (.ai y0 (.var 9)) <|
   .ob (.ai (.var 9) (.var 10)) <|
   .ob (.ai (.var 10) (.lit 9223372036854775807)) <|
   .ob (.or (.not (.var 8)) (.aA (.var 9) y0)) <|
   .new 18 [.be (.and (.ai (.add (.var 9) y1) (.var 18)) (.ai (.var 18) (.lit 9223372036854775807)))] <|
   .ob (.inr .i64 (.add (.var 16) y1)) <|
   .back 1 {lo:=8,ah:=3,iv:=Yg,bv:=Sj,ct:=Sk,bk:=[(4,yc 4 7),(3,yc 8 7)]}))
 (.fin {lo:=8,ah:=2,iv:=Sl,bv:=[(12,yw 12),(8,yw 8)],ct:=Sn,bk:=[(3,yc 4 7),(2,yc 3 7)]})
theorem Vq:exec tab Vp 4000 [] (fE lX.f 8 [] [] lX.hp lX.args)=EG:=by kernel_rfl
def zh (ρ:Env) (i j:Nat):Prop:=(ρ.bc 7 j 0 0=true∧ρ.ic 7 j 0 1≤ρ.ic 3 i 0 6)∧ρ.ic 3 i 0 5≤ρ.ic 7 j 0 2
def mZ (ρ:Env):Prop:=bz ρ 0∧ρ.iv 1≤1000000∧bz ρ 4∧ρ.iv 5≤1000000
def Ke (ρ:Env):Prop:=bz ρ 8∧notes ρ 8=(notes ρ 0).filter (fun n=>!qU (wD ρ 4) n)∧bz ρ 12∧notes ρ 12=(notes ρ 0).filter (qU (wD ρ 4))
def uu (ρ:Env):Prop:=(0≤ρ.iv 16∧ρ.iv 16≤ρ.iv 1)∧(bz ρ 8∧notes ρ 8=((notes ρ 0).take (ρ.iv 16).toNat).filter (fun n=>!qU (wD ρ 4) n))∧bz ρ 12∧notes ρ 12=((notes ρ 0).take (ρ.iv 16).toNat).filter (qU (wD ρ 4))
def IM (ρ:Env):Prop:=(0≤ρ.iv 17∧ρ.iv 17≤ρ.iv 5)∧∀j:Nat,(j:Int)<ρ.iv 17→¬zh ρ (ρ.iv 16).toNat j
def qH (ρ:Env):Prop:=mZ ρ∧uu ρ∧ρ.iv 16<ρ.iv 1
theorem qH.lens {ρ:Env} (h:qH ρ):ρ.iv 9≤ρ.iv 16∧ρ.iv 13≤ρ.iv 16:=by
 obtain ⟨⟨a1,a5,b1,b5⟩,⟨⟨i1,i2⟩,⟨⟨o1,o2,o3,o4⟩,n1⟩,⟨⟨p1,p2,p3,p4⟩,n2⟩⟩,hlt⟩:=h
 have l1:(notes ρ 8).length≤(ρ.iv 16).toNat:=by
  rw [n1];refine Nat.le_trans (List.length_filter_le _ _) ?_;rw [List.length_take];omega
 have l2:(notes ρ 12).length≤(ρ.iv 16).toNat:=by
  rw [n2];refine Nat.le_trans (List.length_filter_le _ _) ?_;rw [List.length_take];omega
 rw [lD] at l1 l2
 simp only [Nat.reduceAdd] at *
 omega
theorem qH.take {ρ:Env} (h:qH ρ):(notes ρ 0).take (ρ.iv 16+1).toNat=(notes ρ 0).take (ρ.iv 16).toNat ++ [bq ρ 3 (ρ.iv 16).toNat]:=by
 obtain ⟨_,⟨⟨i1,i2⟩,_⟩,hlt⟩:=h
 rw [show (ρ.iv 16+1).toNat=(ρ.iv 16).toNat+1 by omega]
 exact sj (b:=0) (by simp only [Nat.zero_add];omega)
theorem Vr (ρ:Env) (hpre:mZ ρ.num):Sat Ke [] [] ρ EG:=by
 replace hpre:mZ ρ:=hpre
 unfold EG
 refine Sat.ob (df hpre.1) (Sat.ob (decide_eq_true hpre.1.2.1) (Sat.loop uu (fun r=>(r.iv 1-r.iv 16).toNat) ?_ fun e hI=>Sat.br (fun hlt=>?_) (fun hge=>?_)))
 ·have h2:=hpre.1.2.1
  simp [uu,bz,notes,Sub.ag,assoc,CV.I,CV.B,aj,ak,ae.I,ae.B,SC.I,SC.B,IE.den,BE.den,h2]
 ·replace hpre:mZ (ρ.join 8 e):=hpre
  replace hI:uu (ρ.join 8 e):=hI
  replace hlt:(ρ.join 8 e).iv 16<(ρ.join 8 e).iv 1:=of_decide_eq_true hlt
  have hat:qH (ρ.join 8 e):=⟨hpre,hI,hlt⟩
  clear hpre hI hlt
  have hm:((ρ.join 8 e).num.iv 1-(ρ.join 8 e).num.iv 16).toNat=((ρ.join 8 e).iv 1-(ρ.join 8 e).iv 16).toNat:=rfl
  rw [hm]
  clear hm
  generalize ρ.join 8 e=r at *
  have hpre:=hat.1
  obtain ⟨⟨i1,i2⟩,-⟩:=hat.2.1
  have hlt:=hat.2.2
  obtain ⟨l1,l2⟩:=hat.lens
  refine Sat.ob ?_ (Sat.ob (decide_eq_true i1) (Sat.ob (df hpre.2.2.1) (Sat.ob (decide_eq_true hpre.2.2.1.2.1) (Sat.loop IM (fun r=>(r.iv 5-r.iv 17).toNat) ?_ fun e2 hI2=>Sat.br (fun hlt2=>?_) (fun BH=>?_)))))
  ·simp only [D.le,D.gQ,D.lt,D.gU,D.eq,D.gV,D.not,D.dU,D.and,D.dV,D.or,D.gW,D.inr,D.var,D.lit,D.dh,D.beq,D.dW,D.dX,D.dY,D.add,D.sub,D.mul,D.min,D.max,D.di,D.bP,D.bQ]
   cases h:r.bv 0
   ·rfl
   ·have:=hpre.1.1 h
    simp only [Nat.zero_add] at this
    omega
  ·refine ⟨⟨Int.le_refl 0,hpre.2.2.1.2.1⟩,fun j hj=>?_⟩
   have:(j:Int)<0:=hj
   omega
  ·replace hI2:IM (r.join 17 e2):=hI2
   replace hat:qH (r.join 17 e2):=hat
   replace hlt2:(r.join 17 e2).iv 17<(r.join 17 e2).iv 5:=of_decide_eq_true hlt2
   rw [show (r.iv 1-r.iv 16).toNat=((r.join 17 e2).iv 1-(r.join 17 e2).iv 16).toNat from rfl]
   rw [show ((r.join 17 e2).num.iv 5-(r.join 17 e2).num.iv 17).toNat=((r.join 17 e2).iv 5-(r.join 17 e2).iv 17).toNat from rfl]
   clear hpre hlt l1 l2 i1 i2
   generalize r.join 17 e2=q at *
   have hpre:=hat.1
   obtain ⟨⟨i1,i2⟩,-⟩:=hat.2.1
   have hlt:=hat.2.2
   obtain ⟨l1,l2⟩:=hat.lens
   obtain ⟨⟨j1,j2⟩,j3⟩:=hI2
   refine Sat.ob ?_ (Sat.ob (decide_eq_true j1) (Sat.br (fun heq=>?_) (fun hne=>?_)))
   ·simp only [D.le,D.gQ,D.lt,D.gU,D.eq,D.gV,D.not,D.dU,D.and,D.dV,D.or,D.gW,D.inr,D.var,D.lit,D.dh,D.beq,D.dW,D.dX,D.dY,D.add,D.sub,D.mul,D.min,D.max,D.di,D.bP,D.bQ]
    cases h:q.bv 4
    ·rfl
    ·have:=hpre.2.2.1.1 h
     simp only [Nat.reduceAdd] at this
     omega
   ·replace heq:zh q (q.iv 16).toNat (q.iv 17).toNat:=by simp only [D.le,D.gQ,D.lt,D.gU,D.eq,D.gV,D.not,D.dU,D.and,D.dV,D.or,D.gW,D.inr,D.var,D.lit,D.dh,D.beq,D.dW,D.dX,D.dY,D.add,D.sub,D.mul,D.min,D.max,D.di,D.bP,D.bQ] at heq;exact heq
    have hk:qU (wD q 4) (bq q 3 (q.iv 16).toNat)=true:=by
     refine List.any_eq_true.2 ⟨_,List.mem_map.2 ⟨(q.iv 17).toNat,List.mem_range.2 (by simp only [Nat.reduceAdd];omega),rfl⟩,decide_eq_true heq⟩
    obtain ⟨⟨o1,o2,o3,o4⟩,n1⟩:=hat.2.1.2.1
    obtain ⟨⟨p1,p2,p3,p4⟩,n2⟩:=hat.2.1.2.2
    have htk:=hat.take
    obtain ⟨_,a5,_,b5⟩:=hpre
    simp only [Nat.reduceAdd] at *
    refine Sat.ob ?_ (Sat.ob (decide_eq_true p2) (Sat.ob (decide_eq_true p3) (Sat.ob (decide_eq_true p4) (Sat.ob (df hat.2.1.2.2.1) (Sat.new fun e3 hf=>Sat.ob ?_ (Sat.back rfl ⟨?_,?_⟩))))))
    ·simp only [D.le,D.gQ,D.lt,D.gU,D.eq,D.gV,D.not,D.dU,D.and,D.dV,D.or,D.gW,D.inr,D.var,D.lit,D.dh,D.beq,D.dW,D.dX,D.dY,D.add,D.sub,D.mul,D.min,D.max,D.di,D.bP,D.bQ];omega
    ·simp only [D.le,D.gQ,D.lt,D.gU,D.eq,D.gV,D.not,D.dU,D.and,D.dV,D.or,D.gW,D.inr,D.var,D.lit,D.dh,D.beq,D.dW,D.dX,D.dY,D.add,D.sub,D.mul,D.min,D.max,D.di,D.bP,D.bQ];simp [Env.join];omega
    ·have hf:=hf _ (List.mem_singleton.2 rfl)
     simp only [D.be,D.le,D.gQ,D.lt,D.gU,D.eq,D.gV,D.not,D.dU,D.and,D.dV,D.or,D.gW,D.inr,D.var,D.lit,D.dh,D.beq,D.dW,D.dX,D.dY,D.add,D.sub,D.mul,D.min,D.max,D.di,D.bP,D.bQ] at hf
     simp [Env.join] at hf
     refine ⟨⟨by simp [Sub.ag,assoc,CV.I,CV.B,aj,ak,ae.I,ae.B,SC.I,SC.B,IE.den,BE.den,Env.join];omega,by simp [Sub.ag,assoc,CV.I,CV.B,aj,ak,ae.I,ae.B,SC.I,SC.B,IE.den,BE.den,Env.join];omega⟩,⟨⟨o1,o2,o3,o4⟩,?_⟩,⟨?_,?_⟩⟩
     ·refine Eq.trans (b:=notes q 8) (by exact fq rfl fun i _=>by simp [bq,Sub.ag,assoc,CV.I,CV.B,aj,ak,ae.I,ae.B,SC.I,SC.B,IE.den,BE.den,Env.join]) ?_
      show notes q 8=((notes q 0).take (q.iv 16+1).toNat).filter (fun n=>!qU (wD q 4) n)
      rw [htk,List.filter_append,n1]
      simp [hk]
     ·simp [bz,Sub.ag,assoc,CV.I,CV.B,aj,ak,ae.I,ae.B,SC.I,SC.B,IE.den,BE.den,Env.join]
      omega
     ·refine (kD (ρ:=q) (b:=12) (x:=bq q 3 (q.iv 16).toNat) p2 rfl (fun i hi=>?_) ?_).trans ?_
      ·have:¬(q.iv 13).toNat=i:=by simp only [Nat.reduceAdd] at hi;omega
       simp [bq,Sub.ag,assoc,CV.I,CV.B,aj,ak,ae.I,ae.B,SC.I,SC.B,IE.den,BE.den,Env.join,this]
      ·simp [bq,Sub.ag,assoc,CV.I,CV.B,aj,ak,ae.I,ae.B,SC.I,SC.B,IE.den,BE.den,Env.join]
      ·show notes q 12 ++ _=((notes q 0).take (q.iv 16+1).toNat).filter (qU (wD q 4))
       rw [htk,List.filter_append,n2]
       simp [hk]
    ·show (q.iv 1-(q.iv 16+1)).toNat<(q.iv 1-q.iv 16).toNat
     omega
   ·replace hne:¬zh q (q.iv 16).toNat (q.iv 17).toNat:=fun h=>by
     exact Bool.false_ne_true (hne.symm.trans (by simp only [D.le,D.gQ,D.lt,D.gU,D.eq,D.gV,D.not,D.dU,D.and,D.dV,D.or,D.gW,D.inr,D.var,D.lit,D.dh,D.beq,D.dW,D.dX,D.dY,D.add,D.sub,D.mul,D.min,D.max,D.di,D.bP,D.bQ];exact h))
    refine Sat.ob ?_ (Sat.back rfl ⟨⟨⟨?_,?_⟩,fun j hj=>?_⟩,?_⟩)
    ·simp only [D.le,D.gQ,D.lt,D.gU,D.eq,D.gV,D.not,D.dU,D.and,D.dV,D.or,D.gW,D.inr,D.var,D.lit,D.dh,D.beq,D.dW,D.dX,D.dY,D.add,D.sub,D.mul,D.min,D.max,D.di,D.bP,D.bQ];have:=hpre.2.2.2;omega
    ·show 0≤q.iv 17+1;omega
    ·show q.iv 17+1≤q.iv 5;omega
    ·replace hj:(j:Int)<q.iv 17+1:=hj
     show ¬zh q (q.iv 16).toNat j
     by_cases h:j=(q.iv 17).toNat
     ·subst h;exact hne
     ·exact j3 j (by omega)
    ·show (q.iv 5-(q.iv 17+1)).toNat<(q.iv 5-q.iv 17).toNat
     omega
  ·replace hI2:IM (r.join 17 e2):=hI2
   replace hat:qH (r.join 17 e2):=hat
   replace BH:¬(r.join 17 e2).iv 17<(r.join 17 e2).iv 5:=of_decide_eq_false BH
   rw [show (r.iv 1-r.iv 16).toNat=((r.join 17 e2).iv 1-(r.join 17 e2).iv 16).toNat from rfl]
   clear hpre hlt l1 l2 i1 i2
   generalize r.join 17 e2=q at *
   have hpre:=hat.1
   obtain ⟨⟨i1,i2⟩,-⟩:=hat.2.1
   have hlt:=hat.2.2
   obtain ⟨l1,l2⟩:=hat.lens
   obtain ⟨⟨j1,j2⟩,j3⟩:=hI2
   have hk:qU (wD q 4) (bq q 3 (q.iv 16).toNat)=false:=by
    refine List.any_eq_false.2 fun x hx=>?_
    obtain ⟨j,hj,rfl⟩:=List.mem_map.1 hx
    have hj:=List.mem_range.1 hj
    simp only [Nat.reduceAdd] at hj
    exact ne_true_of_eq_false (decide_eq_false (j3 j (by omega)))
   obtain ⟨⟨o1,o2,o3,o4⟩,n1⟩:=hat.2.1.2.1
   obtain ⟨⟨p1,p2,p3,p4⟩,n2⟩:=hat.2.1.2.2
   have htk:=hat.take
   obtain ⟨_,a5,_,b5⟩:=hpre
   simp only [Nat.reduceAdd] at *
   refine Sat.ob ?_ (Sat.ob (decide_eq_true o2) (Sat.ob (decide_eq_true o3) (Sat.ob (decide_eq_true o4) (Sat.ob (df hat.2.1.2.1.1) (Sat.new fun e3 hf=>Sat.ob ?_ (Sat.back rfl ⟨?_,?_⟩))))))
   ·simp only [D.le,D.gQ,D.lt,D.gU,D.eq,D.gV,D.not,D.dU,D.and,D.dV,D.or,D.gW,D.inr,D.var,D.lit,D.dh,D.beq,D.dW,D.dX,D.dY,D.add,D.sub,D.mul,D.min,D.max,D.di,D.bP,D.bQ];omega
   ·simp only [D.le,D.gQ,D.lt,D.gU,D.eq,D.gV,D.not,D.dU,D.and,D.dV,D.or,D.gW,D.inr,D.var,D.lit,D.dh,D.beq,D.dW,D.dX,D.dY,D.add,D.sub,D.mul,D.min,D.max,D.di,D.bP,D.bQ];simp [Env.join];omega
   ·have hf:=hf _ (List.mem_singleton.2 rfl)
    simp only [D.be,D.le,D.gQ,D.lt,D.gU,D.eq,D.gV,D.not,D.dU,D.and,D.dV,D.or,D.gW,D.inr,D.var,D.lit,D.dh,D.beq,D.dW,D.dX,D.dY,D.add,D.sub,D.mul,D.min,D.max,D.di,D.bP,D.bQ] at hf
    simp [Env.join] at hf
    refine ⟨⟨by simp [Sub.ag,assoc,CV.I,CV.B,aj,ak,ae.I,ae.B,SC.I,SC.B,IE.den,BE.den,Env.join];omega,by simp [Sub.ag,assoc,CV.I,CV.B,aj,ak,ae.I,ae.B,SC.I,SC.B,IE.den,BE.den,Env.join];omega⟩,⟨?_,?_⟩,⟨⟨p1,p2,p3,p4⟩,?_⟩⟩
    ·simp [bz,Sub.ag,assoc,CV.I,CV.B,aj,ak,ae.I,ae.B,SC.I,SC.B,IE.den,BE.den,Env.join]
     omega
    ·refine (kD (ρ:=q) (b:=8) (x:=bq q 3 (q.iv 16).toNat) o2 rfl (fun i hi=>?_) ?_).trans ?_
     ·have:¬(q.iv 9).toNat=i:=by simp only [Nat.reduceAdd] at hi;omega
      simp [bq,Sub.ag,assoc,CV.I,CV.B,aj,ak,ae.I,ae.B,SC.I,SC.B,IE.den,BE.den,Env.join,this]
     ·simp [bq,Sub.ag,assoc,CV.I,CV.B,aj,ak,ae.I,ae.B,SC.I,SC.B,IE.den,BE.den,Env.join]
     ·show notes q 8 ++ _=((notes q 0).take (q.iv 16+1).toNat).filter (fun n=>!qU (wD q 4) n)
      rw [htk,List.filter_append,n1]
      simp [hk]
    ·refine Eq.trans (b:=notes q 12) (by exact fq rfl fun i _=>by simp [bq,Sub.ag,assoc,CV.I,CV.B,aj,ak,ae.I,ae.B,SC.I,SC.B,IE.den,BE.den,Env.join]) ?_
     show notes q 12=((notes q 0).take (q.iv 16+1).toNat).filter (qU (wD q 4))
     rw [htk,List.filter_append,n2]
     simp [hk]
   ·show (q.iv 1-(q.iv 16+1)).toNat<(q.iv 1-q.iv 16).toNat
    omega
 ·replace hpre:mZ (ρ.join 8 e):=hpre
  replace hI:uu (ρ.join 8 e):=hI
  replace hge:¬(ρ.join 8 e).iv 16<(ρ.join 8 e).iv 1:=of_decide_eq_false hge
  generalize ρ.join 8 e=q at *
  obtain ⟨⟨i1,i2⟩,⟨o,n1⟩,⟨p,n2⟩⟩:=hI
  rw [su _ _ (by simp only [Nat.zero_add];omega)] at n1 n2
  refine Sat.fin ⟨o,?_,p,?_⟩
  ·exact Eq.trans (b:=notes q 8) (by exact fq rfl fun i _=>by simp [bq,Sub.ag,assoc,CV.I,CV.B,aj,ak,ae.I,ae.B,SC.I,SC.B,IE.den,BE.den,Env.join]) n1
  ·exact Eq.trans (b:=notes q 12) (by exact fq rfl fun i _=>by simp [bq,Sub.ag,assoc,CV.I,CV.B,aj,ak,ae.I,ae.B,SC.I,SC.B,IE.den,BE.den,Env.join]) n2
theorem Vs:bg Tryz.prog lX mZ Ke :=
 dA dO (E:=Vp) (cs:=[]) rfl (fun k pre post h=>by cases h) bX rfl Vq (by kernel_rfl) (fun ρ _ p hp=>by cases hp) Vr
noncomputable def Qw:Ex:={sched:=sched,loops:=[RZ],fin:=ky}
def BI:Out :=
 .ob (.or (.not (.var 0)) (.aA (.var 1) y0)) <|
 .ob (.ai y0 (.var 1)) <|
 .loop 8 {lo:=8,ah:=2,iv:=Sc,bv:=Sd,nb:=[3,2]} <|
 .br (.bO (.var 16) (.var 1))
 (.ob (.not (.var 0)) <|
  .ob (.ai y0 (.var 16)) <|
  .ob (.or (.bO (.var 4) (.lit (-9223372036854775806))) (.inr .i64 (.sub (.var 4) (.lit 2)))) <|
  .br (.or (.bO (.var 4) (.lit (-9223372036854775806))) (.bO (.sub (.var 4) (.lit 2)) (.cell 3 (.var 16) y0 6)))
  (.ob (.ai (.mul (.add (.var 13) y1) (.lit 56)) (.lit 140737488355328)) <|
   .ob (.ai y0 (.var 13)) <|
   .ob (.ai (.var 13) (.var 14)) <|
   .ob (.ai (.var 14) (.lit 9223372036854775807)) <|
   .ob (.or (.not (.var 12)) (.aA (.var 13) y0)) <|
   .new 17 [.be (.and (.ai (.add (.var 13) y1) (.var 17)) (.ai (.var 17) (.lit 9223372036854775807)))] <|
   .ob (.inr .i64 (.add (.var 16) y1)) <|
   .back 0 {lo:=8,ah:=2,iv:=[(16,.add (.var 16) y1),(14,yv 17),(13,.add (.var 13) y1),(10,yv 10),(9,yv 9)],bv:=Sg,ct:=Si,bk:=[(3,yc 7 7),(2,yc 2 7)]})
  (.ob (.ai (.mul (.add (.var 9) y1) (.lit 56)) (.lit 140737488355328)) <|
   .ob (.ai y0 (.var 9)) <|
   .ob (.ai (.var 9) (.var 10)) <|
   .ob (.ai (.var 10) (.lit 9223372036854775807)) <|
   .ob (.or (.not (.var 8)) (.aA (.var 9) y0)) <|
   .new 17 [.be (.and (.ai (.add (.var 9) y1) (.var 17)) (.ai (.var 17) (.lit 9223372036854775807)))] <|
   .ob (.inr .i64 (.add (.var 16) y1)) <|
   .back 0 {lo:=8,ah:=2,iv:=[(16,.add (.var 16) y1),(14,yv 14),(13,yv 13),(10,yv 17),(9,.add (.var 9) y1)],bv:=Sj,ct:=Sk,bk:=[(3,yc 3 7),(2,yc 7 7)]}))
 (.fin {lo:=8,ah:=1,iv:=Sl,bv:=[(12,yw 12),(8,yw 8)],ct:=Sn,bk:=[(2,yc 3 7),(1,yc 2 7)]})
theorem Sq:exec tab Qw 4000 [] (fE ky.f 8 [] [] ky.hp ky.args)=BI:=by kernel_rfl
def lM (ρ:Env):Prop:=bz ρ 0∧ρ.iv 1≤1000000∧-9223372036854775808≤ρ.iv 4∧ρ.iv 4≤9223372036854775807
def GY (ρ:Env):Prop:=bz ρ 8∧notes ρ 8=(notes ρ 0).filter (fun n=>!qV (ρ.iv 4) n)∧bz ρ 12∧notes ρ 12=(notes ρ 0).filter (qV (ρ.iv 4))
def rE (ρ:Env):Prop:=(0≤ρ.iv 16∧ρ.iv 16≤ρ.iv 1)∧(bz ρ 8∧notes ρ 8=((notes ρ 0).take (ρ.iv 16).toNat).filter (fun n=>!qV (ρ.iv 4) n))∧bz ρ 12∧notes ρ 12=((notes ρ 0).take (ρ.iv 16).toNat).filter (qV (ρ.iv 4))
def uw (ρ:Env):Prop:=lM ρ∧rE ρ∧ρ.iv 16<ρ.iv 1
theorem uw.lens {ρ:Env} (h:uw ρ):ρ.iv 9≤ρ.iv 16∧ρ.iv 13≤ρ.iv 16:=by
 obtain ⟨⟨a1,a5,b1⟩,⟨⟨i1,i2⟩,⟨⟨o1,o2,o3,o4⟩,n1⟩,⟨⟨p1,p2,p3,p4⟩,n2⟩⟩,hlt⟩:=h
 have l1:(notes ρ 8).length≤(ρ.iv 16).toNat:=by
  rw [n1];refine Nat.le_trans (List.length_filter_le _ _) ?_;rw [List.length_take];omega
 have l2:(notes ρ 12).length≤(ρ.iv 16).toNat:=by
  rw [n2];refine Nat.le_trans (List.length_filter_le _ _) ?_;rw [List.length_take];omega
 rw [lD] at l1 l2
 simp only [Nat.reduceAdd] at *
 omega
theorem uw.take {ρ:Env} (h:uw ρ):(notes ρ 0).take (ρ.iv 16+1).toNat=(notes ρ 0).take (ρ.iv 16).toNat ++ [bq ρ 3 (ρ.iv 16).toNat]:=by
 obtain ⟨_,⟨⟨i1,i2⟩,_⟩,hlt⟩:=h
 rw [show (ρ.iv 16+1).toNat=(ρ.iv 16).toNat+1 by omega]
 exact sj (b:=0) (by simp only [Nat.zero_add];omega)
theorem Sr (ρ:Env) (hpre:lM ρ.num):Sat GY [] [] ρ BI:=by
 replace hpre:lM ρ:=hpre
 unfold BI
 refine Sat.ob (df hpre.1) (Sat.ob (decide_eq_true hpre.1.2.1) (Sat.loop rE (fun r=>(r.iv 1-r.iv 16).toNat) ?_ fun e hI=>Sat.br (fun hlt=>?_) (fun hge=>?_)))
 ·have h2:=hpre.1.2.1
  simp [rE,bz,notes,Sub.ag,assoc,CV.I,CV.B,aj,ak,ae.I,ae.B,SC.I,SC.B,IE.den,BE.den,h2]
 ·replace hpre:lM (ρ.join 8 e):=hpre
  replace hI:rE (ρ.join 8 e):=hI
  replace hlt:(ρ.join 8 e).iv 16<(ρ.join 8 e).iv 1:=of_decide_eq_true hlt
  have hat:uw (ρ.join 8 e):=⟨hpre,hI,hlt⟩
  clear hpre hI hlt
  have hm:((ρ.join 8 e).num.iv 1-(ρ.join 8 e).num.iv 16).toNat=((ρ.join 8 e).iv 1-(ρ.join 8 e).iv 16).toNat:=rfl
  rw [hm]
  clear hm
  generalize ρ.join 8 e=r at *
  have hpre:=hat.1
  obtain ⟨⟨i1,i2⟩,-⟩:=hat.2.1
  have hlt:=hat.2.2
  obtain ⟨l1,l2⟩:=hat.lens
  obtain ⟨⟨o1,o2,o3,o4⟩,n1⟩:=hat.2.1.2.1
  obtain ⟨⟨p1,p2,p3,p4⟩,n2⟩:=hat.2.1.2.2
  have htk:=hat.take
  have hpre:=hat.1
  obtain ⟨_,a5,b4,b5⟩:=hpre
  simp only [Nat.reduceAdd] at *
  refine Sat.ob ?_ (Sat.ob (decide_eq_true i1) (Sat.ob ?_ (Sat.br (fun heq=>?_) (fun hne=>?_))))
  ·simp only [D.le,D.gQ,D.lt,D.gU,D.eq,D.gV,D.not,D.dU,D.and,D.dV,D.or,D.gW,D.inr,D.var,D.lit,D.dh,D.beq,D.dW,D.dX,D.dY,D.add,D.sub,D.mul,D.min,D.max,D.di,D.bP,D.bQ]
   cases h:r.bv 0
   ·rfl
   ·have:=hat.1.1.1 h
    simp only [Nat.zero_add] at this
    omega
  ·simp only [D.le,D.gQ,D.lt,D.gU,D.eq,D.gV,D.not,D.dU,D.and,D.dV,D.or,D.gW,D.inr,D.var,D.lit,D.dh,D.beq,D.dW,D.dX,D.dY,D.add,D.sub,D.mul,D.min,D.max,D.di,D.bP,D.bQ]
   omega
  ·have hk:qV (r.iv 4) (bq r 3 (r.iv 16).toNat)=true:=by
    simp only [D.le,D.gQ,D.lt,D.gU,D.eq,D.gV,D.not,D.dU,D.and,D.dV,D.or,D.gW,D.inr,D.var,D.lit,D.dh,D.beq,D.dW,D.dX,D.dY,D.add,D.sub,D.mul,D.min,D.max,D.di,D.bP,D.bQ] at heq
    exact decide_eq_true heq
   refine Sat.ob ?_ (Sat.ob (decide_eq_true p2) (Sat.ob (decide_eq_true p3) (Sat.ob (decide_eq_true p4) (Sat.ob (df hat.2.1.2.2.1) (Sat.new fun e3 hf=>Sat.ob ?_ (Sat.back rfl ⟨?_,?_⟩))))))
   ·simp only [D.le,D.gQ,D.lt,D.gU,D.eq,D.gV,D.not,D.dU,D.and,D.dV,D.or,D.gW,D.inr,D.var,D.lit,D.dh,D.beq,D.dW,D.dX,D.dY,D.add,D.sub,D.mul,D.min,D.max,D.di,D.bP,D.bQ];omega
   ·simp only [D.le,D.gQ,D.lt,D.gU,D.eq,D.gV,D.not,D.dU,D.and,D.dV,D.or,D.gW,D.inr,D.var,D.lit,D.dh,D.beq,D.dW,D.dX,D.dY,D.add,D.sub,D.mul,D.min,D.max,D.di,D.bP,D.bQ];simp [Env.join];omega
   ·have hf:=hf _ (List.mem_singleton.2 rfl)
    simp only [D.be,D.le,D.gQ,D.lt,D.gU,D.eq,D.gV,D.not,D.dU,D.and,D.dV,D.or,D.gW,D.inr,D.var,D.lit,D.dh,D.beq,D.dW,D.dX,D.dY,D.add,D.sub,D.mul,D.min,D.max,D.di,D.bP,D.bQ] at hf
    simp [Env.join] at hf
    refine ⟨⟨by simp [Sub.ag,assoc,CV.I,CV.B,aj,ak,ae.I,ae.B,SC.I,SC.B,IE.den,BE.den,Env.join];omega,by simp [Sub.ag,assoc,CV.I,CV.B,aj,ak,ae.I,ae.B,SC.I,SC.B,IE.den,BE.den,Env.join];omega⟩,⟨⟨o1,o2,o3,o4⟩,?_⟩,⟨?_,?_⟩⟩
    ·refine Eq.trans (b:=notes r 8) (by exact fq rfl fun i _=>by simp [bq,Sub.ag,assoc,CV.I,CV.B,aj,ak,ae.I,ae.B,SC.I,SC.B,IE.den,BE.den,Env.join]) ?_
     show notes r 8=((notes r 0).take (r.iv 16+1).toNat).filter (fun n=>!qV (r.iv 4) n)
     rw [htk,List.filter_append,n1]
     simp [hk]
    ·simp [bz,Sub.ag,assoc,CV.I,CV.B,aj,ak,ae.I,ae.B,SC.I,SC.B,IE.den,BE.den,Env.join]
     omega
    ·refine (kD (ρ:=r) (b:=12) (x:=bq r 3 (r.iv 16).toNat) p2 rfl (fun i hi=>?_) ?_).trans ?_
     ·have:¬(r.iv 13).toNat=i:=by simp only [Nat.reduceAdd] at hi;omega
      simp [bq,Sub.ag,assoc,CV.I,CV.B,aj,ak,ae.I,ae.B,SC.I,SC.B,IE.den,BE.den,Env.join,this]
     ·simp [bq,Sub.ag,assoc,CV.I,CV.B,aj,ak,ae.I,ae.B,SC.I,SC.B,IE.den,BE.den,Env.join]
     ·show notes r 12 ++ _=((notes r 0).take (r.iv 16+1).toNat).filter (qV (r.iv 4))
      rw [htk,List.filter_append,n2]
      simp [hk]
   ·show (r.iv 1-(r.iv 16+1)).toNat<(r.iv 1-r.iv 16).toNat
    omega
  ·have hk:qV (r.iv 4) (bq r 3 (r.iv 16).toNat)=false:=by
    refine decide_eq_false fun h=>Bool.false_ne_true (hne.symm.trans ?_)
    simp only [D.le,D.gQ,D.lt,D.gU,D.eq,D.gV,D.not,D.dU,D.and,D.dV,D.or,D.gW,D.inr,D.var,D.lit,D.dh,D.beq,D.dW,D.dX,D.dY,D.add,D.sub,D.mul,D.min,D.max,D.di,D.bP,D.bQ];exact h
   refine Sat.ob ?_ (Sat.ob (decide_eq_true o2) (Sat.ob (decide_eq_true o3) (Sat.ob (decide_eq_true o4) (Sat.ob (df hat.2.1.2.1.1) (Sat.new fun e3 hf=>Sat.ob ?_ (Sat.back rfl ⟨?_,?_⟩))))))
   ·simp only [D.le,D.gQ,D.lt,D.gU,D.eq,D.gV,D.not,D.dU,D.and,D.dV,D.or,D.gW,D.inr,D.var,D.lit,D.dh,D.beq,D.dW,D.dX,D.dY,D.add,D.sub,D.mul,D.min,D.max,D.di,D.bP,D.bQ];omega
   ·simp only [D.le,D.gQ,D.lt,D.gU,D.eq,D.gV,D.not,D.dU,D.and,D.dV,D.or,D.gW,D.inr,D.var,D.lit,D.dh,D.beq,D.dW,D.dX,D.dY,D.add,D.sub,D.mul,D.min,D.max,D.di,D.bP,D.bQ];simp [Env.join];omega
   ·have hf:=hf _ (List.mem_singleton.2 rfl)
    simp only [D.be,D.le,D.gQ,D.lt,D.gU,D.eq,D.gV,D.not,D.dU,D.and,D.dV,D.or,D.gW,D.inr,D.var,D.lit,D.dh,D.beq,D.dW,D.dX,D.dY,D.add,D.sub,D.mul,D.min,D.max,D.di,D.bP,D.bQ] at hf
    simp [Env.join] at hf
    refine ⟨⟨by simp [Sub.ag,assoc,CV.I,CV.B,aj,ak,ae.I,ae.B,SC.I,SC.B,IE.den,BE.den,Env.join];omega,by simp [Sub.ag,assoc,CV.I,CV.B,aj,ak,ae.I,ae.B,SC.I,SC.B,IE.den,BE.den,Env.join];omega⟩,⟨?_,?_⟩,⟨⟨p1,p2,p3,p4⟩,?_⟩⟩
    ·simp [bz,Sub.ag,assoc,CV.I,CV.B,aj,ak,ae.I,ae.B,SC.I,SC.B,IE.den,BE.den,Env.join]
     omega
    ·refine (kD (ρ:=r) (b:=8) (x:=bq r 3 (r.iv 16).toNat) o2 rfl (fun i hi=>?_) ?_).trans ?_
     ·have:¬(r.iv 9).toNat=i:=by simp only [Nat.reduceAdd] at hi;omega
      simp [bq,Sub.ag,assoc,CV.I,CV.B,aj,ak,ae.I,ae.B,SC.I,SC.B,IE.den,BE.den,Env.join,this]
     ·simp [bq,Sub.ag,assoc,CV.I,CV.B,aj,ak,ae.I,ae.B,SC.I,SC.B,IE.den,BE.den,Env.join]
     ·show notes r 8 ++ _=((notes r 0).take (r.iv 16+1).toNat).filter (fun n=>!qV (r.iv 4) n)
      rw [htk,List.filter_append,n1]
      simp [hk]
    ·refine Eq.trans (b:=notes r 12) (by exact fq rfl fun i _=>by simp [bq,Sub.ag,assoc,CV.I,CV.B,aj,ak,ae.I,ae.B,SC.I,SC.B,IE.den,BE.den,Env.join]) ?_
     show notes r 12=((notes r 0).take (r.iv 16+1).toNat).filter (qV (r.iv 4))
     rw [htk,List.filter_append,n2]
     simp [hk]
   ·show (r.iv 1-(r.iv 16+1)).toNat<(r.iv 1-r.iv 16).toNat
    omega
 ·replace hpre:lM (ρ.join 8 e):=hpre
  replace hI:rE (ρ.join 8 e):=hI
  replace hge:¬(ρ.join 8 e).iv 16<(ρ.join 8 e).iv 1:=of_decide_eq_false hge
  generalize ρ.join 8 e=q at *
  obtain ⟨⟨i1,i2⟩,⟨o,n1⟩,⟨p,n2⟩⟩:=hI
  rw [su _ _ (by simp only [Nat.zero_add];omega)] at n1 n2
  refine Sat.fin ⟨o,?_,p,?_⟩
  ·exact Eq.trans (b:=notes q 8) (by exact fq rfl fun i _=>by simp [bq,Sub.ag,assoc,CV.I,CV.B,aj,ak,ae.I,ae.B,SC.I,SC.B,IE.den,BE.den,Env.join]) n1
  ·exact Eq.trans (b:=notes q 12) (by exact fq rfl fun i _=>by simp [bq,Sub.ag,assoc,CV.I,CV.B,aj,ak,ae.I,ae.B,SC.I,SC.B,IE.den,BE.den,Env.join]) n2
theorem Su:bg Tryz.prog ky lM GY :=
 dA dO (E:=Qw) (cs:=[]) rfl (fun k pre post h=>by cases h) bX rfl Sq (by kernel_rfl) (fun ρ _ p hp=>by cases hp) Sr
end Go.Proofs.YthomdlajobnmnaaGreatDoor.Sv
namespace Go.Proofs.YthomdlajobnmnaaGreatDoor
open Go.Rex
def knK:Kn:=[(.ai (.lit 0) (.var 0),true),(.bO (.var 0) (.lit 6),true),(.bO (.var 1) (.lit 0),false),(.ai (.lit 9) (.var 1),false)]
noncomputable def nL:Ex:={sched:=sched,loops:=[],fin:=gN}
def IP:Out :=
 .ob (.inr .i64 (.mul (.var 0) (.lit 9))) <|
 .ob (.inr .i64 (.add (.lit 25) (.mul (.var 0) (.lit 9)))) <|
 .ob (.inr .i64 (.add (.add (.lit 25) (.mul (.var 0) (.lit 9))) (.var 1))) <|
 .fin {lo:=2,ah:=0}
theorem Yk:exec tab nL 8000 [] (fE gN.f gN.nv knK gN.gl gN.hp gN.args)=IP:=by kernel_rfl
def xx (ρ:Env):Prop:=(0≤ρ.iv 0∧ρ.iv 0<6)∧0≤ρ.iv 1∧ρ.iv 1<9
def nO (_:Env):Prop:=True
theorem Yl (ρ:Env) (hpre:xx ρ.num):Sat nO [] [] ρ IP:=by
 replace hpre:xx ρ:=hpre
 obtain ⟨⟨a,b⟩,c,d⟩:=hpre
 unfold IP
 refine Sat.ob ?_ (Sat.ob ?_ (Sat.ob ?_ (Sat.fin trivial)))
 all_goals simp only [Da];omega
theorem Nk:bg Tryz.prog gN xx nO :=
 dA dO (E:=nL) (cs:=[]) rfl (fun k pre post h=>by cases h) bX rfl Yk (by kernel_rfl) (fun ρ h p hp=>by
   obtain ⟨⟨a,b⟩,c,d⟩:=h
   simp only [knK,List.mem_cons,List.not_mem_nil,or_false] at hp
   rcases hp with rfl | rfl | rfl | rfl
   · exact decide_eq_true a
   · exact decide_eq_true b
   · exact decide_eq_false (by simp only [IE.den];omega)
   · exact decide_eq_false (by simp only [IE.den];omega)) Yl
def knS:Kn:=[(.ai (.lit 0) (.var 0),true),(.bO (.var 0) (.lit 6),true)]
noncomputable def aag:Ex:={sched:=sched,loops:=[],fin:=gY}
def IQ:Out :=
 .ob (.inr .i64 (.add (.lit 79) (.var 0))) <|
 .fin {lo:=1,ah:=0}
theorem Ym:exec tab aag 8000 [] (fE gY.f gY.nv knS gY.gl gY.hp gY.args)=IQ:=by kernel_rfl
def xy (ρ:Env):Prop:=0≤ρ.iv 0∧ρ.iv 0<6
theorem Yn (ρ:Env) (hpre:xy ρ.num):Sat nO [] [] ρ IQ:=by
 replace hpre:xy ρ:=hpre
 obtain ⟨a,b⟩:=hpre
 unfold IQ
 refine Sat.ob ?_ (Sat.fin trivial)
 simp only [Da];omega
theorem Nl:bg Tryz.prog gY xy nO :=
 dA dO (E:=aag) (cs:=[]) rfl (fun k pre post h=>by cases h) bX rfl Ym (by kernel_rfl) (fun ρ h p hp=>by
   obtain ⟨a,b⟩:=h
   simp only [knS,List.mem_cons,List.not_mem_nil,or_false] at hp
   rcases hp with rfl | rfl
   · exact decide_eq_true a
   · exact decide_eq_true b) Yn
def knR:Kn:=[(.bO (.var 0) (.lit 0),false),(.ai (.lit 24) (.var 0),false)]
def BK:mO:=[(gN,xx,nO),(gY,xy,nO)]
theorem IU:∀k pre post,(k,pre,post)∈BK→ku k=true∧bg Tryz.prog k pre post:=by
 intro k pre post h
 simp only [BK,List.mem_cons,List.not_mem_nil,or_false,Prod.mk.injEq] at h
 rcases h with ⟨rfl,rfl,rfl⟩ | ⟨rfl,rfl,rfl⟩
 ·exact ⟨by kernel_rfl,Nk⟩
 ·exact ⟨by kernel_rfl,Nl⟩
noncomputable def aah:Ex:={sched:=sched,loops:=[],fin:=gP}
def IV:Out :=
 .ob (.or (.not (.var 51)) (.aA (.var 52) y0)) <|
 .ob (.ai y0 (.var 52)) <|
 .br (.aA (.var 52) y0)
 (.fin {lo:=71,ah:=4,iv:=yo [yz 132,yz 131,yz 130,yz 129]<|yr 128 61 3<|[(124,yv 57),(123,yv 56),yz 120,yz 119,yz 117,yz 116,yz 114,yz 112,yz 111,yz 110,yz 109,yz 107,yz 106,yz 105,yz 104,yz 102,yz 101,yz 100,yz 99,yz 97,yz 96,yz 95,yz 94,yz 93,yz 92,yz 91,yz 90,yz 89,yz 88,yz 87,yz 86,yz 85,yz 83,yz 82,yz 81,yz 80,yz 78,yz 77,yz 76,yz 75,yz 74,yz 73,yz 72,yz 71],bv:=[(134,.lit true),(133,.lit false),(125,yw 58),(122,yw 55),(118,.lit true),(115,.lit true),(113,.lit false),(108,.lit false),(103,.lit false),(98,.lit false),(84,.lit false),(79,.lit false)],ct:=[(137,yu 70 59 7 yN 0),(121,yl 54 9 5 50 yW 0)],bk:=[(6,yc 3 7)],nb:=[5,4,5,4]})
 (.ob (.not (.var 51)) <|
  .ob (.bO y0 (.var 52)) <|
  .ob (.ai y0 (.var 69)) <|
  .ob (.bO (.var 69) (.var 70)) <|
  .fin {lo:=71,ah:=4,iv:=yo [(137,yv 70)]<|yr 132 65 7<|yo [(124,yv 57),(123,yv 56),(120,yv 53),(119,yv 52),(136,yv 69),(117,yv 50),(116,yv 49),(114,yv 47)]<|yr 112 45 4<|yr 107 40 4<|yo [yz 102,yz 101,yz 100,yz 99,(97,.cell 69 (.var 69) y0 3),(96,.cell 69 (.var 69) y0 2),(95,.cell 69 (.var 69) y0 1),(94,.cell 69 (.var 69) y0 0),yz 93,yz 92,yz 91,(90,.lit 5),(89,.lit 16)]<|yr 88 21 4<|yr 83 16 4<|yr 78 11 8 [],bv:=[(134,yw 67),(133,yw 66),(125,yw 58),(122,yw 55),(118,yw 51),(115,yw 48),(113,yw 46),(108,yw 41),(103,.lit false),(98,.cell 69 (.var 69) y0 4),(84,yw 17),(79,yw 12)],ct:=[(137,yu 70 59 7 yN 0),(136,yu 69 70 7 yN 0),(135,yu 68 49 5 yW 0),(121,yl 54 9 5 50 yW 0)],bk:=[(6,yc 3 7),(5,yc 2 7),(4,yc 1 5)]})
theorem Yo:exec tab aah 8000 [] (fE gP.f gP.nv [] gP.gl gP.hp gP.args)=IV:=by kernel_rfl
def Nn (ρ:Env):Prop:=bH ρ 4
def zi (ρ:Env):Prop:=bH ρ 71∧aa ρ 0 71=(aa ρ 0 4).dz
theorem Yp (ρ:Env) (hpre:Nn ρ.num):Sat zi [] [] ρ IV:=by
 replace hpre:Nn ρ:=hpre
 obtain ⟨o1,o2,o3⟩:=hpre
 unfold IV
 have p2:=o2.1.2.1
 have p3:=o2.2
 simp only [Nat.reduceAdd] at p2 p3
 refine Sat.ob (df o2.1) (Sat.ob (decide_eq_true p2) (Sat.br (fun c=>?_) (fun c=>?_)))
 ·simp only [Da] at c
  have hd:(aa ρ 0 4).bD=[]:=oV c
  have hm:(aa ρ 0 4).dz=(aa ρ 0 4).done:=by unfold RS.dz;rw [hd]
  exact Sat.fin ⟨cu,Eq.trans (b:=(aa ρ 0 4).done) aF (Eq.symm hm)⟩
 ·simp only [Da] at c
  have h1:(aa ρ 0 4).bD=_:=GV (ρ:=ρ) (r:=69) (o:=ρ.iv 69) (n:=ρ.iv 52) (by omega) p3.1
  have hm:(aa ρ 0 4).dz=(aa ρ 0 4).ask 16 ⟨5,0,0,0,(bN ρ 69 (ρ.iv 69).toNat).ref,Wd.zero⟩:=by unfold RS.dz;rw [h1]
  refine Sat.ob (ve o2.1 (by simp only [Nat.reduceAdd];omega)) (Sat.ob (by simp only [Da];omega) (Sat.ob (by simp only [Da];omega) (Sat.ob (by simp only [Da];omega) (Sat.fin ⟨cu,Eq.trans (b:=(aa ρ 0 4).ask 16 ⟨5,0,0,0,(bN ρ 69 (ρ.iv 69).toNat).ref,Wd.zero⟩) aF (Eq.symm hm)⟩))))
theorem Np:bg Tryz.prog gP Nn zi :=
 dA dO (E:=aah) (cs:=[]) rfl (fun k pre post h=>by cases h) bX rfl Yo (by kernel_rfl) (fun ρ _ p hp=>by cases hp) Yp
def xz (ρ:Env):Prop:=0≤ρ.iv 1∧ρ.iv 1<6∧1≤ρ.iv 2∧ρ.iv 2≤6
theorem jQ {σ:Sub} {ρ:Env} (h0:(σ.ag ρ).iv 0=ρ.iv 0) (h1:(σ.ag ρ).iv 1=ρ.iv 1) (h2:(σ.ag ρ).iv 2=ρ.iv 2) (h3:(σ.ag ρ).iv 3=ρ.iv 3):∀i,i<4→(σ.ag ρ).iv i=ρ.iv i:=by
 intro i hi
 match i with
 | 0=>exact h0
 | 1=>exact h1
 | 2=>exact h2
 | 3=>exact h3
noncomputable def aai:Ex:={sched:=sched,loops:=[],cons:=[gN,gY],fin:=ji}
abbrev adZ:List (Nat × IE):=yo [(138,yv 70)]<|yr 133 65 7<|yo [(125,yv 57),(124,yv 56),(121,yv 53),(120,yv 52),(137,yv 69),(118,yv 50),(117,yv 49),(115,yv 47)]<|yr 113 45 4<|yr 108 40 4<|yr 103 35 4<|yr 98 30 13<|yr 84 16 4<|yr 79 11 8 []
abbrev ad1:List (Nat × BE):=[(135,yw 67),(134,yw 66),(126,yw 58),(123,yw 55),(119,yw 51),(116,yw 48),(114,yw 46),(109,yw 41),(104,yw 36),(99,yw 31),(85,yw 17),(80,yw 12),(139,.lit false)]
abbrev Sw:List (Nat × CV):=[(138,yu 70 59 7 yN 0),(137,yu 69 70 7 yN 0),(136,yu 68 49 5 yW 0),(122,yl 54 9 5 50 yW 0)]
abbrev Sz:List (Nat × SA):=[(6,yc 3 7),(5,yc 2 7),(4,yc 1 5)]
abbrev ad2:List (Nat × BE):=[(135,yw 67),(134,yw 66),(126,yw 58),(123,yw 55),(119,yw 51),(116,yw 48),(114,yw 46),(109,yw 41),(104,.lit false),(99,.lit false),(85,yw 17),(80,yw 12),(139,.lit true)]
def IW:Out :=
 .br (.or (.aA (.var 0) (.lit 2)) (.aA (.var 0) (.lit 3)))
 (.ob (.inr .i64 (.mul (.var 2) (.lit 9))) <|
  .br (.ai (.mul (.var 2) (.lit 9)) (.var 71))
  (.fin {lo:=72,ah:=4,iv:=adZ,bv:=ad1,ct:=Sw,bk:=Sz})
  (.ob (.inr .i64 (.div (.var 71) (.lit 9))) <|
   .call 0 {lo:=0,ah:=0,iv:=[(1,.mod (.var 71) (.lit 9)),(0,.div (.var 71) (.lit 9))]} 72 <|
   .fin {lo:=72,ah:=4,iv:=yo [(138,yv 70)]<|yr 133 65 7<|yo [(125,yv 57),(124,yv 56),(121,yv 53),(120,yv 52),(137,yv 69),(118,yv 50),(117,yv 49),(115,yv 71)]<|yr 113 45 4<|yr 108 40 4<|yo [yz 103,yz 102,yz 101,yz 100,yz 98,yz 97,yz 96,yz 95,(94,.add (.add (.lit 25) (.mul (.div (.var 71) (.lit 9)) (.lit 9))) (.mod (.var 71) (.lit 9))),yz 93,yz 92,(91,.lit 1),(90,.lit 13)]<|yr 89 21 4<|yr 84 16 4<|yr 79 11 8 [],bv:=ad2,ct:=Sw,bk:=Sz}))
 (.br (.ai (.var 2) (.var 71))
  (.fin {lo:=72,ah:=4,iv:=adZ,bv:=ad1,ct:=Sw,bk:=Sz})
  (.call 1 {lo:=0,ah:=0,iv:=[(0,yv 71)]} 72 <|
   .fin {lo:=72,ah:=4,iv:=yo [(138,yv 70)]<|yr 133 65 7<|yo [(125,yv 57),(124,yv 56),(121,yv 53),(120,yv 52),(137,yv 69),(118,yv 50),(117,yv 49),(115,yv 71)]<|yr 113 45 4<|yr 108 40 4<|yo [yz 103,yz 102,yz 101,yz 100,yz 98,yz 97,yz 96,yz 95,(94,.add (.lit 79) (.var 71)),yz 93,yz 92,(91,.lit 1),(90,.lit 13)]<|yr 89 21 4<|yr 84 16 4<|yr 79 11 8 [],bv:=ad2,ct:=Sw,bk:=Sz}))
theorem Yq:exec tab aai 8000 [] (fE ji.f ji.nv [] ji.gl ji.hp ji.args)=IW:=by kernel_rfl
def sW (ρ:Env):Prop:=bH ρ 4∧xz ρ∧0≤ρ.iv 71∧ρ.iv 71≤1000000
def uy (ρ:Env):Prop:=bH ρ 72∧ρ.bv 139=((aa ρ 0 4).look (ρ.iv 71)).isSome∧aa ρ 0 72=((aa ρ 0 4).look (ρ.iv 71)).getD (aa ρ 0 4)
theorem Kg {r q:RS} {n:Int} (h:r.look n=some q):(r.look n).getD r=q:=by rw [h];rfl
theorem Kh {r:RS} {n:Int} (h:r.look n=none):(r.look n).getD r=r:=by rw [h];rfl
theorem dm9 {n:Int} (h:0≤n):n.tdiv 9=n / 9∧n.tmod 9=n % 9:=⟨Int.tdiv_eq_ediv_of_nonneg h,Int.tmod_eq_emod_of_nonneg h⟩
theorem Yr (ρ:Env) (hpre:sW ρ.num):Sat uy BK [] ρ IW:=by
 replace hpre:sW ρ:=hpre
 obtain ⟨⟨o1,o2,o3⟩,⟨s1,s2,s3,s4⟩,n1,n2⟩:=hpre
 unfold IW
 refine Sat.br (fun c=>?_) (fun c=>?_)
 ·simp only [Da] at c
  have hk:(aa ρ 0 4).bL:=c
  refine Sat.ob (by simp only [Da];omega) (Sat.br (fun c2=>?_) (fun c2=>?_))
  ·simp only [Da] at c2
   have hm:(aa ρ 0 4).look (ρ.iv 71)=none:=by unfold RS.look;rw [if_pos hk];exact if_pos c2
   exact Sat.fin ⟨cu,(by show false=_;exact (congrArg Option.isSome hm).symm),Eq.trans (b:=(aa ρ 0 4)) aF (Eq.symm (Kh hm))⟩
  ·simp only [Da] at c2
   have hm:(aa ρ 0 4).look (ρ.iv 71)=some (({aa ρ 0 4 with index:=ρ.iv 71}:RS).load 13 0 0 (25+ρ.iv 71)):=by unfold RS.look;rw [if_pos hk];exact if_neg (by show ¬ρ.iv 71≥ρ.iv 2 * 9;omega)
   obtain ⟨d1,d2⟩:=dm9 n1
   refine Sat.ob (by simp only [Da];show _∧_;simp only [IE.den,d1];omega) (Sat.jk (c:=gN) rfl ⟨⟨?_,?_⟩,?_,?_⟩ (fun q=>((bH q 4)∧0≤q.iv 71)∧(aa q 0 4).look (q.iv 71)=some (({aa q 0 4 with index:=q.iv 71}:RS).load 13 0 0 (25+q.iv 71))) (fun e _=>⟨⟨⟨o1,o2,o3⟩,n1⟩,hm⟩) fun q hq=>?_)
   ·show 0≤(ρ.iv 71).tdiv 9;omega
   ·show (ρ.iv 71).tdiv 9<6;omega
   ·show 0≤(ρ.iv 71).tmod 9;omega
   ·show (ρ.iv 71).tmod 9<9;omega
   obtain ⟨⟨⟨o1,o2,o3⟩,n1⟩,hm⟩:=hq
   obtain ⟨d1,d2⟩:=dm9 n1
   have e:25+(q.iv 71).tdiv 9 * 9+(q.iv 71).tmod 9=25+q.iv 71:=by omega
   exact Sat.fin ⟨cu,(by show true=_;exact (congrArg Option.isSome hm).symm),Eq.trans (b:=(({aa q 0 4 with index:=q.iv 71}:RS).load 13 0 0 (25+q.iv 71))) (RS.ext' rfl rfl (congrArg (fun x=>(⟨1,0,0,x,Wd.zero,Wd.zero⟩:Ac)) e) rfl rfl rfl vk GU rfl rfl rfl rfl DN rfl zX rfl rfl) (Eq.symm (Kg hm))⟩
 ·simp only [Da] at c
  have hk:¬(aa ρ 0 4).bL:=fun h:ρ.iv 0=2∨ρ.iv 0=3=>by omega
  refine Sat.br (fun c2=>?_) (fun c2=>?_)
  ·simp only [Da] at c2
   have hm:(aa ρ 0 4).look (ρ.iv 71)=none:=by unfold RS.look;rw [if_neg hk];exact if_pos c2
   exact Sat.fin ⟨cu,(by show false=_;exact (congrArg Option.isSome hm).symm),Eq.trans (b:=(aa ρ 0 4)) aF (Eq.symm (Kh hm))⟩
  ·simp only [Da] at c2
   have hm:(aa ρ 0 4).look (ρ.iv 71)=some (({aa ρ 0 4 with index:=ρ.iv 71}:RS).load 13 0 0 (79+ρ.iv 71)):=by unfold RS.look;rw [if_neg hk];exact if_neg (by show ¬ρ.iv 71≥ρ.iv 2;omega)
   refine Sat.jk (c:=gY) rfl ⟨n1,?_⟩ (fun q=>((bH q 4)∧0≤q.iv 71)∧(aa q 0 4).look (q.iv 71)=some (({aa q 0 4 with index:=q.iv 71}:RS).load 13 0 0 (79+q.iv 71))) (fun e _=>⟨⟨⟨o1,o2,o3⟩,n1⟩,hm⟩) fun q hq=>?_
   ·show ρ.iv 71<6;omega
   obtain ⟨⟨⟨o1,o2,o3⟩,n1⟩,hm⟩:=hq
   exact Sat.fin ⟨cu,(by show true=_;exact (congrArg Option.isSome hm).symm),Eq.trans (b:=(({aa q 0 4 with index:=q.iv 71}:RS).load 13 0 0 (79+q.iv 71))) aF (Eq.symm (Kg hm))⟩
theorem Nq:bg Tryz.prog ji sW uy :=
 dA dO (E:=aai) (cs:=BK) rfl IU bX rfl Yq (by kernel_rfl) (fun ρ _ p hp=>by cases hp) Yr
noncomputable def Vt:Ex:={sched:=sched,loops:=[ady],cons:=[gN,gY],fin:=iU}
abbrev ad3:List (Nat × IE):=yo [yz 133,yz 132,yz 131,yz 130]<|yr 129 61 3<|[(125,yv 57),(124,yv 56),yz 121,yz 120,yz 118,yz 117,yz 115,yz 113,yz 112,yz 111,yz 110,yz 108,yz 107,yz 106,yz 105,yz 103,yz 102,yz 101,yz 100,yz 98,yz 97,yz 96,yz 95,yz 94,yz 93,yz 92,yz 91,yz 90,yz 89,yz 88,yz 87,yz 86,yz 84,yz 83,yz 82,yz 81,yz 79,yz 78,yz 77,yz 76,yz 75,yz 74,yz 73,yz 72]
abbrev ad4:List (Nat × BE):=[(135,.lit true),(134,.lit false),(126,yw 58),(123,yw 55),(119,.lit true),(116,.lit true),(114,.lit false),(109,.lit false),(104,.lit false),(99,.lit false),(85,.lit false),(80,.lit false)]
def EH:Out :=
 .br (.and (.or (.aA (.var 0) (.lit 4)) (.aA (.var 0) (.lit 5))) (.not (.and (.not (.var 55)) (.and (.aA (.var 56) y0) (.aA (.var 57) y0)))))
 (.call 1 {lo:=0,ah:=0,iv:=[(0,yv 1)]} 72 <|
  .fin {lo:=72,ah:=4,iv:=yo [(138,yv 70)]<|yr 133 65 7<|yo [yz 125,yz 124,(121,yv 53),(120,yv 52),(137,yv 69),(118,yv 50),(117,yv 49),(115,yv 47)]<|yr 113 45 4<|yr 108 40 4<|yo [yz 103,yz 102,yz 101,yz 100,yz 98,yz 97,yz 96,yz 95,(94,.add (.lit 79) (.var 1)),yz 93,yz 92,(91,.lit 2),(90,.lit 2)]<|yr 89 21 4<|yr 84 16 4<|yr 79 11 8 [],bv:=[(135,yw 67),(134,yw 66),(126,yw 58),(123,.lit false),(119,yw 51),(116,yw 48),(114,yw 46),(109,yw 41),(104,.lit false),(99,.lit false),(85,yw 17),(80,yw 12)],ct:=[(138,yu 70 59 7 yN 0),(137,yu 69 70 7 yN 0),(136,yu 68 49 5 yW 0),(122,yl 54 9 5 50 yW 0)],bk:=[(6,yc 3 7),(5,yc 2 7),(4,yc 1 5)]})
 (.br (.or (.aA (.var 0) (.lit 2)) (.aA (.var 0) (.lit 3)))
  (.loop 72 {lo:=72,ah:=4,iv:=[(72,yv 71)]} <|
   .br (.bO (.var 72) (.lit 9))
   (.ob (.ai y0 (.var 72)) <|
    .br (.not (.and (.aA (.cell 54 (.var 72) y0 0) y0) (.and (.aA (.cell 54 (.var 72) y0 1) y0) (.and (.aA (.cell 54 (.var 72) y0 2) y0) (.and (.aA (.cell 54 (.var 72) y0 3) y0) (.not (.cell 54 (.var 72) y0 4)))))))
    (.call 0 {lo:=0,ah:=0,iv:=[(1,yv 72),(0,yv 1)]} 73 <|
     .fin {lo:=72,ah:=4,iv:=yo [(138,yv 70)]<|yr 133 65 7<|yo [(125,yv 57),(124,yv 56),(121,yv 53),(120,yv 52),(137,yv 69),(118,yv 50),(117,yv 49),(115,yv 72)]<|yr 113 45 4<|yr 108 40 4<|yo [yz 103,yz 102,yz 101,yz 100,yz 98,yz 97,yz 96,yz 95,(94,.add (.add (.lit 25) (.mul (.var 1) (.lit 9))) (.var 72)),yz 93,yz 92,(91,.lit 2),(90,.lit 4)]<|yr 89 21 4<|yr 84 16 4<|yr 79 11 8 [],bv:=[(135,yw 67),(134,yw 66),(126,yw 58),(123,yw 55),(119,yw 51),(116,yw 48),(114,yw 46),(109,yw 41),(104,.lit false),(99,.lit false),(85,yw 17),(80,yw 12)],ct:=[(138,yu 70 59 7 yN 0),(137,yu 69 70 7 yN 0),(136,yu 68 49 5 yW 0),(122,.up {r:=54,n1:=.lit 9,s1:=5,lo:=50,ks:=yW} 0 [⟨0,(.var 72),y0,4,.bool (.lit false)⟩,⟨0,(.var 72),y0,3,.int .i64 y0⟩,⟨0,(.var 72),y0,2,.int .i64 y0⟩,⟨0,(.var 72),y0,1,.int .i64 y0⟩,⟨0,(.var 72),y0,0,.int .i64 y0⟩] y0)],bk:=[(6,yc 3 7),(5,yc 2 7),(4,yc 1 5)]})
    (.ob (.inr .i64 (.add (.var 72) y1)) <|
     .back 0 {lo:=72,ah:=4,iv:=[(72,.add (.var 72) y1)]}))
   (.fin {lo:=72,ah:=4,iv:=ad3,bv:=ad4,ct:=[(138,yu 70 59 7 yN 0),(122,yl 54 9 5 50 yW 0)],bk:=[(6,yc 3 7)],nb:=[5,4,5,4]}))
  (.fin {lo:=72,ah:=4,iv:=ad3,bv:=ad4,ct:=[(138,yu 70 59 7 yN 0),(122,yl 54 9 5 50 yW 0)],bk:=[(6,yc 3 7)],nb:=[5,4,5,4]}))
theorem Vu:exec tab Vt 8000 [] (fE iU.f iU.nv [] iU.gl iU.hp iU.args)=EH:=by kernel_rfl
def oD (ρ:Env):Prop:=bH ρ 4∧xz ρ∧0≤ρ.iv 71∧ρ.iv 71≤9
def vz (ρ:Env):Prop:=bH ρ 72∧aa ρ 0 72=(aa ρ 0 4).leave (ρ.iv 71)
def Nr (ρ:Env):Prop:=oD ρ∧(0≤ρ.iv 72∧ρ.iv 72≤9)∧((¬((aa ρ 0 4).bY∧(aa ρ 0 4).span≠Sp.zero))∧(aa ρ 0 4).bL)∧RS.first (aa ρ 0 4).holds (ρ.iv 71).toNat (9-(ρ.iv 71).toNat)=RS.first (aa ρ 0 4).holds (ρ.iv 72).toNat (9-(ρ.iv 72).toNat)
theorem Vv (ρ:Env) (hpre:oD ρ.num):Sat vz BK [] ρ EH:=by
 replace hpre:oD ρ:=hpre
 have hpre':=hpre
 obtain ⟨⟨o1,o2,o3⟩,⟨s1,s2,s3,s4⟩,n1,n2⟩:=hpre
 unfold EH
 refine Sat.br (fun c=>?_) (fun c=>?_)
 ·simp only [Da] at c
  have hA:(aa ρ 0 4).bY∧(aa ρ 0 4).span≠Sp.zero:=by
   refine ⟨c.1,fun h=>?_⟩
   have h':(⟨ρ.bv 55,ρ.iv 56,ρ.iv 57⟩:Sp)=⟨false,0,0⟩:=h
   simp only [Sp.mk.injEq] at h'
   simp_all
  have hm:(aa ρ 0 4).leave (ρ.iv 71)=(aa ρ 0 4).eF 2 Sp.zero:=if_pos hA
  refine Sat.jk (c:=gY) rfl ⟨s1,s2⟩ (fun q=>(bH q 4)∧(aa q 0 4).leave (q.iv 71)=(aa q 0 4).eF 2 Sp.zero) (fun e _=>⟨⟨o1,o2,o3⟩,hm⟩) fun q hq=>?_
  obtain ⟨⟨o1,o2,o3⟩,hm⟩:=hq
  exact Sat.fin ⟨cu,Eq.trans (b:=(aa q 0 4).eF 2 Sp.zero) aF (Eq.symm hm)⟩
 ·simp only [Da] at c
  have hA:¬((aa ρ 0 4).bY∧(aa ρ 0 4).span≠Sp.zero):=by
   rintro ⟨h1,h2⟩
   apply h2
   show (⟨ρ.bv 55,ρ.iv 56,ρ.iv 57⟩:Sp)=⟨false,0,0⟩
   have h1:ρ.iv 0=4∨ρ.iv 0=5:=h1
   rcases c with c | ⟨a,b,c⟩
   ·omega
   ·rw [a,b,c]
  refine Sat.br (fun c2=>?_) (fun c2=>?_)
  ·simp only [Da] at c2
   have hk:(aa ρ 0 4).bL:=c2
   refine Sat.zb Nr (fun r=>(9-r.iv 72).toNat) (fun _=>True) ⟨hpre',⟨n1,n2⟩,⟨hA,hk⟩,rfl⟩ (fun _=>trivial) fun q _ hI=>?_
   replace hI:Nr q:=hI
   obtain ⟨⟨⟨o1,o2,o3⟩,⟨s1,s2,s3,s4⟩,n1,n2⟩,⟨i1,i2⟩,⟨hA,hk⟩,hf⟩:=hI
   have hpre':oD q:=⟨⟨o1,o2,o3⟩,⟨s1,s2,s3,s4⟩,n1,n2⟩
   refine Sat.br (fun c=>?_) (fun c=>?_)
   ·simp only [Da] at c
    have hs:9-(q.iv 72).toNat=(9-(q.iv 72+1).toNat)+1:=by omega
    rw [hs] at hf
    refine Sat.ob (decide_eq_true i1) (Sat.br (fun c3=>?_) (fun c3=>?_))
    ·simp only [Da] at c3
     have hne:(aa q 0 4).holds (q.iv 72).toNat≠Wd.zero:=fun h=>by
      have h':=pX.1 h
      simp only [aa,aO,Wd.zero] at h'
      simp_all
     have hm:(aa q 0 4).leave (q.iv 71)=({aa q 0 4 with index:=q.iv 72}:RS).post 4 (q.iv 72) Wd.zero:=by
      have e:RS.first (aa q 0 4).holds (q.iv 71).toNat (9-(q.iv 71).toNat)=some (q.iv 72).toNat:=by rw [hf];exact if_pos hne
      unfold RS.leave
      rw [if_neg hA,if_pos hk,e]
      simp only [Int.toNat_of_nonneg i1]
     refine Sat.jk (c:=gN) rfl ⟨⟨s1,s2⟩,i1,c⟩ (fun r=>((bH r 4)∧0≤r.iv 72)∧(aa r 0 4).leave (r.iv 71)=({aa r 0 4 with index:=r.iv 72}:RS).post 4 (r.iv 72) Wd.zero) (fun e _=>⟨⟨⟨o1,o2,o3⟩,i1⟩,hm⟩) fun r hr=>?_
     obtain ⟨⟨⟨o1,o2,o3⟩,i1⟩,hm⟩:=hr
     refine Sat.fin ⟨cu,Eq.trans (b:=({aa r 0 4 with index:=r.iv 72}:RS).post 4 (r.iv 72) Wd.zero) (RS.ext' rfl rfl rfl rfl rfl rfl vk GU rfl rfl rfl rfl ?_ rfl zX rfl rfl) (Eq.symm hm)⟩
     intro i
     show _=if i=(r.iv 72).toNat then Wd.zero else aO (r.ic 54 i 0) (r.bc 54 i 0)
     by_cases h:i=(r.iv 72).toNat
     ·subst h
      simp [aa,aO,Wd.zero,-Int.pred_toNat,Sub.ag,assoc,CV.I,CV.B,aj,ak,ae.I,ae.B,SC.I,SC.B,IE.den,BE.den]
     ·simp [aa,aO,-Int.pred_toNat,Sub.ag,assoc,CV.I,CV.B,aj,ak,ae.I,ae.B,SC.I,SC.B,IE.den,BE.den,h,Ne.symm h]
    ·simp only [Da] at c3
     have he:(aa q 0 4).holds (q.iv 72).toNat=Wd.zero:=by
      apply pX.2
      simp only [aa,aO,Wd.zero]
      simp_all
     refine Sat.ob (by simp only [Da];omega) (Sat.back rfl ⟨⟨hpre',⟨?_,?_⟩,⟨hA,hk⟩,?_⟩,?_⟩)
     ·show 0≤q.iv 72+1;omega
     ·show q.iv 72+1≤9;omega
     ·show RS.first (aa q 0 4).holds (q.iv 71).toNat (9-(q.iv 71).toNat)=RS.first (aa q 0 4).holds (q.iv 72+1).toNat (9-(q.iv 72+1).toNat)
      rw [hf,show (q.iv 72+1).toNat=(q.iv 72).toNat+1 by omega]
      exact if_neg (fun h=>h he)
     ·show (9-(q.iv 72+1)).toNat<(9-q.iv 72).toNat
      omega
   ·simp only [Da] at c
    have hm:(aa q 0 4).leave (q.iv 71)=(aa q 0 4).done:=by
     have e:RS.first (aa q 0 4).holds (q.iv 71).toNat (9-(q.iv 71).toNat)=none:=by rw [hf,show 9-(q.iv 72).toNat=0 by omega];rfl
     unfold RS.leave
     rw [if_neg hA,if_pos hk,e]
    exact Sat.fin ⟨cu,Eq.trans (b:=(aa q 0 4).done) aF (Eq.symm hm)⟩
  ·simp only [Da] at c2
   have hk:¬(aa ρ 0 4).bL:=fun h:ρ.iv 0=2∨ρ.iv 0=3=>by omega
   have hm:(aa ρ 0 4).leave (ρ.iv 71)=(aa ρ 0 4).done:=by
    unfold RS.leave
    rw [if_neg hA,if_neg hk]
   exact Sat.fin ⟨cu,Eq.trans (b:=(aa ρ 0 4).done) aF (Eq.symm hm)⟩
theorem Ki:bg Tryz.prog iU oD vz :=
 dA dO (E:=Vt) (cs:=BK) rfl IU bX rfl Vu (by kernel_rfl) (fun ρ _ p hp=>by cases hp) Vv
def zk (ρ:Env):Prop:=bH ρ 4∧xz ρ
def SF:mO:=[(ji,sW,uy)]
theorem abR:∀k pre post,(k,pre,post)∈SF→ku k=true∧bg Tryz.prog k pre post:=by
 intro k pre post h
 simp only [SF,List.mem_cons,List.not_mem_nil,or_false,Prod.mk.injEq] at h
 obtain ⟨rfl,rfl,rfl⟩:=h
 exact ⟨by kernel_rfl,Nq⟩
noncomputable def aaj:Ex:={sched:=sched,loops:=[],cons:=[ji],fin:=jI}
def IX:Out :=
 .br (.aA (.var 0) y1)
 (.fin {lo:=71,ah:=4,iv:=yo [yz 132,yz 131,yz 130,yz 129]<|yr 128 61 3<|[(124,yv 57),(123,yv 56),yz 120,yz 119,yz 117,yz 116,yz 114,yz 112,yz 111,yz 110,yz 109,yz 107,yz 106,yz 105,yz 104,yz 102,yz 101,yz 100,yz 99,yz 97,yz 96,yz 95,yz 94,yz 93,yz 92,yz 91,yz 90,yz 89,yz 88,yz 87,yz 86,yz 85,yz 83,yz 82,yz 81,yz 80,yz 78,yz 77,yz 76,yz 75,yz 74,yz 73,yz 72,yz 71],bv:=[(134,.lit true),(133,.lit false),(125,yw 58),(122,yw 55),(118,.lit true),(115,.lit true),(113,.lit false),(108,.lit false),(103,.lit false),(98,.lit false),(84,.lit false),(79,.lit false)],ct:=[(137,yu 70 59 7 yN 0),(121,yl 54 9 5 50 yW 0)],bk:=[(6,yc 3 7)],nb:=[5,4,5,4]})
 (.br (.aA (.var 0) (.lit 4))
  (.fin {lo:=71,ah:=4,iv:=yo [(137,yv 70)]<|yr 132 65 7<|yo [(124,yv 57),(123,yv 56),(120,yv 53),(119,yv 52),(136,yv 69),(117,yv 50),(116,yv 49),(114,yv 47)]<|yr 112 45 4<|yr 107 40 4<|yo [yz 102,yz 101,yz 100,yz 99,yz 97,yz 96,yz 95,yz 94,(93,.lit 24),yz 92,yz 91,(90,.lit 1),(89,.lit 12)]<|yr 88 21 4<|yr 83 16 4<|yr 78 11 8 [],bv:=[(134,yw 67),(133,yw 66),(125,yw 58),(122,yw 55),(118,yw 51),(115,yw 48),(113,yw 46),(108,yw 41),(103,.lit false),(98,.lit false),(84,yw 17),(79,yw 12)],ct:=[(137,yu 70 59 7 yN 0),(136,yu 69 70 7 yN 0),(135,yu 68 49 5 yW 0),(121,yl 54 9 5 50 yW 0)],bk:=[(6,yc 3 7),(5,yc 2 7),(4,yc 1 5)]})
  (.call 0 {lo:=0,ah:=0,iv:=yo [(70,yv 70)]<|yr 65 65 7<|yo [(57,yv 57),(56,yv 56)]<|yr 3 3 4<|yo [(53,yv 53),(52,yv 52),(69,yv 69),(50,yv 50),(49,yv 49),(47,yv 47)]<|yr 45 45 4<|yr 40 40 4<|yr 35 35 4<|yr 30 30 13<|yr 16 16 4<|yr 11 11 8<|[yz 71],bv:=[(67,yw 67),(66,yw 66),(58,yw 58),(55,yw 55),(51,yw 51),(48,yw 48),(46,yw 46),(41,yw 41),(36,yw 36),(31,yw 31),(17,yw 17),(12,yw 12)],ct:=[(70,yu 70 59 7 yN 0),(69,yu 69 70 7 yN 0),(68,yu 68 49 5 yW 0),(54,yl 54 9 5 50 yW 0)],bk:=[(3,yc 3 7),(2,yc 2 7),(1,yc 1 5),(0,yb 0)]} 71 <|
   .fin {lo:=71,ah:=4,iv:=yo [(137,yv 137)]<|yr 132 132 7<|yo [(124,yv 124),(123,yv 123),(120,yv 120),(119,yv 119),(136,yv 136),(117,yv 117),(116,yv 116),(114,yv 114)]<|yr 112 112 4<|yr 107 107 4<|yr 102 102 4<|yr 97 97 13<|yr 83 83 4<|yr 78 78 8 [],bv:=[(134,yw 134),(133,yw 133),(125,yw 125),(122,yw 122),(118,yw 118),(115,yw 115),(113,yw 113),(108,yw 108),(103,yw 103),(98,yw 98),(84,yw 84),(79,yw 79)],ct:=[(137,yu 137 126 7 yN 0),(136,yu 136 137 7 yN 0),(135,yu 135 116 5 yW 0),(121,yl 121 9 5 50 yW 0)],bk:=[(6,yc 6 7),(5,yc 5 7),(4,yc 4 5)]}))
theorem Yt:exec tab aaj 8000 [] (fE jI.f jI.nv [] jI.gl jI.hp jI.args)=IX:=by kernel_rfl
def zl (ρ:Env):Prop:=bH ρ 71∧aa ρ 0 71=(aa ρ 0 4).scan
theorem Yu (ρ:Env) (hpre:zk ρ.num):Sat zl SF [] ρ IX:=by
 replace hpre:zk ρ:=hpre
 obtain ⟨⟨o1,o2,o3⟩,hs⟩:=hpre
 unfold IX
 refine Sat.br (fun c=>?_) (fun c=>?_)
 ·simp only [Da] at c
  have hm:(aa ρ 0 4).scan=(aa ρ 0 4).done:=if_pos c
  exact Sat.fin ⟨cu,Eq.trans (b:=(aa ρ 0 4).done) aF (Eq.symm hm)⟩
 ·simp only [Da] at c
  refine Sat.br (fun c2=>?_) (fun c2=>?_)
  ·simp only [Da] at c2
   have hm:(aa ρ 0 4).scan=(aa ρ 0 4).era 12:=(if_neg c).trans (if_pos c2)
   exact Sat.fin ⟨cu,Eq.trans (b:=(aa ρ 0 4).era 12) aF (Eq.symm hm)⟩
  ·simp only [Da] at c2
   have hm:(aa ρ 0 4).scan=((aa ρ 0 4).look 0).getD (aa ρ 0 4):=(if_neg c).trans (if_neg c2)
   refine eU (c:=ji) rfl (aa ρ 0 4) (((aa ρ 0 4).look 0).getD (aa ρ 0 4)) (by decide) (by decide) (jQ rfl rfl rfl rfl) ⟨⟨o1,o2,o3⟩,hs,Int.le_refl 0,(show (0:Int)≤1000000 by decide)⟩ aF (fun e hq hr=>⟨hq.1,by
     have h2:=hq.2.2
     rw [hr] at h2
     exact h2⟩) (fun q=>(bH q 71)∧aa q 0 71=(aa q 0 4).scan) (fun e h1 h2=>⟨h1,h2.trans hm.symm⟩) fun q hq=>?_
   obtain ⟨⟨o1,o2,o3⟩,hm⟩:=hq
   exact Sat.fin ⟨cu,Eq.trans (b:=(aa q 0 71)) aF (Eq.symm hm.symm)⟩
theorem Ns:bg Tryz.prog jI zk zl :=
 dA dO (E:=aaj) (cs:=SF) rfl abR bX rfl Yt (by kernel_rfl) (fun ρ _ p hp=>by cases hp) Yu
end Go.Proofs.YthomdlajobnmnaaGreatDoor
