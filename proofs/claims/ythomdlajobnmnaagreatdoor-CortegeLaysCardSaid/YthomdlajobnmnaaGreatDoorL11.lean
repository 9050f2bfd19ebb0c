/- part 11 of the proof -/
import Derived.Test.YthomdlajobnmnaaGreatDoorL10
set_option linter.unusedSimpArgs false
set_option linter.unusedVariables false
namespace Go.Proofs.YthomdlajobnmnaaGreatDoor
open Go.Rex
def aF (f:Nat→Int) (g:Nat→Bool):Wd:=⟨f 0,f 1,f 2,f 3,g 4⟩
def ak (ρ:Env) (v:Nat):Wd:=⟨ρ.iv v,ρ.iv (v+1),ρ.iv (v+2),ρ.iv (v+3),ρ.bv (v+4)⟩
def ay (ρ:Env) (v:Nat):Ac:=⟨ρ.iv v,ρ.iv (v+1),ρ.iv (v+2),ρ.iv (v+3),ak ρ (v+4),ak ρ (v+9)⟩
def aG (ρ:Env) (v:Nat):Rp:=⟨ak ρ v,ρ.bv (v+5)⟩
def af (ρ:Env) (n m:Int) (w:Nat):PS where
 nb:=n
 ns:=m
 nf:=ρ.iv (w+1)
 steps:=ρ.iv (w+3)
 made:=ρ.iv (w+4)
 dD:=ρ.bv (w+5)
 bd:=fun i=>aF (ρ.ic (w+6) i 0) (ρ.bc (w+6) i 0)
 gen:=fun i=>ρ.ic (w+7) i 0 0
 used:=fun i=>ρ.bc (w+7) i 0 1
 cell:=fun i k=>aF (ρ.ic (w+8) i k) (ρ.bc (w+8) i k)
 fr:=fun i=>ρ.ic (w+9) i 0 0
def bG (ρ:Env) (b:Nat):Prop:=(ρ.bv b=true→ρ.iv (b+1)=0)∧0≤ρ.iv (b+1)∧ρ.iv (b+1)≤ρ.iv (b+2)∧ρ.iv (b+2)≤9223372036854775807
theorem aK {ρ:Env} {b:Nat} (h:bG ρ b):(BE.or (.not (.var b)) (.aB (.var (b+1)) (.lit 0))).den ρ=true:=by
 have h1:=h.1
 simp only [BE.den,IE.den,Bool.or_eq_true,Bool.not_eq_true',beq_iff_eq]
 cases hb:ρ.bv b
 ·exact .inl rfl
 ·exact .inr (h1 hb)
theorem bW {ρ:Env} {b:Nat} (h:bG ρ b) (h2:0<ρ.iv (b+1)):(BE.not (.var b)).den ρ=true:=by
 have h1:=h.1
 simp only [BE.den,Bool.not_eq_true']
 cases hb:ρ.bv b
 ·rfl
 ·have:=h1 hb
  omega
theorem PS.ext' {p q:PS} (h1:p.nb=q.nb) (h2:p.ns=q.ns) (h3:p.nf=q.nf) (h4:p.steps=q.steps) (h5:p.made=q.made) (h6:p.dD=q.dD) (h7:∀i,p.bd i=q.bd i) (h8:∀i,p.gen i=q.gen i) (h9:∀i,p.used i=q.used i)
  (h10:∀i k,p.cell i k=q.cell i k) (h11:∀i,p.fr i=q.fr i):p=q:=by
 cases p
 cases q
 simp only at *
 subst h1 h2 h3 h4 h5 h6
 obtain rfl:=funext h7
 obtain rfl:=funext h8
 obtain rfl:=funext h9
 obtain rfl:=funext fun i=>funext (h10 i)
 obtain rfl:=funext h11
 rfl
theorem qz {p:PS} {a:Ac} (h:¬p.valid a):p.act a=(p,none):=by simp [PS.act,h]
theorem fE {p:PS} {a:Ac} (h:p.valid a) (h2:¬p.right a):p.act a=({p with steps:=p.steps+1,dD:=false},some (fq a.kind)):=by simp [PS.act,h,h2]
theorem YN {p:PS} {a:Ac} (h:p.valid a) (h2:p.right a):p.act a=((PS.makes {p with steps:=p.steps+1} a).1,some (PS.makes {p with steps:=p.steps+1} a).2):=by simp [PS.act,h,h2]
section
variable {p:PS} {a:Ac}
theorem ma {P:PS} {R:Rp} (h:p.valid a) (h2:p.right a) (hm:PS.makes {p with steps:=p.steps+1} a=(P,R)):p.act a=(P,some R):=by rw [YN h h2,hm]
theorem WQ (h:a.kind=1) (h0:a.slot=0):p.makes a=(p,⟨p.bd a.field.toNat,true⟩):=by simp [PS.makes,h,PS.at,h0]
theorem WR (h:a.kind=1) (h0:¬a.slot=0):p.makes a=(p,⟨p.cell (a.slot-1).toNat a.field.toNat,true⟩):=by simp [PS.makes,h,PS.at,h0]
theorem WS (h:a.kind=2) (h0:a.slot=0):p.makes a=({p with bd:=fun i=>if i=a.field.toNat then a.new else p.bd i},⟨Wd.zero,true⟩):=by simp [PS.makes,h,PS.put,h0]
theorem WT (h:a.kind=2) (h0:¬a.slot=0):p.makes a=({p with cell:=fun i k=>if i=(a.slot-1).toNat∧k=a.field.toNat then a.new else p.cell i k},⟨Wd.zero,true⟩):=by simp [PS.makes,h,PS.put,h0]
theorem WU (h:a.kind=3) (h0:a.slot=0) (hs:je (p.bd a.field.toNat) a.old):p.makes a=({p with bd:=fun i=>if i=a.field.toNat then a.new else p.bd i},⟨p.bd a.field.toNat,true⟩):=by simp [-Int.pred_toNat,PS.makes,h,PS.put,PS.at,h0,hs]
theorem WV (h:a.kind=3) (h0:¬a.slot=0) (hs:je (p.cell (a.slot-1).toNat a.field.toNat) a.old):p.makes a=({p with cell:=fun i k=>if i=(a.slot-1).toNat∧k=a.field.toNat then a.new else p.cell i k},⟨p.cell (a.slot-1).toNat a.field.toNat,true⟩):=by simp [-Int.pred_toNat,PS.makes,h,PS.put,PS.at,h0,hs]
theorem Tw (h:a.kind=3) (h0:a.slot=0) (hs:¬je (p.bd a.field.toNat) a.old):p.makes a=(p,⟨p.bd a.field.toNat,false⟩):=by simp [-Int.pred_toNat,PS.makes,h,PS.at,h0,hs]
theorem Tx (h:a.kind=3) (h0:¬a.slot=0) (hs:¬je (p.cell (a.slot-1).toNat a.field.toNat) a.old):p.makes a=(p,⟨p.cell (a.slot-1).toNat a.field.toNat,false⟩):=by simp [-Int.pred_toNat,PS.makes,h,PS.at,h0,hs]
theorem WW (h:a.kind=4) (h0:p.nf=0):p.makes a=(p,Rp.no):=by simp [PS.makes,h,PS.alloc,h0]
theorem WX (h:a.kind=4) (h0:¬p.nf=0):p.makes a=({p with nf:=p.nf-1,made:=p.made+1,gen:=fun i=>if i=(p.fr (p.nf-1).toNat-1).toNat then p.gen (p.fr (p.nf-1).toNat-1).toNat+1 else p.gen i,used:=fun i=>if i=(p.fr (p.nf-1).toNat-1).toNat then true else p.used i,cell:=fun i k=>if i=(p.fr (p.nf-1).toNat-1).toNat∧k<10 then gQ a.new.num k else p.cell i k},⟨⟨p.fr (p.nf-1).toNat,p.gen (p.fr (p.nf-1).toNat-1).toNat+1,0,0,false⟩,true⟩):=by
 unfold PS.makes PS.alloc
 rw [if_pos h,if_neg h0]
theorem YO (h:a.kind=5):p.makes a=(p.free a.old.slot,⟨Wd.zero,true⟩):=by simp [PS.makes,h]
end
noncomputable def doE:Ex:={sched:=sched,loops:=[],fin:=nI}
def Og:Out :=
 .br (.aB (.var 0) (.lit 1))
 (.br (.aB (.var 1) (.lit 0))
  (.ob (.or (.not (.and (.aB (.var 2) (.lit 0)) (.aA (.lit 0) (.var 3)))) (.aA (.lit 0) (.var 14))) <|
   .br (.not (.and (.and (.aB (.var 2) (.lit 0)) (.aA (.lit 0) (.var 3))) (.bS (.var 3) (.var 14))))
   (.fin {lo:=26,az:=13,iv:=yr 37 20 4<|[(29,.lit 0),(28,.lit 0),(27,.lit 0),(26,.lit 0)],bv:=[(38,yw 21),(33,yw 16),(32,.lit false),(31,.lit false),(30,.lit false)],ct:=[(42,yu 25 17 1 yI 0),(41,.up {r:=24,n1:=.var 15,s1:=52,n2:=10,s2:=5,lo:=2,ks:=yW} 1 [] (.lit 0)),(40,yu 23 15 52 yB 0),(39,yu 22 14 5 yW 0)],bk:=[(14,yb 12),(13,yc 11 1)]})
   (.ob (.inr .i64 (.add (.var 19) (.lit 1))) <|
    .fin {lo:=26,az:=13,iv:=[(37,yv 20),(36,.add (.var 19) (.lit 1)),(35,yv 18),(34,yv 17),(29,.cell 22 (.var 3) (.lit 0) 3),(28,.cell 22 (.var 3) (.lit 0) 2),(27,.cell 22 (.var 3) (.lit 0) 1),(26,.cell 22 (.var 3) (.lit 0) 0)],bv:=[(38,yw 21),(33,yw 16),(32,.lit true),(31,.lit true),(30,.cell 22 (.var 3) (.lit 0) 4)],ct:=[(42,yu 25 17 1 yI 0),(41,.up {r:=24,n1:=.var 15,s1:=52,n2:=10,s2:=5,lo:=2,ks:=yW} 1 [] (.lit 0)),(40,yu 23 15 52 yB 0),(39,yu 22 14 5 yW 0)],bk:=[(14,yb 12),(13,yc 11 1)],nb:=[1]}))
  (.ob (.or (.not (.aA (.lit 1) (.var 1))) (.aA (.lit 0) (.var 15))) <|
   .br (.not (.and (.and (.and (.aA (.lit 1) (.var 1)) (.aA (.var 1) (.var 15))) (.aA (.lit 0) (.var 3))) (.bS (.var 3) (.lit 10))))
   (.fin {lo:=26,az:=13,iv:=yr 37 20 4<|[(29,.lit 0),(28,.lit 0),(27,.lit 0),(26,.lit 0)],bv:=[(38,yw 21),(33,yw 16),(32,.lit false),(31,.lit false),(30,.lit false)],ct:=[(42,yu 25 17 1 yI 0),(41,.up {r:=24,n1:=.var 15,s1:=52,n2:=10,s2:=5,lo:=2,ks:=yW} 1 [] (.lit 0)),(40,yu 23 15 52 yB 0),(39,yu 22 14 5 yW 0)],bk:=[(14,yb 12),(13,yc 11 1)]})
   (.ob (.inr .i64 (.add (.var 19) (.lit 1))) <|
    .ob (.inr .i64 (.sub (.var 1) (.lit 1))) <|
    .ob (.aA (.lit 0) (.sub (.var 1) (.lit 1))) <|
    .ob (.bS (.sub (.var 1) (.lit 1)) (.var 15)) <|
    .br (.not (.cell 23 (.sub (.var 1) (.lit 1)) (.lit 0) 1))
    (.br (.var 21)
     (.fin {lo:=26,az:=13,iv:=[(37,yv 20),(36,.add (.var 19) (.lit 1)),(35,yv 18),(34,yv 17),(29,.lit (-1)),(28,.lit 0),(27,.lit 0),(26,.lit 0)],bv:=[(38,.lit false),(33,yw 16),(32,.lit true),(31,.lit false),(30,.lit false)],ct:=[(42,yu 25 17 1 yI 0),(41,.up {r:=24,n1:=.var 15,s1:=52,n2:=10,s2:=5,lo:=2,ks:=yW} 1 [] (.lit 0)),(40,yu 23 15 52 yB 0),(39,yu 22 14 5 yW 0)],bk:=[(14,yb 18),(13,yc 11 1)],nb:=[1]})
     (.fin {lo:=26,az:=13,iv:=[(37,yv 20),(36,.add (.var 19) (.lit 1)),(35,yv 18),(34,yv 17),(29,.lit (-1)),(28,.lit 0),(27,.lit 0),(26,.lit 0)],bv:=[(38,yw 21),(33,yw 16),(32,.lit true),(31,.lit false),(30,.lit false)],ct:=[(42,yu 25 17 1 yI 0),(41,.up {r:=24,n1:=.var 15,s1:=52,n2:=10,s2:=5,lo:=2,ks:=yW} 1 [] (.lit 0)),(40,yu 23 15 52 yB 0),(39,yu 22 14 5 yW 0)],bk:=[(14,yb 12),(13,yc 11 1)],nb:=[1]}))
    (.br (.not (.aB (.cell 23 (.sub (.var 1) (.lit 1)) (.lit 0) 0) (.var 2)))
     (.br (.var 21)
      (.fin {lo:=26,az:=13,iv:=[(37,yv 20),(36,.add (.var 19) (.lit 1)),(35,yv 18),(34,yv 17),(29,.lit (-1)),(28,.lit 0),(27,.lit 0),(26,.lit 0)],bv:=[(38,.lit false),(33,yw 16),(32,.lit true),(31,.lit false),(30,.lit false)],ct:=[(42,yu 25 17 1 yI 0),(41,.up {r:=24,n1:=.var 15,s1:=52,n2:=10,s2:=5,lo:=2,ks:=yW} 1 [] (.lit 0)),(40,yu 23 15 52 yB 0),(39,yu 22 14 5 yW 0)],bk:=[(14,yb 18),(13,yc 11 1)],nb:=[1]})
      (.fin {lo:=26,az:=13,iv:=[(37,yv 20),(36,.add (.var 19) (.lit 1)),(35,yv 18),(34,yv 17),(29,.lit (-1)),(28,.lit 0),(27,.lit 0),(26,.lit 0)],bv:=[(38,yw 21),(33,yw 16),(32,.lit true),(31,.lit false),(30,.lit false)],ct:=[(42,yu 25 17 1 yI 0),(41,.up {r:=24,n1:=.var 15,s1:=52,n2:=10,s2:=5,lo:=2,ks:=yW} 1 [] (.lit 0)),(40,yu 23 15 52 yB 0),(39,yu 22 14 5 yW 0)],bk:=[(14,yb 12),(13,yc 11 1)],nb:=[1]}))
     (.fin {lo:=26,az:=13,iv:=[(37,yv 20),(36,.add (.var 19) (.lit 1)),(35,yv 18),(34,yv 17),(29,.cell 24 (.sub (.var 1) (.lit 1)) (.var 3) 3),(28,.cell 24 (.sub (.var 1) (.lit 1)) (.var 3) 2),(27,.cell 24 (.sub (.var 1) (.lit 1)) (.var 3) 1),(26,.cell 24 (.sub (.var 1) (.lit 1)) (.var 3) 0)],bv:=[(38,yw 21),(33,yw 16),(32,.lit true),(31,.lit true),(30,.cell 24 (.sub (.var 1) (.lit 1)) (.var 3) 4)],ct:=[(42,yu 25 17 1 yI 0),(41,.up {r:=24,n1:=.var 15,s1:=52,n2:=10,s2:=5,lo:=2,ks:=yW} 1 [] (.lit 0)),(40,yu 23 15 52 yB 0),(39,yu 22 14 5 yW 0)],bk:=[(14,yb 12),(13,yc 11 1)],nb:=[1]})))))
 (.br (.aB (.var 0) (.lit 2))
  (.br (.aB (.var 1) (.lit 0))
   (.ob (.or (.not (.and (.aB (.var 2) (.lit 0)) (.aA (.lit 0) (.var 3)))) (.aA (.lit 0) (.var 14))) <|
    .br (.not (.and (.and (.aB (.var 2) (.lit 0)) (.aA (.lit 0) (.var 3))) (.bS (.var 3) (.var 14))))
    (.fin {lo:=26,az:=13,iv:=yr 37 20 4<|[(29,.lit 0),(28,.lit 0),(27,.lit 0),(26,.lit 0)],bv:=[(38,yw 21),(33,yw 16),(32,.lit false),(31,.lit false),(30,.lit false)],ct:=[(42,yu 25 17 1 yI 0),(41,.up {r:=24,n1:=.var 15,s1:=52,n2:=10,s2:=5,lo:=2,ks:=yW} 1 [] (.lit 0)),(40,yu 23 15 52 yB 0),(39,yu 22 14 5 yW 0)],bk:=[(14,yb 12),(13,yc 11 1)]})
    (.ob (.inr .i64 (.add (.var 19) (.lit 1))) <|
     .fin {lo:=26,az:=13,iv:=[(37,yv 20),(36,.add (.var 19) (.lit 1)),(35,yv 18),(34,yv 17),(29,.lit 0),(28,.lit 0),(27,.lit 0),(26,.lit 0)],bv:=[(38,yw 21),(33,yw 16),(32,.lit true),(31,.lit true),(30,.lit false)],ct:=[(42,yu 25 17 1 yI 0),(41,.up {r:=24,n1:=.var 15,s1:=52,n2:=10,s2:=5,lo:=2,ks:=yW} 1 [] (.lit 0)),(40,yu 23 15 52 yB 0),(39,.up {r:=22,n1:=.var 14,s1:=5,ks:=yW} 0 [⟨0,(.var 3),(.lit 0),4,.bool (.var 13)⟩,⟨0,(.var 3),(.lit 0),3,.int .i64 (.var 12)⟩,⟨0,(.var 3),(.lit 0),2,.int .i64 (.var 11)⟩,⟨0,(.var 3),(.lit 0),1,.int .i64 (.var 10)⟩,⟨0,(.var 3),(.lit 0),0,.int .i64 (.var 9)⟩] (.lit 0))],bk:=[(14,yb 12),(13,yc 11 1)],nb:=[1]}))
   (.ob (.or (.not (.aA (.lit 1) (.var 1))) (.aA (.lit 0) (.var 15))) <|
    .br (.not (.and (.and (.and (.aA (.lit 1) (.var 1)) (.aA (.var 1) (.var 15))) (.aA (.lit 0) (.var 3))) (.bS (.var 3) (.lit 10))))
    (.fin {lo:=26,az:=13,iv:=yr 37 20 4<|[(29,.lit 0),(28,.lit 0),(27,.lit 0),(26,.lit 0)],bv:=[(38,yw 21),(33,yw 16),(32,.lit false),(31,.lit false),(30,.lit false)],ct:=[(42,yu 25 17 1 yI 0),(41,.up {r:=24,n1:=.var 15,s1:=52,n2:=10,s2:=5,lo:=2,ks:=yW} 1 [] (.lit 0)),(40,yu 23 15 52 yB 0),(39,yu 22 14 5 yW 0)],bk:=[(14,yb 12),(13,yc 11 1)]})
    (.ob (.inr .i64 (.add (.var 19) (.lit 1))) <|
     .ob (.inr .i64 (.sub (.var 1) (.lit 1))) <|
     .ob (.aA (.lit 0) (.sub (.var 1) (.lit 1))) <|
     .ob (.bS (.sub (.var 1) (.lit 1)) (.var 15)) <|
     .br (.not (.cell 23 (.sub (.var 1) (.lit 1)) (.lit 0) 1))
     (.br (.var 21)
      (.fin {lo:=26,az:=13,iv:=[(37,yv 20),(36,.add (.var 19) (.lit 1)),(35,yv 18),(34,yv 17),(29,.lit 0),(28,.lit 0),(27,.lit 0),(26,.lit 0)],bv:=[(38,.lit false),(33,yw 16),(32,.lit true),(31,.lit false),(30,.lit false)],ct:=[(42,yu 25 17 1 yI 0),(41,.up {r:=24,n1:=.var 15,s1:=52,n2:=10,s2:=5,lo:=2,ks:=yW} 1 [] (.lit 0)),(40,yu 23 15 52 yB 0),(39,yu 22 14 5 yW 0)],bk:=[(14,yb 18),(13,yc 11 1)],nb:=[1]})
      (.fin {lo:=26,az:=13,iv:=[(37,yv 20),(36,.add (.var 19) (.lit 1)),(35,yv 18),(34,yv 17),(29,.lit 0),(28,.lit 0),(27,.lit 0),(26,.lit 0)],bv:=[(38,yw 21),(33,yw 16),(32,.lit true),(31,.lit false),(30,.lit false)],ct:=[(42,yu 25 17 1 yI 0),(41,.up {r:=24,n1:=.var 15,s1:=52,n2:=10,s2:=5,lo:=2,ks:=yW} 1 [] (.lit 0)),(40,yu 23 15 52 yB 0),(39,yu 22 14 5 yW 0)],bk:=[(14,yb 12),(13,yc 11 1)],nb:=[1]}))
     (.br (.not (.aB (.cell 23 (.sub (.var 1) (.lit 1)) (.lit 0) 0) (.var 2)))
      (.br (.var 21)
       (.fin {lo:=26,az:=13,iv:=[(37,yv 20),(36,.add (.var 19) (.lit 1)),(35,yv 18),(34,yv 17),(29,.lit 0),(28,.lit 0),(27,.lit 0),(26,.lit 0)],bv:=[(38,.lit false),(33,yw 16),(32,.lit true),(31,.lit false),(30,.lit false)],ct:=[(42,yu 25 17 1 yI 0),(41,.up {r:=24,n1:=.var 15,s1:=52,n2:=10,s2:=5,lo:=2,ks:=yW} 1 [] (.lit 0)),(40,yu 23 15 52 yB 0),(39,yu 22 14 5 yW 0)],bk:=[(14,yb 18),(13,yc 11 1)],nb:=[1]})
       (.fin {lo:=26,az:=13,iv:=[(37,yv 20),(36,.add (.var 19) (.lit 1)),(35,yv 18),(34,yv 17),(29,.lit 0),(28,.lit 0),(27,.lit 0),(26,.lit 0)],bv:=[(38,yw 21),(33,yw 16),(32,.lit true),(31,.lit false),(30,.lit false)],ct:=[(42,yu 25 17 1 yI 0),(41,.up {r:=24,n1:=.var 15,s1:=52,n2:=10,s2:=5,lo:=2,ks:=yW} 1 [] (.lit 0)),(40,yu 23 15 52 yB 0),(39,yu 22 14 5 yW 0)],bk:=[(14,yb 12),(13,yc 11 1)],nb:=[1]}))
      (.fin {lo:=26,az:=13,iv:=[(37,yv 20),(36,.add (.var 19) (.lit 1)),(35,yv 18),(34,yv 17),(29,.lit 0),(28,.lit 0),(27,.lit 0),(26,.lit 0)],bv:=[(38,yw 21),(33,yw 16),(32,.lit true),(31,.lit true),(30,.lit false)],ct:=[(42,yu 25 17 1 yI 0),(41,.up {r:=24,n1:=.var 15,s1:=52,n2:=10,s2:=5,lo:=2,ks:=yW} 1 [⟨1,(.sub (.var 1) (.lit 1)),(.var 3),4,.bool (.var 13)⟩,⟨1,(.sub (.var 1) (.lit 1)),(.var 3),3,.int .i64 (.var 12)⟩,⟨1,(.sub (.var 1) (.lit 1)),(.var 3),2,.int .i64 (.var 11)⟩,⟨1,(.sub (.var 1) (.lit 1)),(.var 3),1,.int .i64 (.var 10)⟩,⟨1,(.sub (.var 1) (.lit 1)),(.var 3),0,.int .i64 (.var 9)⟩] (.lit 0)),(40,.up {r:=23,n1:=.var 15,s1:=52,ks:=yB} 0 [⟨1,(.sub (.var 1) (.lit 1)),(.var 3),4,.bool (.var 13)⟩,⟨1,(.sub (.var 1) (.lit 1)),(.var 3),3,.int .i64 (.var 12)⟩,⟨1,(.sub (.var 1) (.lit 1)),(.var 3),2,.int .i64 (.var 11)⟩,⟨1,(.sub (.var 1) (.lit 1)),(.var 3),1,.int .i64 (.var 10)⟩,⟨1,(.sub (.var 1) (.lit 1)),(.var 3),0,.int .i64 (.var 9)⟩] (.lit 0)),(39,yu 22 14 5 yW 0)],bk:=[(14,yb 12),(13,yc 11 1)],nb:=[1]})))))
  (.br (.aB (.var 0) (.lit 3))
   (.br (.aB (.var 1) (.lit 0))
    (.ob (.or (.not (.and (.aB (.var 2) (.lit 0)) (.aA (.lit 0) (.var 3)))) (.aA (.lit 0) (.var 14))) <|
     .br (.not (.and (.and (.aB (.var 2) (.lit 0)) (.aA (.lit 0) (.var 3))) (.bS (.var 3) (.var 14))))
     (.fin {lo:=26,az:=13,iv:=yr 37 20 4<|[(29,.lit 0),(28,.lit 0),(27,.lit 0),(26,.lit 0)],bv:=[(38,yw 21),(33,yw 16),(32,.lit false),(31,.lit false),(30,.lit false)],ct:=[(42,yu 25 17 1 yI 0),(41,.up {r:=24,n1:=.var 15,s1:=52,n2:=10,s2:=5,lo:=2,ks:=yW} 1 [] (.lit 0)),(40,yu 23 15 52 yB 0),(39,yu 22 14 5 yW 0)],bk:=[(14,yb 12),(13,yc 11 1)]})
     (.ob (.inr .i64 (.add (.var 19) (.lit 1))) <|
      .br (.not (.and (.aB (.cell 22 (.var 3) (.lit 0) 0) (.var 4)) (.and (.aB (.cell 22 (.var 3) (.lit 0) 2) (.var 6)) (.and (.aB (.cell 22 (.var 3) (.lit 0) 3) (.var 7)) (.beq (.cell 22 (.var 3) (.lit 0) 4) (.var 8))))))
      (.fin {lo:=26,az:=13,iv:=[(37,yv 20),(36,.add (.var 19) (.lit 1)),(35,yv 18),(34,yv 17),(29,.cell 22 (.var 3) (.lit 0) 3),(28,.cell 22 (.var 3) (.lit 0) 2),(27,.cell 22 (.var 3) (.lit 0) 1),(26,.cell 22 (.var 3) (.lit 0) 0)],bv:=[(38,yw 21),(33,yw 16),(32,.lit true),(31,.lit false),(30,.cell 22 (.var 3) (.lit 0) 4)],ct:=[(42,yu 25 17 1 yI 0),(41,.up {r:=24,n1:=.var 15,s1:=52,n2:=10,s2:=5,lo:=2,ks:=yW} 1 [] (.lit 0)),(40,yu 23 15 52 yB 0),(39,yu 22 14 5 yW 0)],bk:=[(14,yb 12),(13,yc 11 1)],nb:=[1]})
      (.fin {lo:=26,az:=13,iv:=[(37,yv 20),(36,.add (.var 19) (.lit 1)),(35,yv 18),(34,yv 17),(29,.cell 22 (.var 3) (.lit 0) 3),(28,.cell 22 (.var 3) (.lit 0) 2),(27,.cell 22 (.var 3) (.lit 0) 1),(26,.cell 22 (.var 3) (.lit 0) 0)],bv:=[(38,yw 21),(33,yw 16),(32,.lit true),(31,.lit true),(30,.cell 22 (.var 3) (.lit 0) 4)],ct:=[(42,yu 25 17 1 yI 0),(41,.up {r:=24,n1:=.var 15,s1:=52,n2:=10,s2:=5,lo:=2,ks:=yW} 1 [] (.lit 0)),(40,yu 23 15 52 yB 0),(39,.up {r:=22,n1:=.var 14,s1:=5,ks:=yW} 0 [⟨0,(.var 3),(.lit 0),4,.bool (.var 13)⟩,⟨0,(.var 3),(.lit 0),3,.int .i64 (.var 12)⟩,⟨0,(.var 3),(.lit 0),2,.int .i64 (.var 11)⟩,⟨0,(.var 3),(.lit 0),1,.int .i64 (.var 10)⟩,⟨0,(.var 3),(.lit 0),0,.int .i64 (.var 9)⟩] (.lit 0))],bk:=[(14,yb 12),(13,yc 11 1)],nb:=[1]})))
    (.ob (.or (.not (.aA (.lit 1) (.var 1))) (.aA (.lit 0) (.var 15))) <|
     .br (.not (.and (.and (.and (.aA (.lit 1) (.var 1)) (.aA (.var 1) (.var 15))) (.aA (.lit 0) (.var 3))) (.bS (.var 3) (.lit 10))))
     (.fin {lo:=26,az:=13,iv:=yr 37 20 4<|[(29,.lit 0),(28,.lit 0),(27,.lit 0),(26,.lit 0)],bv:=[(38,yw 21),(33,yw 16),(32,.lit false),(31,.lit false),(30,.lit false)],ct:=[(42,yu 25 17 1 yI 0),(41,.up {r:=24,n1:=.var 15,s1:=52,n2:=10,s2:=5,lo:=2,ks:=yW} 1 [] (.lit 0)),(40,yu 23 15 52 yB 0),(39,yu 22 14 5 yW 0)],bk:=[(14,yb 12),(13,yc 11 1)]})
     (.ob (.inr .i64 (.add (.var 19) (.lit 1))) <|
      .ob (.inr .i64 (.sub (.var 1) (.lit 1))) <|
      .ob (.aA (.lit 0) (.sub (.var 1) (.lit 1))) <|
      .ob (.bS (.sub (.var 1) (.lit 1)) (.var 15)) <|
      .br (.not (.cell 23 (.sub (.var 1) (.lit 1)) (.lit 0) 1))
      (.br (.var 21)
       (.fin {lo:=26,az:=13,iv:=[(37,yv 20),(36,.add (.var 19) (.lit 1)),(35,yv 18),(34,yv 17),(29,.lit (-1)),(28,.lit 0),(27,.lit 0),(26,.lit 0)],bv:=[(38,.lit false),(33,yw 16),(32,.lit true),(31,.lit false),(30,.lit false)],ct:=[(42,yu 25 17 1 yI 0),(41,.up {r:=24,n1:=.var 15,s1:=52,n2:=10,s2:=5,lo:=2,ks:=yW} 1 [] (.lit 0)),(40,yu 23 15 52 yB 0),(39,yu 22 14 5 yW 0)],bk:=[(14,yb 18),(13,yc 11 1)],nb:=[1]})
       (.fin {lo:=26,az:=13,iv:=[(37,yv 20),(36,.add (.var 19) (.lit 1)),(35,yv 18),(34,yv 17),(29,.lit (-1)),(28,.lit 0),(27,.lit 0),(26,.lit 0)],bv:=[(38,yw 21),(33,yw 16),(32,.lit true),(31,.lit false),(30,.lit false)],ct:=[(42,yu 25 17 1 yI 0),(41,.up {r:=24,n1:=.var 15,s1:=52,n2:=10,s2:=5,lo:=2,ks:=yW} 1 [] (.lit 0)),(40,yu 23 15 52 yB 0),(39,yu 22 14 5 yW 0)],bk:=[(14,yb 12),(13,yc 11 1)],nb:=[1]}))
      (.br (.not (.aB (.cell 23 (.sub (.var 1) (.lit 1)) (.lit 0) 0) (.var 2)))
       (.br (.var 21)
        (.fin {lo:=26,az:=13,iv:=[(37,yv 20),(36,.add (.var 19) (.lit 1)),(35,yv 18),(34,yv 17),(29,.lit (-1)),(28,.lit 0),(27,.lit 0),(26,.lit 0)],bv:=[(38,.lit false),(33,yw 16),(32,.lit true),(31,.lit false),(30,.lit false)],ct:=[(42,yu 25 17 1 yI 0),(41,.up {r:=24,n1:=.var 15,s1:=52,n2:=10,s2:=5,lo:=2,ks:=yW} 1 [] (.lit 0)),(40,yu 23 15 52 yB 0),(39,yu 22 14 5 yW 0)],bk:=[(14,yb 18),(13,yc 11 1)],nb:=[1]})
        (.fin {lo:=26,az:=13,iv:=[(37,yv 20),(36,.add (.var 19) (.lit 1)),(35,yv 18),(34,yv 17),(29,.lit (-1)),(28,.lit 0),(27,.lit 0),(26,.lit 0)],bv:=[(38,yw 21),(33,yw 16),(32,.lit true),(31,.lit false),(30,.lit false)],ct:=[(42,yu 25 17 1 yI 0),(41,.up {r:=24,n1:=.var 15,s1:=52,n2:=10,s2:=5,lo:=2,ks:=yW} 1 [] (.lit 0)),(40,yu 23 15 52 yB 0),(39,yu 22 14 5 yW 0)],bk:=[(14,yb 12),(13,yc 11 1)],nb:=[1]}))
       (.br (.not (.and (.aB (.cell 24 (.sub (.var 1) (.lit 1)) (.var 3) 0) (.var 4)) (.and (.aB (.cell 24 (.sub (.var 1) (.lit 1)) (.var 3) 2) (.var 6)) (.and (.aB (.cell 24 (.sub (.var 1) (.lit 1)) (.var 3) 3) (.var 7)) (.beq (.cell 24 (.sub (.var 1) (.lit 1)) (.var 3) 4) (.var 8))))))
        (.fin {lo:=26,az:=13,iv:=[(37,yv 20),(36,.add (.var 19) (.lit 1)),(35,yv 18),(34,yv 17),(29,.cell 24 (.sub (.var 1) (.lit 1)) (.var 3) 3),(28,.cell 24 (.sub (.var 1) (.lit 1)) (.var 3) 2),(27,.cell 24 (.sub (.var 1) (.lit 1)) (.var 3) 1),(26,.cell 24 (.sub (.var 1) (.lit 1)) (.var 3) 0)],bv:=[(38,yw 21),(33,yw 16),(32,.lit true),(31,.lit false),(30,.cell 24 (.sub (.var 1) (.lit 1)) (.var 3) 4)],ct:=[(42,yu 25 17 1 yI 0),(41,.up {r:=24,n1:=.var 15,s1:=52,n2:=10,s2:=5,lo:=2,ks:=yW} 1 [] (.lit 0)),(40,yu 23 15 52 yB 0),(39,yu 22 14 5 yW 0)],bk:=[(14,yb 12),(13,yc 11 1)],nb:=[1]})
        (.fin {lo:=26,az:=13,iv:=[(37,yv 20),(36,.add (.var 19) (.lit 1)),(35,yv 18),(34,yv 17),(29,.cell 24 (.sub (.var 1) (.lit 1)) (.var 3) 3),(28,.cell 24 (.sub (.var 1) (.lit 1)) (.var 3) 2),(27,.cell 24 (.sub (.var 1) (.lit 1)) (.var 3) 1),(26,.cell 24 (.sub (.var 1) (.lit 1)) (.var 3) 0)],bv:=[(38,yw 21),(33,yw 16),(32,.lit true),(31,.lit true),(30,.cell 24 (.sub (.var 1) (.lit 1)) (.var 3) 4)],ct:=[(42,yu 25 17 1 yI 0),(41,.up {r:=24,n1:=.var 15,s1:=52,n2:=10,s2:=5,lo:=2,ks:=yW} 1 [⟨1,(.sub (.var 1) (.lit 1)),(.var 3),4,.bool (.var 13)⟩,⟨1,(.sub (.var 1) (.lit 1)),(.var 3),3,.int .i64 (.var 12)⟩,⟨1,(.sub (.var 1) (.lit 1)),(.var 3),2,.int .i64 (.var 11)⟩,⟨1,(.sub (.var 1) (.lit 1)),(.var 3),1,.int .i64 (.var 10)⟩,⟨1,(.sub (.var 1) (.lit 1)),(.var 3),0,.int .i64 (.var 9)⟩] (.lit 0)),(40,.up {r:=23,n1:=.var 15,s1:=52,ks:=yB} 0 [⟨1,(.sub (.var 1) (.lit 1)),(.var 3),4,.bool (.var 13)⟩,⟨1,(.sub (.var 1) (.lit 1)),(.var 3),3,.int .i64 (.var 12)⟩,⟨1,(.sub (.var 1) (.lit 1)),(.var 3),2,.int .i64 (.var 11)⟩,⟨1,(.sub (.var 1) (.lit 1)),(.var 3),1,.int .i64 (.var 10)⟩,⟨1,(.sub (.var 1) (.lit 1)),(.var 3),0,.int .i64 (.var 9)⟩] (.lit 0)),(39,yu 22 14 5 yW 0)],bk:=[(14,yb 12),(13,yc 11 1)],nb:=[1]}))))))
   (.br (.aB (.var 0) (.lit 4))
    (.ob (.inr .i64 (.add (.var 19) (.lit 1))) <|
     .ob (.or (.not (.var 16)) (.aB (.var 17) (.lit 0))) <|
     .ob (.aA (.lit 0) (.var 17)) <|
     .br (.aB (.var 17) (.lit 0))
     (.fin {lo:=26,az:=13,iv:=[(37,yv 20),(36,.add (.var 19) (.lit 1)),(35,yv 18),(34,yv 17),(29,.lit 0),(28,.lit 0),(27,.lit 0),(26,.lit 0)],bv:=[(38,yw 21),(33,yw 16),(32,.lit true),(31,.lit false),(30,.lit false)],ct:=[(42,yu 25 17 1 yI 0),(41,.up {r:=24,n1:=.var 15,s1:=52,n2:=10,s2:=5,lo:=2,ks:=yW} 1 [] (.lit 0)),(40,yu 23 15 52 yB 0),(39,yu 22 14 5 yW 0)],bk:=[(14,yb 12),(13,yc 11 1)],nb:=[1]})
     (.ob (.inr .i64 (.sub (.var 17) (.lit 1))) <|
      .ob (.not (.var 16)) <|
      .ob (.aA (.lit 0) (.sub (.var 17) (.lit 1))) <|
      .ob (.bS (.sub (.var 17) (.lit 1)) (.var 17)) <|
      .ob (.aA (.sub (.var 17) (.lit 1)) (.var 18)) <|
      .ob (.inr .i64 (.sub (.cell 25 (.sub (.var 17) (.lit 1)) (.lit 0) 0) (.lit 1))) <|
      .ob (.aA (.lit 0) (.sub (.cell 25 (.sub (.var 17) (.lit 1)) (.lit 0) 0) (.lit 1))) <|
      .ob (.bS (.sub (.cell 25 (.sub (.var 17) (.lit 1)) (.lit 0) 0) (.lit 1)) (.var 15)) <|
      .ob (.inr .i64 (.add (.cell 23 (.sub (.cell 25 (.sub (.var 17) (.lit 1)) (.lit 0) 0) (.lit 1)) (.lit 0) 0) (.lit 1))) <|
      .ob (.inr .i64 (.add (.var 20) (.lit 1))) <|
      .ob (.aA (.sub (.var 17) (.lit 1)) (.var 17)) <|
      .fin {lo:=26,az:=13,iv:=[(37,.add (.var 20) (.lit 1)),(36,.add (.var 19) (.lit 1)),(35,yv 18),(34,.sub (.var 17) (.lit 1)),(29,.lit 0),(28,.lit 0),(27,.add (.cell 23 (.sub (.cell 25 (.sub (.var 17) (.lit 1)) (.lit 0) 0) (.lit 1)) (.lit 0) 0) (.lit 1)),(26,.cell 25 (.sub (.var 17) (.lit 1)) (.lit 0) 0)],bv:=[(38,yw 21),(33,yw 16),(32,.lit true),(31,.lit true),(30,.lit false)],ct:=[(42,yu 25 17 1 yI 0),(41,.up {r:=24,n1:=.var 15,s1:=52,n2:=10,s2:=5,lo:=2,ks:=yW} 1 [⟨1,(.sub (.cell 25 (.sub (.var 17) (.lit 1)) (.lit 0) 0) (.lit 1)),(.lit 9),4,.bool (.lit false)⟩,⟨1,(.sub (.cell 25 (.sub (.var 17) (.lit 1)) (.lit 0) 0) (.lit 1)),(.lit 9),3,.int .i64 (.var 12)⟩,⟨1,(.sub (.cell 25 (.sub (.var 17) (.lit 1)) (.lit 0) 0) (.lit 1)),(.lit 9),2,.int .i64 (.lit 0)⟩,⟨1,(.sub (.cell 25 (.sub (.var 17) (.lit 1)) (.lit 0) 0) (.lit 1)),(.lit 9),1,.int .i64 (.lit 0)⟩,⟨1,(.sub (.cell 25 (.sub (.var 17) (.lit 1)) (.lit 0) 0) (.lit 1)),(.lit 9),0,.int .i64 (.lit 0)⟩,⟨1,(.sub (.cell 25 (.sub (.var 17) (.lit 1)) (.lit 0) 0) (.lit 1)),(.lit 8),4,.bool (.lit false)⟩,⟨1,(.sub (.cell 25 (.sub (.var 17) (.lit 1)) (.lit 0) 0) (.lit 1)),(.lit 8),3,.int .i64 (.lit 0)⟩,⟨1,(.sub (.cell 25 (.sub (.var 17) (.lit 1)) (.lit 0) 0) (.lit 1)),(.lit 8),2,.int .i64 (.lit 0)⟩,⟨1,(.sub (.cell 25 (.sub (.var 17) (.lit 1)) (.lit 0) 0) (.lit 1)),(.lit 8),1,.int .i64 (.lit 0)⟩,⟨1,(.sub (.cell 25 (.sub (.var 17) (.lit 1)) (.lit 0) 0) (.lit 1)),(.lit 8),0,.int .i64 (.lit 0)⟩,⟨1,(.sub (.cell 25 (.sub (.var 17) (.lit 1)) (.lit 0) 0) (.lit 1)),(.lit 7),4,.bool (.lit false)⟩,⟨1,(.sub (.cell 25 (.sub (.var 17) (.lit 1)) (.lit 0) 0) (.lit 1)),(.lit 7),3,.int .i64 (.lit 0)⟩,⟨1,(.sub (.cell 25 (.sub (.var 17) (.lit 1)) (.lit 0) 0) (.lit 1)),(.lit 7),2,.int .i64 (.lit 0)⟩,⟨1,(.sub (.cell 25 (.sub (.var 17) (.lit 1)) (.lit 0) 0) (.lit 1)),(.lit 7),1,.int .i64 (.lit 0)⟩,⟨1,(.sub (.cell 25 (.sub (.var 17) (.lit 1)) (.lit 0) 0) (.lit 1)),(.lit 7),0,.int .i64 (.lit 0)⟩,⟨1,(.sub (.cell 25 (.sub (.var 17) (.lit 1)) (.lit 0) 0) (.lit 1)),(.lit 6),4,.bool (.lit false)⟩,⟨1,(.sub (.cell 25 (.sub (.var 17) (.lit 1)) (.lit 0) 0) (.lit 1)),(.lit 6),3,.int .i64 (.lit 0)⟩,⟨1,(.sub (.cell 25 (.sub (.var 17) (.lit 1)) (.lit 0) 0) (.lit 1)),(.lit 6),2,.int .i64 (.lit 0)⟩,⟨1,(.sub (.cell 25 (.sub (.var 17) (.lit 1)) (.lit 0) 0) (.lit 1)),(.lit 6),1,.int .i64 (.lit 0)⟩,⟨1,(.sub (.cell 25 (.sub (.var 17) (.lit 1)) (.lit 0) 0) (.lit 1)),(.lit 6),0,.int .i64 (.lit 0)⟩,⟨1,(.sub (.cell 25 (.sub (.var 17) (.lit 1)) (.lit 0) 0) (.lit 1)),(.lit 5),4,.bool (.lit false)⟩,⟨1,(.sub (.cell 25 (.sub (.var 17) (.lit 1)) (.lit 0) 0) (.lit 1)),(.lit 5),3,.int .i64 (.lit 0)⟩,⟨1,(.sub (.cell 25 (.sub (.var 17) (.lit 1)) (.lit 0) 0) (.lit 1)),(.lit 5),2,.int .i64 (.lit 0)⟩,⟨1,(.sub (.cell 25 (.sub (.var 17) (.lit 1)) (.lit 0) 0) (.lit 1)),(.lit 5),1,.int .i64 (.lit 0)⟩,⟨1,(.sub (.cell 25 (.sub (.var 17) (.lit 1)) (.lit 0) 0) (.lit 1)),(.lit 5),0,.int .i64 (.lit 0)⟩,⟨1,(.sub (.cell 25 (.sub (.var 17) (.lit 1)) (.lit 0) 0) (.lit 1)),(.lit 4),4,.bool (.lit false)⟩,⟨1,(.sub (.cell 25 (.sub (.var 17) (.lit 1)) (.lit 0) 0) (.lit 1)),(.lit 4),3,.int .i64 (.lit 0)⟩,⟨1,(.sub (.cell 25 (.sub (.var 17) (.lit 1)) (.lit 0) 0) (.lit 1)),(.lit 4),2,.int .i64 (.lit 0)⟩,⟨1,(.sub (.cell 25 (.sub (.var 17) (.lit 1)) (.lit 0) 0) (.lit 1)),(.lit 4),1,.int .i64 (.lit 0)⟩,⟨1,(.sub (.cell 25 (.sub (.var 17) (.lit 1)) (.lit 0) 0) (.lit 1)),(.lit 4),0,.int .i64 (.lit 0)⟩,⟨1,(.sub (.cell 25 (.sub (.var 17) (.lit 1)) (.lit 0) 0) (.lit 1)),(.lit 3),4,.bool (.lit false)⟩,⟨1,(.sub (.cell 25 (.sub (.var 17) (.lit 1)) (.lit 0) 0) (.lit 1)),(.lit 3),3,.int .i64 (.lit 0)⟩,⟨1,(.sub (.cell 25 (.sub (.var 17) (.lit 1)) (.lit 0) 0) (.lit 1)),(.lit 3),2,.int .i64 (.lit 0)⟩,⟨1,(.sub (.cell 25 (.sub (.var 17) (.lit 1)) (.lit 0) 0) (.lit 1)),(.lit 3),1,.int .i64 (.lit 0)⟩,⟨1,(.sub (.cell 25 (.sub (.var 17) (.lit 1)) (.lit 0) 0) (.lit 1)),(.lit 3),0,.int .i64 (.lit 0)⟩,⟨1,(.sub (.cell 25 (.sub (.var 17) (.lit 1)) (.lit 0) 0) (.lit 1)),(.lit 2),4,.bool (.lit false)⟩,⟨1,(.sub (.cell 25 (.sub (.var 17) (.lit 1)) (.lit 0) 0) (.lit 1)),(.lit 2),3,.int .i64 (.lit 0)⟩,⟨1,(.sub (.cell 25 (.sub (.var 17) (.lit 1)) (.lit 0) 0) (.lit 1)),(.lit 2),2,.int .i64 (.lit 0)⟩,⟨1,(.sub (.cell 25 (.sub (.var 17) (.lit 1)) (.lit 0) 0) (.lit 1)),(.lit 2),1,.int .i64 (.lit 0)⟩,⟨1,(.sub (.cell 25 (.sub (.var 17) (.lit 1)) (.lit 0) 0) (.lit 1)),(.lit 2),0,.int .i64 (.lit 0)⟩,⟨1,(.sub (.cell 25 (.sub (.var 17) (.lit 1)) (.lit 0) 0) (.lit 1)),(.lit 1),4,.bool (.lit false)⟩,⟨1,(.sub (.cell 25 (.sub (.var 17) (.lit 1)) (.lit 0) 0) (.lit 1)),(.lit 1),3,.int .i64 (.lit 0)⟩,⟨1,(.sub (.cell 25 (.sub (.var 17) (.lit 1)) (.lit 0) 0) (.lit 1)),(.lit 1),2,.int .i64 (.lit 0)⟩,⟨1,(.sub (.cell 25 (.sub (.var 17) (.lit 1)) (.lit 0) 0) (.lit 1)),(.lit 1),1,.int .i64 (.lit 0)⟩,⟨1,(.sub (.cell 25 (.sub (.var 17) (.lit 1)) (.lit 0) 0) (.lit 1)),(.lit 1),0,.int .i64 (.lit 0)⟩,⟨1,(.sub (.cell 25 (.sub (.var 17) (.lit 1)) (.lit 0) 0) (.lit 1)),(.lit 0),4,.bool (.lit false)⟩,⟨1,(.sub (.cell 25 (.sub (.var 17) (.lit 1)) (.lit 0) 0) (.lit 1)),(.lit 0),3,.int .i64 (.lit 0)⟩,⟨1,(.sub (.cell 25 (.sub (.var 17) (.lit 1)) (.lit 0) 0) (.lit 1)),(.lit 0),2,.int .i64 (.lit 0)⟩,⟨1,(.sub (.cell 25 (.sub (.var 17) (.lit 1)) (.lit 0) 0) (.lit 1)),(.lit 0),1,.int .i64 (.lit 0)⟩,⟨1,(.sub (.cell 25 (.sub (.var 17) (.lit 1)) (.lit 0) 0) (.lit 1)),(.lit 0),0,.int .i64 (.lit 0)⟩,⟨0,(.sub (.cell 25 (.sub (.var 17) (.lit 1)) (.lit 0) 0) (.lit 1)),(.lit 0),1,.bool (.lit true)⟩,⟨0,(.sub (.cell 25 (.sub (.var 17) (.lit 1)) (.lit 0) 0) (.lit 1)),(.lit 0),0,.int .i64 (.add (.cell 23 (.sub (.cell 25 (.sub (.var 17) (.lit 1)) (.lit 0) 0) (.lit 1)) (.lit 0) 0) (.lit 1))⟩] (.lit 0)),(40,.up {r:=23,n1:=.var 15,s1:=52,ks:=yB} 0 [⟨1,(.sub (.cell 25 (.sub (.var 17) (.lit 1)) (.lit 0) 0) (.lit 1)),(.lit 9),4,.bool (.lit false)⟩,⟨1,(.sub (.cell 25 (.sub (.var 17) (.lit 1)) (.lit 0) 0) (.lit 1)),(.lit 9),3,.int .i64 (.var 12)⟩,⟨1,(.sub (.cell 25 (.sub (.var 17) (.lit 1)) (.lit 0) 0) (.lit 1)),(.lit 9),2,.int .i64 (.lit 0)⟩,⟨1,(.sub (.cell 25 (.sub (.var 17) (.lit 1)) (.lit 0) 0) (.lit 1)),(.lit 9),1,.int .i64 (.lit 0)⟩,⟨1,(.sub (.cell 25 (.sub (.var 17) (.lit 1)) (.lit 0) 0) (.lit 1)),(.lit 9),0,.int .i64 (.lit 0)⟩,⟨1,(.sub (.cell 25 (.sub (.var 17) (.lit 1)) (.lit 0) 0) (.lit 1)),(.lit 8),4,.bool (.lit false)⟩,⟨1,(.sub (.cell 25 (.sub (.var 17) (.lit 1)) (.lit 0) 0) (.lit 1)),(.lit 8),3,.int .i64 (.lit 0)⟩,⟨1,(.sub (.cell 25 (.sub (.var 17) (.lit 1)) (.lit 0) 0) (.lit 1)),(.lit 8),2,.int .i64 (.lit 0)⟩,⟨1,(.sub (.cell 25 (.sub (.var 17) (.lit 1)) (.lit 0) 0) (.lit 1)),(.lit 8),1,.int .i64 (.lit 0)⟩,⟨1,(.sub (.cell 25 (.sub (.var 17) (.lit 1)) (.lit 0) 0) (.lit 1)),(.lit 8),0,.int .i64 (.lit 0)⟩,⟨1,(.sub (.cell 25 (.sub (.var 17) (.lit 1)) (.lit 0) 0) (.lit 1)),(.lit 7),4,.bool (.lit false)⟩,⟨1,(.sub (.cell 25 (.sub (.var 17) (.lit 1)) (.lit 0) 0) (.lit 1)),(.lit 7),3,.int .i64 (.lit 0)⟩,⟨1,(.sub (.cell 25 (.sub (.var 17) (.lit 1)) (.lit 0) 0) (.lit 1)),(.lit 7),2,.int .i64 (.lit 0)⟩,⟨1,(.sub (.cell 25 (.sub (.var 17) (.lit 1)) (.lit 0) 0) (.lit 1)),(.lit 7),1,.int .i64 (.lit 0)⟩,⟨1,(.sub (.cell 25 (.sub (.var 17) (.lit 1)) (.lit 0) 0) (.lit 1)),(.lit 7),0,.int .i64 (.lit 0)⟩,⟨1,(.sub (.cell 25 (.sub (.var 17) (.lit 1)) (.lit 0) 0) (.lit 1)),(.lit 6),4,.bool (.lit false)⟩,⟨1,(.sub (.cell 25 (.sub (.var 17) (.lit 1)) (.lit 0) 0) (.lit 1)),(.lit 6),3,.int .i64 (.lit 0)⟩,⟨1,(.sub (.cell 25 (.sub (.var 17) (.lit 1)) (.lit 0) 0) (.lit 1)),(.lit 6),2,.int .i64 (.lit 0)⟩,⟨1,(.sub (.cell 25 (.sub (.var 17) (.lit 1)) (.lit 0) 0) (.lit 1)),(.lit 6),1,.int .i64 (.lit 0)⟩,⟨1,(.sub (.cell 25 (.sub (.var 17) (.lit 1)) (.lit 0) 0) (.lit 1)),(.lit 6),0,.int .i64 (.lit 0)⟩,⟨1,(.sub (.cell 25 (.sub (.var 17) (.lit 1)) (.lit 0) 0) (.lit 1)),(.lit 5),4,.bool (.lit false)⟩,⟨1,(.sub (.cell 25 (.sub (.var 17) (.lit 1)) (.lit 0) 0) (.lit 1)),(.lit 5),3,.int .i64 (.lit 0)⟩,⟨1,(.sub (.cell 25 (.sub (.var 17) (.lit 1)) (.lit 0) 0) (.lit 1)),(.lit 5),2,.int .i64 (.lit 0)⟩,⟨1,(.sub (.cell 25 (.sub (.var 17) (.lit 1)) (.lit 0) 0) (.lit 1)),(.lit 5),1,.int .i64 (.lit 0)⟩,⟨1,(.sub (.cell 25 (.sub (.var 17) (.lit 1)) (.lit 0) 0) (.lit 1)),(.lit 5),0,.int .i64 (.lit 0)⟩,⟨1,(.sub (.cell 25 (.sub (.var 17) (.lit 1)) (.lit 0) 0) (.lit 1)),(.lit 4),4,.bool (.lit false)⟩,⟨1,(.sub (.cell 25 (.sub (.var 17) (.lit 1)) (.lit 0) 0) (.lit 1)),(.lit 4),3,.int .i64 (.lit 0)⟩,⟨1,(.sub (.cell 25 (.sub (.var 17) (.lit 1)) (.lit 0) 0) (.lit 1)),(.lit 4),2,.int .i64 (.lit 0)⟩,⟨1,(.sub (.cell 25 (.sub (.var 17) (.lit 1)) (.lit 0) 0) (.lit 1)),(.lit 4),1,.int .i64 (.lit 0)⟩,⟨1,(.sub (.cell 25 (.sub (.var 17) (.lit 1)) (.lit 0) 0) (.lit 1)),(.lit 4),0,.int .i64 (.lit 0)⟩,⟨1,(.sub (.cell 25 (.sub (.var 17) (.lit 1)) (.lit 0) 0) (.lit 1)),(.lit 3),4,.bool (.lit false)⟩,⟨1,(.sub (.cell 25 (.sub (.var 17) (.lit 1)) (.lit 0) 0) (.lit 1)),(.lit 3),3,.int .i64 (.lit 0)⟩,⟨1,(.sub (.cell 25 (.sub (.var 17) (.lit 1)) (.lit 0) 0) (.lit 1)),(.lit 3),2,.int .i64 (.lit 0)⟩,⟨1,(.sub (.cell 25 (.sub (.var 17) (.lit 1)) (.lit 0) 0) (.lit 1)),(.lit 3),1,.int .i64 (.lit 0)⟩,⟨1,(.sub (.cell 25 (.sub (.var 17) (.lit 1)) (.lit 0) 0) (.lit 1)),(.lit 3),0,.int .i64 (.lit 0)⟩,⟨1,(.sub (.cell 25 (.sub (.var 17) (.lit 1)) (.lit 0) 0) (.lit 1)),(.lit 2),4,.bool (.lit false)⟩,⟨1,(.sub (.cell 25 (.sub (.var 17) (.lit 1)) (.lit 0) 0) (.lit 1)),(.lit 2),3,.int .i64 (.lit 0)⟩,⟨1,(.sub (.cell 25 (.sub (.var 17) (.lit 1)) (.lit 0) 0) (.lit 1)),(.lit 2),2,.int .i64 (.lit 0)⟩,⟨1,(.sub (.cell 25 (.sub (.var 17) (.lit 1)) (.lit 0) 0) (.lit 1)),(.lit 2),1,.int .i64 (.lit 0)⟩,⟨1,(.sub (.cell 25 (.sub (.var 17) (.lit 1)) (.lit 0) 0) (.lit 1)),(.lit 2),0,.int .i64 (.lit 0)⟩,⟨1,(.sub (.cell 25 (.sub (.var 17) (.lit 1)) (.lit 0) 0) (.lit 1)),(.lit 1),4,.bool (.lit false)⟩,⟨1,(.sub (.cell 25 (.sub (.var 17) (.lit 1)) (.lit 0) 0) (.lit 1)),(.lit 1),3,.int .i64 (.lit 0)⟩,⟨1,(.sub (.cell 25 (.sub (.var 17) (.lit 1)) (.lit 0) 0) (.lit 1)),(.lit 1),2,.int .i64 (.lit 0)⟩,⟨1,(.sub (.cell 25 (.sub (.var 17) (.lit 1)) (.lit 0) 0) (.lit 1)),(.lit 1),1,.int .i64 (.lit 0)⟩,⟨1,(.sub (.cell 25 (.sub (.var 17) (.lit 1)) (.lit 0) 0) (.lit 1)),(.lit 1),0,.int .i64 (.lit 0)⟩,⟨1,(.sub (.cell 25 (.sub (.var 17) (.lit 1)) (.lit 0) 0) (.lit 1)),(.lit 0),4,.bool (.lit false)⟩,⟨1,(.sub (.cell 25 (.sub (.var 17) (.lit 1)) (.lit 0) 0) (.lit 1)),(.lit 0),3,.int .i64 (.lit 0)⟩,⟨1,(.sub (.cell 25 (.sub (.var 17) (.lit 1)) (.lit 0) 0) (.lit 1)),(.lit 0),2,.int .i64 (.lit 0)⟩,⟨1,(.sub (.cell 25 (.sub (.var 17) (.lit 1)) (.lit 0) 0) (.lit 1)),(.lit 0),1,.int .i64 (.lit 0)⟩,⟨1,(.sub (.cell 25 (.sub (.var 17) (.lit 1)) (.lit 0) 0) (.lit 1)),(.lit 0),0,.int .i64 (.lit 0)⟩,⟨0,(.sub (.cell 25 (.sub (.var 17) (.lit 1)) (.lit 0) 0) (.lit 1)),(.lit 0),1,.bool (.lit true)⟩,⟨0,(.sub (.cell 25 (.sub (.var 17) (.lit 1)) (.lit 0) 0) (.lit 1)),(.lit 0),0,.int .i64 (.add (.cell 23 (.sub (.cell 25 (.sub (.var 17) (.lit 1)) (.lit 0) 0) (.lit 1)) (.lit 0) 0) (.lit 1))⟩] (.lit 0)),(39,yu 22 14 5 yW 0)],bk:=[(14,yb 12),(13,yc 11 1)],nb:=[1]}))
    (.br (.aB (.var 0) (.lit 5))
     (.ob (.or (.not (.aA (.lit 1) (.var 4))) (.aA (.lit 0) (.var 15))) <|
      .br (.not (.and (.aA (.lit 1) (.var 4)) (.aA (.var 4) (.var 15))))
      (.fin {lo:=26,az:=13,iv:=yr 37 20 4<|[(29,.lit 0),(28,.lit 0),(27,.lit 0),(26,.lit 0)],bv:=[(38,yw 21),(33,yw 16),(32,.lit false),(31,.lit false),(30,.lit false)],ct:=[(42,yu 25 17 1 yI 0),(41,.up {r:=24,n1:=.var 15,s1:=52,n2:=10,s2:=5,lo:=2,ks:=yW} 1 [] (.lit 0)),(40,yu 23 15 52 yB 0),(39,yu 22 14 5 yW 0)],bk:=[(14,yb 12),(13,yc 11 1)]})
      (.ob (.inr .i64 (.add (.var 19) (.lit 1))) <|
       .br (.aB (.var 4) (.lit 0))
       (.ob (.inr .i64 (.sub (.var 4) (.lit 1))) <|
        .ob (.aA (.lit 0) (.sub (.var 4) (.lit 1))) <|
        .ob (.bS (.sub (.var 4) (.lit 1)) (.var 15)) <|
        .ob (.aA (.mul (.add (.var 17) (.lit 1)) (.lit 8)) (.lit 140737488355328)) <|
        .ob (.aA (.lit 0) (.var 17)) <|
        .ob (.aA (.var 17) (.var 18)) <|
        .ob (.aA (.var 18) (.lit 9223372036854775807)) <|
        .ob (.or (.not (.var 16)) (.aB (.var 17) (.lit 0))) <|
        .new 26 [.be (.and (.aA (.add (.var 17) (.lit 1)) (.var 26)) (.aA (.var 26) (.lit 9223372036854775807)))] <|
        .fin {lo:=26,az:=13,iv:=[(37,yv 20),(36,.add (.var 19) (.lit 1)),(35,yv 26),(34,.add (.var 17) (.lit 1)),(29,.lit 0),(28,.lit 0),(27,.lit 0),(26,.lit 0)],bv:=[(38,yw 21),(33,.lit false),(32,.lit true),(31,.lit true),(30,.lit false)],ct:=[(42,.up {r:=25,n1:=.add (.var 17) (.lit 1),s1:=1,ks:=yI} 0 [⟨0,(.var 17),(.lit 0),0,.int .i64 (.var 4)⟩] (.lit 0)),(41,.up {r:=24,n1:=.var 15,s1:=52,n2:=10,s2:=5,lo:=2,ks:=yW} 1 [⟨0,(.sub (.var 4) (.lit 1)),(.lit 0),1,.bool (.lit false)⟩] (.lit 0)),(40,.up {r:=23,n1:=.var 15,s1:=52,ks:=yB} 0 [⟨0,(.sub (.var 4) (.lit 1)),(.lit 0),1,.bool (.lit false)⟩] (.lit 0)),(39,yu 22 14 5 yW 0)],bk:=[(14,yb 12),(13,yc 18 1)],nb:=[1]})
       (.ob (.inr .i64 (.sub (.var 4) (.lit 1))) <|
        .ob (.aA (.lit 0) (.sub (.var 4) (.lit 1))) <|
        .ob (.bS (.sub (.var 4) (.lit 1)) (.var 15)) <|
        .br (.not (.cell 23 (.sub (.var 4) (.lit 1)) (.lit 0) 1))
        (.br (.var 21)
         (.fin {lo:=26,az:=13,iv:=[(37,yv 20),(36,.add (.var 19) (.lit 1)),(35,yv 18),(34,yv 17),(29,.lit 0),(28,.lit 0),(27,.lit 0),(26,.lit 0)],bv:=[(38,.lit false),(33,yw 16),(32,.lit true),(31,.lit false),(30,.lit false)],ct:=[(42,yu 25 17 1 yI 0),(41,.up {r:=24,n1:=.var 15,s1:=52,n2:=10,s2:=5,lo:=2,ks:=yW} 1 [] (.lit 0)),(40,yu 23 15 52 yB 0),(39,yu 22 14 5 yW 0)],bk:=[(14,yb 17),(13,yc 11 1)],nb:=[1]})
         (.fin {lo:=26,az:=13,iv:=[(37,yv 20),(36,.add (.var 19) (.lit 1)),(35,yv 18),(34,yv 17),(29,.lit 0),(28,.lit 0),(27,.lit 0),(26,.lit 0)],bv:=[(38,yw 21),(33,yw 16),(32,.lit true),(31,.lit false),(30,.lit false)],ct:=[(42,yu 25 17 1 yI 0),(41,.up {r:=24,n1:=.var 15,s1:=52,n2:=10,s2:=5,lo:=2,ks:=yW} 1 [] (.lit 0)),(40,yu 23 15 52 yB 0),(39,yu 22 14 5 yW 0)],bk:=[(14,yb 12),(13,yc 11 1)],nb:=[1]}))
        (.br (.not (.aB (.cell 23 (.sub (.var 4) (.lit 1)) (.lit 0) 0) (.var 5)))
         (.br (.var 21)
          (.fin {lo:=26,az:=13,iv:=[(37,yv 20),(36,.add (.var 19) (.lit 1)),(35,yv 18),(34,yv 17),(29,.lit 0),(28,.lit 0),(27,.lit 0),(26,.lit 0)],bv:=[(38,.lit false),(33,yw 16),(32,.lit true),(31,.lit false),(30,.lit false)],ct:=[(42,yu 25 17 1 yI 0),(41,.up {r:=24,n1:=.var 15,s1:=52,n2:=10,s2:=5,lo:=2,ks:=yW} 1 [] (.lit 0)),(40,yu 23 15 52 yB 0),(39,yu 22 14 5 yW 0)],bk:=[(14,yb 17),(13,yc 11 1)],nb:=[1]})
          (.fin {lo:=26,az:=13,iv:=[(37,yv 20),(36,.add (.var 19) (.lit 1)),(35,yv 18),(34,yv 17),(29,.lit 0),(28,.lit 0),(27,.lit 0),(26,.lit 0)],bv:=[(38,yw 21),(33,yw 16),(32,.lit true),(31,.lit false),(30,.lit false)],ct:=[(42,yu 25 17 1 yI 0),(41,.up {r:=24,n1:=.var 15,s1:=52,n2:=10,s2:=5,lo:=2,ks:=yW} 1 [] (.lit 0)),(40,yu 23 15 52 yB 0),(39,yu 22 14 5 yW 0)],bk:=[(14,yb 12),(13,yc 11 1)],nb:=[1]}))
         (.ob (.aA (.mul (.add (.var 17) (.lit 1)) (.lit 8)) (.lit 140737488355328)) <|
          .ob (.aA (.lit 0) (.var 17)) <|
          .ob (.aA (.var 17) (.var 18)) <|
          .ob (.aA (.var 18) (.lit 9223372036854775807)) <|
          .ob (.or (.not (.var 16)) (.aB (.var 17) (.lit 0))) <|
          .new 26 [.be (.and (.aA (.add (.var 17) (.lit 1)) (.var 26)) (.aA (.var 26) (.lit 9223372036854775807)))] <|
          .fin {lo:=26,az:=13,iv:=[(37,yv 20),(36,.add (.var 19) (.lit 1)),(35,yv 26),(34,.add (.var 17) (.lit 1)),(29,.lit 0),(28,.lit 0),(27,.lit 0),(26,.lit 0)],bv:=[(38,yw 21),(33,.lit false),(32,.lit true),(31,.lit true),(30,.lit false)],ct:=[(42,.up {r:=25,n1:=.add (.var 17) (.lit 1),s1:=1,ks:=yI} 0 [⟨0,(.var 17),(.lit 0),0,.int .i64 (.var 4)⟩] (.lit 0)),(41,.up {r:=24,n1:=.var 15,s1:=52,n2:=10,s2:=5,lo:=2,ks:=yW} 1 [⟨0,(.sub (.var 4) (.lit 1)),(.lit 0),1,.bool (.lit false)⟩] (.lit 0)),(40,.up {r:=23,n1:=.var 15,s1:=52,ks:=yB} 0 [⟨0,(.sub (.var 4) (.lit 1)),(.lit 0),1,.bool (.lit false)⟩] (.lit 0)),(39,yu 22 14 5 yW 0)],bk:=[(14,yb 12),(13,yc 18 1)],nb:=[1]})))))
     (.fin {lo:=26,az:=13,iv:=yr 37 20 4<|[(29,.lit 0),(28,.lit 0),(27,.lit 0),(26,.lit 0)],bv:=[(38,yw 21),(33,yw 16),(32,.lit false),(31,.lit false),(30,.lit false)],ct:=[(42,yu 25 17 1 yI 0),(41,.up {r:=24,n1:=.var 15,s1:=52,n2:=10,s2:=5,lo:=2,ks:=yW} 1 [] (.lit 0)),(40,yu 23 15 52 yB 0),(39,yu 22 14 5 yW 0)],bk:=[(14,yb 12),(13,yc 11 1)]})))))
theorem YP:exec tab doE 8000 [] (dZ nI.f nI.nv [] nI.gl nI.hp nI.args)=Og:=by kernel_rfl
def Oh (ρ:Env):Prop:=bG ρ 16∧(af ρ (ρ.iv 14) (ρ.iv 15) 16).OK∧ρ.iv 19≤1000000
def zF (ρ:Env):Prop:=bG ρ 33∧(af ρ (ρ.iv 14) (ρ.iv 15) 16).act (ay ρ 0)=(af ρ (ρ.iv 14) (ρ.iv 15) 33,if ρ.bv 32=true then some (aG ρ 26) else none)∧(ρ.bv 32=false→aG ρ 26=Rp.no)
theorem cu {v:Env} {p:PS} {a:Ac} {P':PS} {R:Option Rp} (hp:af v (v.iv 14) (v.iv 15) 16=p) (ha:ay v 0=a) (hact:p.act a=(P',R)) (ho:bG v 33) (h1:af v (v.iv 14) (v.iv 15) 33=P') (h2:v.bv 32=R.isSome) (h3:aG v 26=R.getD Rp.no):zF v:=by
 refine ⟨ho,?_,fun h=>?_⟩
 ·rw [hp,ha,hact,h1,h2,h3]
  cases R <;> simp
 ·rw [h2] at h
  rw [h3]
  cases R
  ·rfl
  ·cases h
set_option maxHeartbeats 4000000 in
theorem Ty {q:Env} (hv:(af q (q.iv 14) (q.iv 15) 16).valid (ay q 0)) (hw:(af q (q.iv 14) (q.iv 15) 16).right (ay q 0)) (c3:q.iv 0=4) (c4:¬q.iv 17=0) (ho:bG q 16) :
  Sat zF [] [] q (.fin {lo:=26,az:=13,iv:=[(37,(.add (.var 20) (.lit 1))),(36,(.add (.var 19) (.lit 1))),(35,(.var 18)),(34,(.sub (.var 17) (.lit 1))),(29,(.lit 0)),(28,(.lit 0)),(27,(.add (.cell 23 (.sub (.cell 25 (.sub (.var 17) (.lit 1)) (.lit 0) 0) (.lit 1)) (.lit 0) 0) (.lit 1))),(26,(.cell 25 (.sub (.var 17) (.lit 1)) (.lit 0) 0))],bv:=[(38,(.var 21)),(33,(.var 16)),(32,(.lit true)),(31,(.lit true)),(30,(.lit false))],ct:=[(42,.up {r:=25,n1:=(.var 17),s1:=1,ks:=[.int .i64]} 0 [] (.lit 0)),(41,.up {r:=24,n1:=(.var 15),s1:=52,n2:=10,s2:=5,lo:=2,ks:=[.int .i64,.int .i64,.int .i64,.int .i64,.bool]} 1 [⟨1,(.sub (.cell 25 (.sub (.var 17) (.lit 1)) (.lit 0) 0) (.lit 1)),(.lit 9),4,.bool (.lit false)⟩,⟨1,(.sub (.cell 25 (.sub (.var 17) (.lit 1)) (.lit 0) 0) (.lit 1)),(.lit 9),3,.int .i64 (.var 12)⟩,⟨1,(.sub (.cell 25 (.sub (.var 17) (.lit 1)) (.lit 0) 0) (.lit 1)),(.lit 9),2,.int .i64 (.lit 0)⟩,⟨1,(.sub (.cell 25 (.sub (.var 17) (.lit 1)) (.lit 0) 0) (.lit 1)),(.lit 9),1,.int .i64 (.lit 0)⟩,⟨1,(.sub (.cell 25 (.sub (.var 17) (.lit 1)) (.lit 0) 0) (.lit 1)),(.lit 9),0,.int .i64 (.lit 0)⟩,⟨1,(.sub (.cell 25 (.sub (.var 17) (.lit 1)) (.lit 0) 0) (.lit 1)),(.lit 8),4,.bool (.lit false)⟩,⟨1,(.sub (.cell 25 (.sub (.var 17) (.lit 1)) (.lit 0) 0) (.lit 1)),(.lit 8),3,.int .i64 (.lit 0)⟩,⟨1,(.sub (.cell 25 (.sub (.var 17) (.lit 1)) (.lit 0) 0) (.lit 1)),(.lit 8),2,.int .i64 (.lit 0)⟩,⟨1,(.sub (.cell 25 (.sub (.var 17) (.lit 1)) (.lit 0) 0) (.lit 1)),(.lit 8),1,.int .i64 (.lit 0)⟩,⟨1,(.sub (.cell 25 (.sub (.var 17) (.lit 1)) (.lit 0) 0) (.lit 1)),(.lit 8),0,.int .i64 (.lit 0)⟩,⟨1,(.sub (.cell 25 (.sub (.var 17) (.lit 1)) (.lit 0) 0) (.lit 1)),(.lit 7),4,.bool (.lit false)⟩,⟨1,(.sub (.cell 25 (.sub (.var 17) (.lit 1)) (.lit 0) 0) (.lit 1)),(.lit 7),3,.int .i64 (.lit 0)⟩,⟨1,(.sub (.cell 25 (.sub (.var 17) (.lit 1)) (.lit 0) 0) (.lit 1)),(.lit 7),2,.int .i64 (.lit 0)⟩,⟨1,(.sub (.cell 25 (.sub (.var 17) (.lit 1)) (.lit 0) 0) (.lit 1)),(.lit 7),1,.int .i64 (.lit 0)⟩,⟨1,(.sub (.cell 25 (.sub (.var 17) (.lit 1)) (.lit 0) 0) (.lit 1)),(.lit 7),0,.int .i64 (.lit 0)⟩,⟨1,(.sub (.cell 25 (.sub (.var 17) (.lit 1)) (.lit 0) 0) (.lit 1)),(.lit 6),4,.bool (.lit false)⟩,⟨1,(.sub (.cell 25 (.sub (.var 17) (.lit 1)) (.lit 0) 0) (.lit 1)),(.lit 6),3,.int .i64 (.lit 0)⟩,⟨1,(.sub (.cell 25 (.sub (.var 17) (.lit 1)) (.lit 0) 0) (.lit 1)),(.lit 6),2,.int .i64 (.lit 0)⟩,⟨1,(.sub (.cell 25 (.sub (.var 17) (.lit 1)) (.lit 0) 0) (.lit 1)),(.lit 6),1,.int .i64 (.lit 0)⟩,⟨1,(.sub (.cell 25 (.sub (.var 17) (.lit 1)) (.lit 0) 0) (.lit 1)),(.lit 6),0,.int .i64 (.lit 0)⟩,⟨1,(.sub (.cell 25 (.sub (.var 17) (.lit 1)) (.lit 0) 0) (.lit 1)),(.lit 5),4,.bool (.lit false)⟩,⟨1,(.sub (.cell 25 (.sub (.var 17) (.lit 1)) (.lit 0) 0) (.lit 1)),(.lit 5),3,.int .i64 (.lit 0)⟩,⟨1,(.sub (.cell 25 (.sub (.var 17) (.lit 1)) (.lit 0) 0) (.lit 1)),(.lit 5),2,.int .i64 (.lit 0)⟩,⟨1,(.sub (.cell 25 (.sub (.var 17) (.lit 1)) (.lit 0) 0) (.lit 1)),(.lit 5),1,.int .i64 (.lit 0)⟩,⟨1,(.sub (.cell 25 (.sub (.var 17) (.lit 1)) (.lit 0) 0) (.lit 1)),(.lit 5),0,.int .i64 (.lit 0)⟩,⟨1,(.sub (.cell 25 (.sub (.var 17) (.lit 1)) (.lit 0) 0) (.lit 1)),(.lit 4),4,.bool (.lit false)⟩,⟨1,(.sub (.cell 25 (.sub (.var 17) (.lit 1)) (.lit 0) 0) (.lit 1)),(.lit 4),3,.int .i64 (.lit 0)⟩,⟨1,(.sub (.cell 25 (.sub (.var 17) (.lit 1)) (.lit 0) 0) (.lit 1)),(.lit 4),2,.int .i64 (.lit 0)⟩,⟨1,(.sub (.cell 25 (.sub (.var 17) (.lit 1)) (.lit 0) 0) (.lit 1)),(.lit 4),1,.int .i64 (.lit 0)⟩,⟨1,(.sub (.cell 25 (.sub (.var 17) (.lit 1)) (.lit 0) 0) (.lit 1)),(.lit 4),0,.int .i64 (.lit 0)⟩,⟨1,(.sub (.cell 25 (.sub (.var 17) (.lit 1)) (.lit 0) 0) (.lit 1)),(.lit 3),4,.bool (.lit false)⟩,⟨1,(.sub (.cell 25 (.sub (.var 17) (.lit 1)) (.lit 0) 0) (.lit 1)),(.lit 3),3,.int .i64 (.lit 0)⟩,⟨1,(.sub (.cell 25 (.sub (.var 17) (.lit 1)) (.lit 0) 0) (.lit 1)),(.lit 3),2,.int .i64 (.lit 0)⟩,⟨1,(.sub (.cell 25 (.sub (.var 17) (.lit 1)) (.lit 0) 0) (.lit 1)),(.lit 3),1,.int .i64 (.lit 0)⟩,⟨1,(.sub (.cell 25 (.sub (.var 17) (.lit 1)) (.lit 0) 0) (.lit 1)),(.lit 3),0,.int .i64 (.lit 0)⟩,⟨1,(.sub (.cell 25 (.sub (.var 17) (.lit 1)) (.lit 0) 0) (.lit 1)),(.lit 2),4,.bool (.lit false)⟩,⟨1,(.sub (.cell 25 (.sub (.var 17) (.lit 1)) (.lit 0) 0) (.lit 1)),(.lit 2),3,.int .i64 (.lit 0)⟩,⟨1,(.sub (.cell 25 (.sub (.var 17) (.lit 1)) (.lit 0) 0) (.lit 1)),(.lit 2),2,.int .i64 (.lit 0)⟩,⟨1,(.sub (.cell 25 (.sub (.var 17) (.lit 1)) (.lit 0) 0) (.lit 1)),(.lit 2),1,.int .i64 (.lit 0)⟩,⟨1,(.sub (.cell 25 (.sub (.var 17) (.lit 1)) (.lit 0) 0) (.lit 1)),(.lit 2),0,.int .i64 (.lit 0)⟩,⟨1,(.sub (.cell 25 (.sub (.var 17) (.lit 1)) (.lit 0) 0) (.lit 1)),(.lit 1),4,.bool (.lit false)⟩,⟨1,(.sub (.cell 25 (.sub (.var 17) (.lit 1)) (.lit 0) 0) (.lit 1)),(.lit 1),3,.int .i64 (.lit 0)⟩,⟨1,(.sub (.cell 25 (.sub (.var 17) (.lit 1)) (.lit 0) 0) (.lit 1)),(.lit 1),2,.int .i64 (.lit 0)⟩,⟨1,(.sub (.cell 25 (.sub (.var 17) (.lit 1)) (.lit 0) 0) (.lit 1)),(.lit 1),1,.int .i64 (.lit 0)⟩,⟨1,(.sub (.cell 25 (.sub (.var 17) (.lit 1)) (.lit 0) 0) (.lit 1)),(.lit 1),0,.int .i64 (.lit 0)⟩,⟨1,(.sub (.cell 25 (.sub (.var 17) (.lit 1)) (.lit 0) 0) (.lit 1)),(.lit 0),4,.bool (.lit false)⟩,⟨1,(.sub (.cell 25 (.sub (.var 17) (.lit 1)) (.lit 0) 0) (.lit 1)),(.lit 0),3,.int .i64 (.lit 0)⟩,⟨1,(.sub (.cell 25 (.sub (.var 17) (.lit 1)) (.lit 0) 0) (.lit 1)),(.lit 0),2,.int .i64 (.lit 0)⟩,⟨1,(.sub (.cell 25 (.sub (.var 17) (.lit 1)) (.lit 0) 0) (.lit 1)),(.lit 0),1,.int .i64 (.lit 0)⟩,⟨1,(.sub (.cell 25 (.sub (.var 17) (.lit 1)) (.lit 0) 0) (.lit 1)),(.lit 0),0,.int .i64 (.lit 0)⟩,⟨0,(.sub (.cell 25 (.sub (.var 17) (.lit 1)) (.lit 0) 0) (.lit 1)),(.lit 0),1,.bool (.lit true)⟩,⟨0,(.sub (.cell 25 (.sub (.var 17) (.lit 1)) (.lit 0) 0) (.lit 1)),(.lit 0),0,.int .i64 (.add (.cell 23 (.sub (.cell 25 (.sub (.var 17) (.lit 1)) (.lit 0) 0) (.lit 1)) (.lit 0) 0) (.lit 1))⟩] (.lit 0)),(40,.up {r:=23,n1:=(.var 15),s1:=52,ks:=[.int .i64,.bool]} 0 [⟨1,(.sub (.cell 25 (.sub (.var 17) (.lit 1)) (.lit 0) 0) (.lit 1)),(.lit 9),4,.bool (.lit false)⟩,⟨1,(.sub (.cell 25 (.sub (.var 17) (.lit 1)) (.lit 0) 0) (.lit 1)),(.lit 9),3,.int .i64 (.var 12)⟩,⟨1,(.sub (.cell 25 (.sub (.var 17) (.lit 1)) (.lit 0) 0) (.lit 1)),(.lit 9),2,.int .i64 (.lit 0)⟩,⟨1,(.sub (.cell 25 (.sub (.var 17) (.lit 1)) (.lit 0) 0) (.lit 1)),(.lit 9),1,.int .i64 (.lit 0)⟩,⟨1,(.sub (.cell 25 (.sub (.var 17) (.lit 1)) (.lit 0) 0) (.lit 1)),(.lit 9),0,.int .i64 (.lit 0)⟩,⟨1,(.sub (.cell 25 (.sub (.var 17) (.lit 1)) (.lit 0) 0) (.lit 1)),(.lit 8),4,.bool (.lit false)⟩,⟨1,(.sub (.cell 25 (.sub (.var 17) (.lit 1)) (.lit 0) 0) (.lit 1)),(.lit 8),3,.int .i64 (.lit 0)⟩,⟨1,(.sub (.cell 25 (.sub (.var 17) (.lit 1)) (.lit 0) 0) (.lit 1)),(.lit 8),2,.int .i64 (.lit 0)⟩,⟨1,(.sub (.cell 25 (.sub (.var 17) (.lit 1)) (.lit 0) 0) (.lit 1)),(.lit 8),1,.int .i64 (.lit 0)⟩,⟨1,(.sub (.cell 25 (.sub (.var 17) (.lit 1)) (.lit 0) 0) (.lit 1)),(.lit 8),0,.int .i64 (.lit 0)⟩,⟨1,(.sub (.cell 25 (.sub (.var 17) (.lit 1)) (.lit 0) 0) (.lit 1)),(.lit 7),4,.bool (.lit false)⟩,⟨1,(.sub (.cell 25 (.sub (.var 17) (.lit 1)) (.lit 0) 0) (.lit 1)),(.lit 7),3,.int .i64 (.lit 0)⟩,⟨1,(.sub (.cell 25 (.sub (.var 17) (.lit 1)) (.lit 0) 0) (.lit 1)),(.lit 7),2,.int .i64 (.lit 0)⟩,⟨1,(.sub (.cell 25 (.sub (.var 17) (.lit 1)) (.lit 0) 0) (.lit 1)),(.lit 7),1,.int .i64 (.lit 0)⟩,⟨1,(.sub (.cell 25 (.sub (.var 17) (.lit 1)) (.lit 0) 0) (.lit 1)),(.lit 7),0,.int .i64 (.lit 0)⟩,⟨1,(.sub (.cell 25 (.sub (.var 17) (.lit 1)) (.lit 0) 0) (.lit 1)),(.lit 6),4,.bool (.lit false)⟩,⟨1,(.sub (.cell 25 (.sub (.var 17) (.lit 1)) (.lit 0) 0) (.lit 1)),(.lit 6),3,.int .i64 (.lit 0)⟩,⟨1,(.sub (.cell 25 (.sub (.var 17) (.lit 1)) (.lit 0) 0) (.lit 1)),(.lit 6),2,.int .i64 (.lit 0)⟩,⟨1,(.sub (.cell 25 (.sub (.var 17) (.lit 1)) (.lit 0) 0) (.lit 1)),(.lit 6),1,.int .i64 (.lit 0)⟩,⟨1,(.sub (.cell 25 (.sub (.var 17) (.lit 1)) (.lit 0) 0) (.lit 1)),(.lit 6),0,.int .i64 (.lit 0)⟩,⟨1,(.sub (.cell 25 (.sub (.var 17) (.lit 1)) (.lit 0) 0) (.lit 1)),(.lit 5),4,.bool (.lit false)⟩,⟨1,(.sub (.cell 25 (.sub (.var 17) (.lit 1)) (.lit 0) 0) (.lit 1)),(.lit 5),3,.int .i64 (.lit 0)⟩,⟨1,(.sub (.cell 25 (.sub (.var 17) (.lit 1)) (.lit 0) 0) (.lit 1)),(.lit 5),2,.int .i64 (.lit 0)⟩,⟨1,(.sub (.cell 25 (.sub (.var 17) (.lit 1)) (.lit 0) 0) (.lit 1)),(.lit 5),1,.int .i64 (.lit 0)⟩,⟨1,(.sub (.cell 25 (.sub (.var 17) (.lit 1)) (.lit 0) 0) (.lit 1)),(.lit 5),0,.int .i64 (.lit 0)⟩,⟨1,(.sub (.cell 25 (.sub (.var 17) (.lit 1)) (.lit 0) 0) (.lit 1)),(.lit 4),4,.bool (.lit false)⟩,⟨1,(.sub (.cell 25 (.sub (.var 17) (.lit 1)) (.lit 0) 0) (.lit 1)),(.lit 4),3,.int .i64 (.lit 0)⟩,⟨1,(.sub (.cell 25 (.sub (.var 17) (.lit 1)) (.lit 0) 0) (.lit 1)),(.lit 4),2,.int .i64 (.lit 0)⟩,⟨1,(.sub (.cell 25 (.sub (.var 17) (.lit 1)) (.lit 0) 0) (.lit 1)),(.lit 4),1,.int .i64 (.lit 0)⟩,⟨1,(.sub (.cell 25 (.sub (.var 17) (.lit 1)) (.lit 0) 0) (.lit 1)),(.lit 4),0,.int .i64 (.lit 0)⟩,⟨1,(.sub (.cell 25 (.sub (.var 17) (.lit 1)) (.lit 0) 0) (.lit 1)),(.lit 3),4,.bool (.lit false)⟩,⟨1,(.sub (.cell 25 (.sub (.var 17) (.lit 1)) (.lit 0) 0) (.lit 1)),(.lit 3),3,.int .i64 (.lit 0)⟩,⟨1,(.sub (.cell 25 (.sub (.var 17) (.lit 1)) (.lit 0) 0) (.lit 1)),(.lit 3),2,.int .i64 (.lit 0)⟩,⟨1,(.sub (.cell 25 (.sub (.var 17) (.lit 1)) (.lit 0) 0) (.lit 1)),(.lit 3),1,.int .i64 (.lit 0)⟩,⟨1,(.sub (.cell 25 (.sub (.var 17) (.lit 1)) (.lit 0) 0) (.lit 1)),(.lit 3),0,.int .i64 (.lit 0)⟩,⟨1,(.sub (.cell 25 (.sub (.var 17) (.lit 1)) (.lit 0) 0) (.lit 1)),(.lit 2),4,.bool (.lit false)⟩,⟨1,(.sub (.cell 25 (.sub (.var 17) (.lit 1)) (.lit 0) 0) (.lit 1)),(.lit 2),3,.int .i64 (.lit 0)⟩,⟨1,(.sub (.cell 25 (.sub (.var 17) (.lit 1)) (.lit 0) 0) (.lit 1)),(.lit 2),2,.int .i64 (.lit 0)⟩,⟨1,(.sub (.cell 25 (.sub (.var 17) (.lit 1)) (.lit 0) 0) (.lit 1)),(.lit 2),1,.int .i64 (.lit 0)⟩,⟨1,(.sub (.cell 25 (.sub (.var 17) (.lit 1)) (.lit 0) 0) (.lit 1)),(.lit 2),0,.int .i64 (.lit 0)⟩,⟨1,(.sub (.cell 25 (.sub (.var 17) (.lit 1)) (.lit 0) 0) (.lit 1)),(.lit 1),4,.bool (.lit false)⟩,⟨1,(.sub (.cell 25 (.sub (.var 17) (.lit 1)) (.lit 0) 0) (.lit 1)),(.lit 1),3,.int .i64 (.lit 0)⟩,⟨1,(.sub (.cell 25 (.sub (.var 17) (.lit 1)) (.lit 0) 0) (.lit 1)),(.lit 1),2,.int .i64 (.lit 0)⟩,⟨1,(.sub (.cell 25 (.sub (.var 17) (.lit 1)) (.lit 0) 0) (.lit 1)),(.lit 1),1,.int .i64 (.lit 0)⟩,⟨1,(.sub (.cell 25 (.sub (.var 17) (.lit 1)) (.lit 0) 0) (.lit 1)),(.lit 1),0,.int .i64 (.lit 0)⟩,⟨1,(.sub (.cell 25 (.sub (.var 17) (.lit 1)) (.lit 0) 0) (.lit 1)),(.lit 0),4,.bool (.lit false)⟩,⟨1,(.sub (.cell 25 (.sub (.var 17) (.lit 1)) (.lit 0) 0) (.lit 1)),(.lit 0),3,.int .i64 (.lit 0)⟩,⟨1,(.sub (.cell 25 (.sub (.var 17) (.lit 1)) (.lit 0) 0) (.lit 1)),(.lit 0),2,.int .i64 (.lit 0)⟩,⟨1,(.sub (.cell 25 (.sub (.var 17) (.lit 1)) (.lit 0) 0) (.lit 1)),(.lit 0),1,.int .i64 (.lit 0)⟩,⟨1,(.sub (.cell 25 (.sub (.var 17) (.lit 1)) (.lit 0) 0) (.lit 1)),(.lit 0),0,.int .i64 (.lit 0)⟩,⟨0,(.sub (.cell 25 (.sub (.var 17) (.lit 1)) (.lit 0) 0) (.lit 1)),(.lit 0),1,.bool (.lit true)⟩,⟨0,(.sub (.cell 25 (.sub (.var 17) (.lit 1)) (.lit 0) 0) (.lit 1)),(.lit 0),0,.int .i64 (.add (.cell 23 (.sub (.cell 25 (.sub (.var 17) (.lit 1)) (.lit 0) 0) (.lit 1)) (.lit 0) 0) (.lit 1))⟩] (.lit 0)),(39,.up {r:=22,n1:=(.var 14),s1:=5,ks:=[.int .i64,.int .i64,.int .i64,.int .i64,.bool]} 0 [] (.lit 0))],bk:=[(14,{aC:=12}),(13,{aC:=11,i1:=(.lit 0),s1:=1})],nb:=[1]}):=by
 refine Sat.fin (cu rfl rfl (ma hv hw (WX c3 c4)) ?_ (PS.ext' rfl rfl rfl rfl rfl rfl (fun i=>by simp [af,aF,-Int.pred_toNat,Sub.ag,assoc,CV.I,CV.B,ah,ai,ae.I,ae.B,SC.I,SC.B,IE.den,BE.den]) (fun i=>?_) (fun i=>?_) (fun i k=>?_) (fun i=>by simp [af,-Int.pred_toNat,Sub.ag,assoc,CV.I,CV.B,ah,ai,ae.I,ae.B,SC.I,SC.B,IE.den,BE.den])) rfl ?_)
 ·obtain ⟨o1,o2,o3,o4⟩:=ho
  refine ⟨fun h=>absurd (o1 h) c4,?_,?_,o4⟩
  ·show 0≤q.iv 17-1
   have:0≤q.iv 17:=o2
   omega
  ·show q.iv 17-1≤q.iv 18
   have:q.iv 17≤q.iv 18:=o3
   omega
 ·by_cases h:i=(q.ic 25 (q.iv 17-1).toNat 0 0-1).toNat
  ·subst h
   simp [af,ay,ak,-Int.pred_toNat,Sub.ag,assoc,CV.I,CV.B,ah,ai,ae.I,ae.B,SC.I,SC.B,IE.den,BE.den]
  ·simp [af,ay,ak,-Int.pred_toNat,Sub.ag,assoc,CV.I,CV.B,ah,ai,ae.I,ae.B,SC.I,SC.B,IE.den,BE.den,h,Ne.symm h]
 ·by_cases h:i=(q.ic 25 (q.iv 17-1).toNat 0 0-1).toNat
  ·subst h
   simp [af,ay,ak,-Int.pred_toNat,Sub.ag,assoc,CV.I,CV.B,ah,ai,ae.I,ae.B,SC.I,SC.B,IE.den,BE.den]
  ·simp [af,ay,ak,-Int.pred_toNat,Sub.ag,assoc,CV.I,CV.B,ah,ai,ae.I,ae.B,SC.I,SC.B,IE.den,BE.den,h,Ne.symm h]
 ·by_cases h:i=(q.ic 25 (q.iv 17-1).toNat 0 0-1).toNat
  ·subst h
   by_cases hk:k<10
   ·have:k=0∨k=1∨k=2∨k=3∨k=4∨k=5∨k=6∨k=7∨k=8∨k=9:=by omega
    rcases this with rfl | rfl | rfl | rfl | rfl | rfl | rfl | rfl | rfl | rfl <;> simp [af,aF,ay,ak,gQ,Wd.zero,-Int.pred_toNat,Sub.ag,assoc,CV.I,CV.B,ah,ai,ae.I,ae.B,SC.I,SC.B,IE.den,BE.den]
   ·have n0:¬0=k:=by omega
    have n1:¬1=k:=by omega
    have n2:¬2=k:=by omega
    have n3:¬3=k:=by omega
    have n4:¬4=k:=by omega
    have n5:¬5=k:=by omega
    have n6:¬6=k:=by omega
    have n7:¬7=k:=by omega
    have n8:¬8=k:=by omega
    have n9:¬9=k:=by omega
    simp [af,aF,ay,ak,-Int.pred_toNat,Sub.ag,assoc,CV.I,CV.B,ah,ai,ae.I,ae.B,SC.I,SC.B,IE.den,BE.den,hk,n0,n1,n2,n3,n4,n5,n6,n7,n8,n9]
  ·simp [af,aF,ay,ak,-Int.pred_toNat,Sub.ag,assoc,CV.I,CV.B,ah,ai,ae.I,ae.B,SC.I,SC.B,IE.den,BE.den,h,Ne.symm h]
 ·simp [aG,ak,af,aF,ay,Wd.zero,-Int.pred_toNat,Sub.ag,assoc,CV.I,CV.B,ah,ai,ae.I,ae.B,SC.I,SC.B,IE.den,BE.den]
set_option maxHeartbeats 4000000 in
theorem WY {q:Env} (hv:(af q (q.iv 14) (q.iv 15) 16).valid (ay q 0)) (hw:(af q (q.iv 14) (q.iv 15) 16).right (ay q 0)) (c3:q.iv 0=5) (ho:bG q 16) (hf:q.iv 17+1≤q.iv 26∧q.iv 26≤9223372036854775807) :
  Sat zF [] [] q (.fin {lo:=26,az:=13,iv:=[(37,(.var 20)),(36,(.add (.var 19) (.lit 1))),(35,(.var 26)),(34,(.add (.var 17) (.lit 1))),(29,(.lit 0)),(28,(.lit 0)),(27,(.lit 0)),(26,(.lit 0))],bv:=[(38,(.var 21)),(33,(.lit false)),(32,(.lit true)),(31,(.lit true)),(30,(.lit false))],ct:=[(42,.up {r:=25,n1:=(.add (.var 17) (.lit 1)),s1:=1,ks:=[.int .i64]} 0 [⟨0,(.var 17),(.lit 0),0,.int .i64 (.var 4)⟩] (.lit 0)),(41,.up {r:=24,n1:=(.var 15),s1:=52,n2:=10,s2:=5,lo:=2,ks:=[.int .i64,.int .i64,.int .i64,.int .i64,.bool]} 1 [⟨0,(.sub (.var 4) (.lit 1)),(.lit 0),1,.bool (.lit false)⟩] (.lit 0)),(40,.up {r:=23,n1:=(.var 15),s1:=52,ks:=[.int .i64,.bool]} 0 [⟨0,(.sub (.var 4) (.lit 1)),(.lit 0),1,.bool (.lit false)⟩] (.lit 0)),(39,.up {r:=22,n1:=(.var 14),s1:=5,ks:=[.int .i64,.int .i64,.int .i64,.int .i64,.bool]} 0 [] (.lit 0))],bk:=[(14,{aC:=12}),(13,{aC:=18,i1:=(.lit 0),s1:=1})],nb:=[1]}):=by
 refine Sat.fin (cu rfl rfl (ma hv hw (YO c3)) ?_ (PS.ext' rfl rfl rfl rfl rfl rfl (fun i=>by simp [af,aF,PS.free,-Int.pred_toNat,Sub.ag,assoc,CV.I,CV.B,ah,ai,ae.I,ae.B,SC.I,SC.B,IE.den,BE.den]) (fun i=>by simp [af,PS.free,-Int.pred_toNat,Sub.ag,assoc,CV.I,CV.B,ah,ai,ae.I,ae.B,SC.I,SC.B,IE.den,BE.den]) (fun i=>?_) (fun i k=>by simp [af,aF,PS.free,-Int.pred_toNat,Sub.ag,assoc,CV.I,CV.B,ah,ai,ae.I,ae.B,SC.I,SC.B,IE.den,BE.den]) (fun i=>?_)) rfl ?_)
 ·refine ⟨fun h=>(by cases h),?_,hf.1,hf.2⟩
  show 0≤q.iv 17+1
  have:0≤q.iv 17:=ho.2.1
  omega
 ·by_cases h:i=(q.iv 4-1).toNat
  ·subst h
   simp [af,ay,ak,PS.free,-Int.pred_toNat,Sub.ag,assoc,CV.I,CV.B,ah,ai,ae.I,ae.B,SC.I,SC.B,IE.den,BE.den]
  ·simp [af,ay,ak,PS.free,-Int.pred_toNat,Sub.ag,assoc,CV.I,CV.B,ah,ai,ae.I,ae.B,SC.I,SC.B,IE.den,BE.den,h,Ne.symm h]
 ·by_cases h:i=(q.iv 17).toNat
  ·subst h
   simp [af,ay,ak,PS.free,-Int.pred_toNat,Sub.ag,assoc,CV.I,CV.B,ah,ai,ae.I,ae.B,SC.I,SC.B,IE.den,BE.den]
  ·simp [af,ay,ak,PS.free,-Int.pred_toNat,Sub.ag,assoc,CV.I,CV.B,ah,ai,ae.I,ae.B,SC.I,SC.B,IE.den,BE.den,h,Ne.symm h]
 ·simp [aG,ak,Wd.zero,-Int.pred_toNat,Sub.ag,assoc,CV.I,CV.B,ah,ai,ae.I,ae.B,SC.I,SC.B,IE.den,BE.den]
set_option maxHeartbeats 4000000 in
theorem YQ (r:Env) (hpre:Oh r.num):Sat zF [] [] r Og:=by
 replace hpre:Oh r:=hpre
 obtain ⟨ho,hk,hst⟩:=id hpre
 have ok:=hk
 have b1:0≤r.iv 14∧r.iv 14≤200:=hk.nb
 have b2:0≤r.iv 15∧r.iv 15≤1024:=hk.ns
 have b3:0≤r.iv 17:=hk.nf
 have b4:0≤r.iv 20∧r.iv 20≤r.iv 19:=hk.made
 have b5:r.iv 17≤r.iv 15:=by
  have h:((jO (af r (r.iv 14) (r.iv 15) 16).used (r.iv 15).toNat:Nat):Int)+r.iv 17=r.iv 15:=hk.cnt
  omega
 have b6:=ho.2.2
 simp only [Nat.reduceAdd] at b6
 unfold Og
 refine Sat.br (fun c0=>?_) (fun c0=>?_)
 ·simp only [Da] at c0
  refine Sat.br (fun c1=>?_) (fun c1=>?_)
  ·simp only [Da] at c1
   refine Sat.ob (by first | exact aK ho | exact bW ho (by simp only [Nat.reduceAdd];omega) | (simp only [Da];omega)) ?_
   refine Sat.br (fun c2=>?_) (fun c2=>?_)
   ·simp only [Da] at c2
    have hv:¬(af r (r.iv 14) (r.iv 15) 16).valid (ay r 0):=by
     first | (simp [-Int.pred_toNat,PS.valid,PS.has,PS.is,af,ay,ak,c0,c1,c2];done) | (simp [-Int.pred_toNat,PS.valid,PS.has,PS.is,af,ay,ak,c0,c1,c2];omega)
    exact Sat.fin (cu rfl rfl (qz hv) ho (PS.ext' rfl rfl rfl rfl rfl rfl (fun i=>by simp [af,aF,-Int.pred_toNat,Sub.ag,assoc,CV.I,CV.B,ah,ai,ae.I,ae.B,SC.I,SC.B,IE.den,BE.den]) (fun i=>by simp [af,-Int.pred_toNat,Sub.ag,assoc,CV.I,CV.B,ah,ai,ae.I,ae.B,SC.I,SC.B,IE.den,BE.den]) (fun i=>by simp [af,-Int.pred_toNat,Sub.ag,assoc,CV.I,CV.B,ah,ai,ae.I,ae.B,SC.I,SC.B,IE.den,BE.den]) (fun i k=>by simp [af,aF,-Int.pred_toNat,Sub.ag,assoc,CV.I,CV.B,ah,ai,ae.I,ae.B,SC.I,SC.B,IE.den,BE.den]) (fun i=>by simp [af,-Int.pred_toNat,Sub.ag,assoc,CV.I,CV.B,ah,ai,ae.I,ae.B,SC.I,SC.B,IE.den,BE.den])) rfl rfl)
   ·simp only [Da] at c2
    refine Sat.ob (by first | exact aK ho | exact bW ho (by simp only [Nat.reduceAdd];omega) | (simp only [Da];omega)) ?_
    have hv:(af r (r.iv 14) (r.iv 15) 16).valid (ay r 0):=by
     first | (simp [-Int.pred_toNat,PS.valid,PS.has,PS.is,af,ay,ak,c0,c1,c2];done) | (simp [-Int.pred_toNat,PS.valid,PS.has,PS.is,af,ay,ak,c0,c1,c2];omega)
    have hw:(af r (r.iv 14) (r.iv 15) 16).right (ay r 0):=by
     first | (simp [-Int.pred_toNat,PS.right,PS.live,af,ay,ak,c0,c1,c2];done) | (simp [-Int.pred_toNat,PS.right,PS.live,af,ay,ak,c0,c1,c2];omega)
    refine Sat.fin (cu rfl rfl (ma hv hw (WQ c0 c1)) ho (PS.ext' rfl rfl rfl rfl rfl rfl (fun i=>by simp [af,aF,-Int.pred_toNat,Sub.ag,assoc,CV.I,CV.B,ah,ai,ae.I,ae.B,SC.I,SC.B,IE.den,BE.den]) (fun i=>by simp [af,-Int.pred_toNat,Sub.ag,assoc,CV.I,CV.B,ah,ai,ae.I,ae.B,SC.I,SC.B,IE.den,BE.den]) (fun i=>by simp [af,-Int.pred_toNat,Sub.ag,assoc,CV.I,CV.B,ah,ai,ae.I,ae.B,SC.I,SC.B,IE.den,BE.den]) (fun i k=>by simp [af,aF,-Int.pred_toNat,Sub.ag,assoc,CV.I,CV.B,ah,ai,ae.I,ae.B,SC.I,SC.B,IE.den,BE.den]) (fun i=>by simp [af,-Int.pred_toNat,Sub.ag,assoc,CV.I,CV.B,ah,ai,ae.I,ae.B,SC.I,SC.B,IE.den,BE.den])) rfl ?_)
    simp [aG,ak,af,aF,ay,-Int.pred_toNat,Sub.ag,assoc,CV.I,CV.B,ah,ai,ae.I,ae.B,SC.I,SC.B,IE.den,BE.den]
  ·simp only [Da] at c1
   refine Sat.ob (by first | exact aK ho | exact bW ho (by simp only [Nat.reduceAdd];omega) | (simp only [Da];omega)) ?_
   refine Sat.br (fun c2=>?_) (fun c2=>?_)
   ·simp only [Da] at c2
    have hv:¬(af r (r.iv 14) (r.iv 15) 16).valid (ay r 0):=by
     first | (simp [-Int.pred_toNat,PS.valid,PS.has,PS.is,af,ay,ak,c0,c1,c2];done) | (simp [-Int.pred_toNat,PS.valid,PS.has,PS.is,af,ay,ak,c0,c1,c2];omega)
    exact Sat.fin (cu rfl rfl (qz hv) ho (PS.ext' rfl rfl rfl rfl rfl rfl (fun i=>by simp [af,aF,-Int.pred_toNat,Sub.ag,assoc,CV.I,CV.B,ah,ai,ae.I,ae.B,SC.I,SC.B,IE.den,BE.den]) (fun i=>by simp [af,-Int.pred_toNat,Sub.ag,assoc,CV.I,CV.B,ah,ai,ae.I,ae.B,SC.I,SC.B,IE.den,BE.den]) (fun i=>by simp [af,-Int.pred_toNat,Sub.ag,assoc,CV.I,CV.B,ah,ai,ae.I,ae.B,SC.I,SC.B,IE.den,BE.den]) (fun i k=>by simp [af,aF,-Int.pred_toNat,Sub.ag,assoc,CV.I,CV.B,ah,ai,ae.I,ae.B,SC.I,SC.B,IE.den,BE.den]) (fun i=>by simp [af,-Int.pred_toNat,Sub.ag,assoc,CV.I,CV.B,ah,ai,ae.I,ae.B,SC.I,SC.B,IE.den,BE.den])) rfl rfl)
   ·simp only [Da] at c2
    refine Sat.ob (by first | exact aK ho | exact bW ho (by simp only [Nat.reduceAdd];omega) | (simp only [Da];omega)) ?_
    refine Sat.ob (by first | exact aK ho | exact bW ho (by simp only [Nat.reduceAdd];omega) | (simp only [Da];omega)) ?_
    refine Sat.ob (by first | exact aK ho | exact bW ho (by simp only [Nat.reduceAdd];omega) | (simp only [Da];omega)) ?_
    refine Sat.ob (by first | exact aK ho | exact bW ho (by simp only [Nat.reduceAdd];omega) | (simp only [Da];omega)) ?_
    refine Sat.br (fun c3=>?_) (fun c3=>?_)
    ·simp only [Da] at c3
     refine Sat.br (fun c4=>?_) (fun c4=>?_)
     ·simp only [Da] at c4
      have hv:(af r (r.iv 14) (r.iv 15) 16).valid (ay r 0):=by
       first | (simp [-Int.pred_toNat,PS.valid,PS.has,PS.is,af,ay,ak,c0,c1,c2,c3,c4];done) | (simp [-Int.pred_toNat,PS.valid,PS.has,PS.is,af,ay,ak,c0,c1,c2,c3,c4];omega)
      have hw:¬(af r (r.iv 14) (r.iv 15) 16).right (ay r 0):=by
       first | (simp [-Int.pred_toNat,PS.right,PS.live,af,ay,ak,c0,c1,c2,c3,c4];done) | (simp [-Int.pred_toNat,PS.right,PS.live,af,ay,ak,c0,c1,c2,c3,c4];omega)
      exact Sat.fin (cu rfl rfl (fE hv hw) ho (PS.ext' rfl rfl rfl rfl rfl rfl (fun i=>by simp [af,aF,-Int.pred_toNat,Sub.ag,assoc,CV.I,CV.B,ah,ai,ae.I,ae.B,SC.I,SC.B,IE.den,BE.den]) (fun i=>by simp [af,-Int.pred_toNat,Sub.ag,assoc,CV.I,CV.B,ah,ai,ae.I,ae.B,SC.I,SC.B,IE.den,BE.den]) (fun i=>by simp [af,-Int.pred_toNat,Sub.ag,assoc,CV.I,CV.B,ah,ai,ae.I,ae.B,SC.I,SC.B,IE.den,BE.den]) (fun i k=>by simp [af,aF,-Int.pred_toNat,Sub.ag,assoc,CV.I,CV.B,ah,ai,ae.I,ae.B,SC.I,SC.B,IE.den,BE.den]) (fun i=>by simp [af,-Int.pred_toNat,Sub.ag,assoc,CV.I,CV.B,ah,ai,ae.I,ae.B,SC.I,SC.B,IE.den,BE.den])) rfl (by simp [aG,ak,fq,ay,Rp.no,Wd.zero,-Int.pred_toNat,Sub.ag,assoc,CV.I,CV.B,ah,ai,ae.I,ae.B,SC.I,SC.B,IE.den,BE.den,c0,c1,c2,c3,c4]))
     ·simp only [Da] at c4
      have hv:(af r (r.iv 14) (r.iv 15) 16).valid (ay r 0):=by
       first | (simp [-Int.pred_toNat,PS.valid,PS.has,PS.is,af,ay,ak,c0,c1,c2,c3,c4];done) | (simp [-Int.pred_toNat,PS.valid,PS.has,PS.is,af,ay,ak,c0,c1,c2,c3,c4];omega)
      have hw:¬(af r (r.iv 14) (r.iv 15) 16).right (ay r 0):=by
       first | (simp [-Int.pred_toNat,PS.right,PS.live,af,ay,ak,c0,c1,c2,c3,c4];done) | (simp [-Int.pred_toNat,PS.right,PS.live,af,ay,ak,c0,c1,c2,c3,c4];omega)
      exact Sat.fin (cu rfl rfl (fE hv hw) ho (PS.ext' rfl rfl rfl rfl rfl (show r.bv 21=false from c4) (fun i=>by simp [af,aF,-Int.pred_toNat,Sub.ag,assoc,CV.I,CV.B,ah,ai,ae.I,ae.B,SC.I,SC.B,IE.den,BE.den]) (fun i=>by simp [af,-Int.pred_toNat,Sub.ag,assoc,CV.I,CV.B,ah,ai,ae.I,ae.B,SC.I,SC.B,IE.den,BE.den]) (fun i=>by simp [af,-Int.pred_toNat,Sub.ag,assoc,CV.I,CV.B,ah,ai,ae.I,ae.B,SC.I,SC.B,IE.den,BE.den]) (fun i k=>by simp [af,aF,-Int.pred_toNat,Sub.ag,assoc,CV.I,CV.B,ah,ai,ae.I,ae.B,SC.I,SC.B,IE.den,BE.den]) (fun i=>by simp [af,-Int.pred_toNat,Sub.ag,assoc,CV.I,CV.B,ah,ai,ae.I,ae.B,SC.I,SC.B,IE.den,BE.den])) rfl (by simp [aG,ak,fq,ay,Rp.no,Wd.zero,-Int.pred_toNat,Sub.ag,assoc,CV.I,CV.B,ah,ai,ae.I,ae.B,SC.I,SC.B,IE.den,BE.den,c0,c1,c2,c3,c4]))
    ·simp only [Da] at c3
     refine Sat.br (fun c4=>?_) (fun c4=>?_)
     ·simp only [Da] at c4
      refine Sat.br (fun c5=>?_) (fun c5=>?_)
      ·simp only [Da] at c5
       have hv:(af r (r.iv 14) (r.iv 15) 16).valid (ay r 0):=by
        first | (simp [-Int.pred_toNat,PS.valid,PS.has,PS.is,af,ay,ak,c0,c1,c2,c3,c4,c5];done) | (simp [-Int.pred_toNat,PS.valid,PS.has,PS.is,af,ay,ak,c0,c1,c2,c3,c4,c5];omega)
       have hw:¬(af r (r.iv 14) (r.iv 15) 16).right (ay r 0):=by
        first | (simp [-Int.pred_toNat,PS.right,PS.live,af,ay,ak,c0,c1,c2,c3,c4,c5];done) | (simp [-Int.pred_toNat,PS.right,PS.live,af,ay,ak,c0,c1,c2,c3,c4,c5];omega)
       exact Sat.fin (cu rfl rfl (fE hv hw) ho (PS.ext' rfl rfl rfl rfl rfl rfl (fun i=>by simp [af,aF,-Int.pred_toNat,Sub.ag,assoc,CV.I,CV.B,ah,ai,ae.I,ae.B,SC.I,SC.B,IE.den,BE.den]) (fun i=>by simp [af,-Int.pred_toNat,Sub.ag,assoc,CV.I,CV.B,ah,ai,ae.I,ae.B,SC.I,SC.B,IE.den,BE.den]) (fun i=>by simp [af,-Int.pred_toNat,Sub.ag,assoc,CV.I,CV.B,ah,ai,ae.I,ae.B,SC.I,SC.B,IE.den,BE.den]) (fun i k=>by simp [af,aF,-Int.pred_toNat,Sub.ag,assoc,CV.I,CV.B,ah,ai,ae.I,ae.B,SC.I,SC.B,IE.den,BE.den]) (fun i=>by simp [af,-Int.pred_toNat,Sub.ag,assoc,CV.I,CV.B,ah,ai,ae.I,ae.B,SC.I,SC.B,IE.den,BE.den])) rfl (by simp [aG,ak,fq,ay,Rp.no,Wd.zero,-Int.pred_toNat,Sub.ag,assoc,CV.I,CV.B,ah,ai,ae.I,ae.B,SC.I,SC.B,IE.den,BE.den,c0,c1,c2,c3,c4,c5]))
      ·simp only [Da] at c5
       have hv:(af r (r.iv 14) (r.iv 15) 16).valid (ay r 0):=by
        first | (simp [-Int.pred_toNat,PS.valid,PS.has,PS.is,af,ay,ak,c0,c1,c2,c3,c4,c5];done) | (simp [-Int.pred_toNat,PS.valid,PS.has,PS.is,af,ay,ak,c0,c1,c2,c3,c4,c5];omega)
       have hw:¬(af r (r.iv 14) (r.iv 15) 16).right (ay r 0):=by
        first | (simp [-Int.pred_toNat,PS.right,PS.live,af,ay,ak,c0,c1,c2,c3,c4,c5];done) | (simp [-Int.pred_toNat,PS.right,PS.live,af,ay,ak,c0,c1,c2,c3,c4,c5];omega)
       exact Sat.fin (cu rfl rfl (fE hv hw) ho (PS.ext' rfl rfl rfl rfl rfl (show r.bv 21=false from c5) (fun i=>by simp [af,aF,-Int.pred_toNat,Sub.ag,assoc,CV.I,CV.B,ah,ai,ae.I,ae.B,SC.I,SC.B,IE.den,BE.den]) (fun i=>by simp [af,-Int.pred_toNat,Sub.ag,assoc,CV.I,CV.B,ah,ai,ae.I,ae.B,SC.I,SC.B,IE.den,BE.den]) (fun i=>by simp [af,-Int.pred_toNat,Sub.ag,assoc,CV.I,CV.B,ah,ai,ae.I,ae.B,SC.I,SC.B,IE.den,BE.den]) (fun i k=>by simp [af,aF,-Int.pred_toNat,Sub.ag,assoc,CV.I,CV.B,ah,ai,ae.I,ae.B,SC.I,SC.B,IE.den,BE.den]) (fun i=>by simp [af,-Int.pred_toNat,Sub.ag,assoc,CV.I,CV.B,ah,ai,ae.I,ae.B,SC.I,SC.B,IE.den,BE.den])) rfl (by simp [aG,ak,fq,ay,Rp.no,Wd.zero,-Int.pred_toNat,Sub.ag,assoc,CV.I,CV.B,ah,ai,ae.I,ae.B,SC.I,SC.B,IE.den,BE.den,c0,c1,c2,c3,c4,c5]))
     ·simp only [Da] at c4
      have hv:(af r (r.iv 14) (r.iv 15) 16).valid (ay r 0):=by
       first | (simp [-Int.pred_toNat,PS.valid,PS.has,PS.is,af,ay,ak,c0,c1,c2,c3,c4];done) | (simp [-Int.pred_toNat,PS.valid,PS.has,PS.is,af,ay,ak,c0,c1,c2,c3,c4];omega)
      have hw:(af r (r.iv 14) (r.iv 15) 16).right (ay r 0):=by
       first | (simp [-Int.pred_toNat,PS.right,PS.live,af,ay,ak,c0,c1,c2,c3,c4];done) | (simp [-Int.pred_toNat,PS.right,PS.live,af,ay,ak,c0,c1,c2,c3,c4];omega)
      refine Sat.fin (cu rfl rfl (ma hv hw (WR c0 c1)) ho (PS.ext' rfl rfl rfl rfl rfl rfl (fun i=>by simp [af,aF,-Int.pred_toNat,Sub.ag,assoc,CV.I,CV.B,ah,ai,ae.I,ae.B,SC.I,SC.B,IE.den,BE.den]) (fun i=>by simp [af,-Int.pred_toNat,Sub.ag,assoc,CV.I,CV.B,ah,ai,ae.I,ae.B,SC.I,SC.B,IE.den,BE.den]) (fun i=>by simp [af,-Int.pred_toNat,Sub.ag,assoc,CV.I,CV.B,ah,ai,ae.I,ae.B,SC.I,SC.B,IE.den,BE.den]) (fun i k=>by simp [af,aF,-Int.pred_toNat,Sub.ag,assoc,CV.I,CV.B,ah,ai,ae.I,ae.B,SC.I,SC.B,IE.den,BE.den]) (fun i=>by simp [af,-Int.pred_toNat,Sub.ag,assoc,CV.I,CV.B,ah,ai,ae.I,ae.B,SC.I,SC.B,IE.den,BE.den])) rfl ?_)
      simp [aG,ak,af,aF,ay,-Int.pred_toNat,Sub.ag,assoc,CV.I,CV.B,ah,ai,ae.I,ae.B,SC.I,SC.B,IE.den,BE.den]
 ·simp only [Da] at c0
  refine Sat.br (fun c1=>?_) (fun c1=>?_)
  ·simp only [Da] at c1
   refine Sat.br (fun c2=>?_) (fun c2=>?_)
   ·simp only [Da] at c2
    refine Sat.ob (by first | exact aK ho | exact bW ho (by simp only [Nat.reduceAdd];omega) | (simp only [Da];omega)) ?_
    refine Sat.br (fun c3=>?_) (fun c3=>?_)
    ·simp only [Da] at c3
     have hv:¬(af r (r.iv 14) (r.iv 15) 16).valid (ay r 0):=by
      first | (simp [-Int.pred_toNat,PS.valid,PS.has,PS.is,af,ay,ak,c0,c1,c2,c3];done) | (simp [-Int.pred_toNat,PS.valid,PS.has,PS.is,af,ay,ak,c0,c1,c2,c3];omega)
     exact Sat.fin (cu rfl rfl (qz hv) ho (PS.ext' rfl rfl rfl rfl rfl rfl (fun i=>by simp [af,aF,-Int.pred_toNat,Sub.ag,assoc,CV.I,CV.B,ah,ai,ae.I,ae.B,SC.I,SC.B,IE.den,BE.den]) (fun i=>by simp [af,-Int.pred_toNat,Sub.ag,assoc,CV.I,CV.B,ah,ai,ae.I,ae.B,SC.I,SC.B,IE.den,BE.den]) (fun i=>by simp [af,-Int.pred_toNat,Sub.ag,assoc,CV.I,CV.B,ah,ai,ae.I,ae.B,SC.I,SC.B,IE.den,BE.den]) (fun i k=>by simp [af,aF,-Int.pred_toNat,Sub.ag,assoc,CV.I,CV.B,ah,ai,ae.I,ae.B,SC.I,SC.B,IE.den,BE.den]) (fun i=>by simp [af,-Int.pred_toNat,Sub.ag,assoc,CV.I,CV.B,ah,ai,ae.I,ae.B,SC.I,SC.B,IE.den,BE.den])) rfl rfl)
    ·simp only [Da] at c3
     refine Sat.ob (by first | exact aK ho | exact bW ho (by simp only [Nat.reduceAdd];omega) | (simp only [Da];omega)) ?_
     have hv:(af r (r.iv 14) (r.iv 15) 16).valid (ay r 0):=by
      first | (simp [-Int.pred_toNat,PS.valid,PS.has,PS.is,af,ay,ak,c0,c1,c2,c3];done) | (simp [-Int.pred_toNat,PS.valid,PS.has,PS.is,af,ay,ak,c0,c1,c2,c3];omega)
     have hw:(af r (r.iv 14) (r.iv 15) 16).right (ay r 0):=by
      first | (simp [-Int.pred_toNat,PS.right,PS.live,af,ay,ak,c0,c1,c2,c3];done) | (simp [-Int.pred_toNat,PS.right,PS.live,af,ay,ak,c0,c1,c2,c3];omega)
     refine Sat.fin (cu rfl rfl (ma hv hw (WS c1 c2)) ho (PS.ext' rfl rfl rfl rfl rfl rfl (fun i=>by
       by_cases h:i=(r.iv 3).toNat
       · subst h
         simp [af,aF,ay,ak,-Int.pred_toNat,Sub.ag,assoc,CV.I,CV.B,ah,ai,ae.I,ae.B,SC.I,SC.B,IE.den,BE.den]
       · simp [af,aF,ay,ak,-Int.pred_toNat,Sub.ag,assoc,CV.I,CV.B,ah,ai,ae.I,ae.B,SC.I,SC.B,IE.den,BE.den,h,Ne.symm h]) (fun i=>by simp [af,-Int.pred_toNat,Sub.ag,assoc,CV.I,CV.B,ah,ai,ae.I,ae.B,SC.I,SC.B,IE.den,BE.den]) (fun i=>by simp [af,-Int.pred_toNat,Sub.ag,assoc,CV.I,CV.B,ah,ai,ae.I,ae.B,SC.I,SC.B,IE.den,BE.den]) (fun i k=>by simp [af,aF,-Int.pred_toNat,Sub.ag,assoc,CV.I,CV.B,ah,ai,ae.I,ae.B,SC.I,SC.B,IE.den,BE.den]) (fun i=>by simp [af,-Int.pred_toNat,Sub.ag,assoc,CV.I,CV.B,ah,ai,ae.I,ae.B,SC.I,SC.B,IE.den,BE.den])) rfl ?_)
     simp [aG,ak,af,aF,ay,Wd.zero,-Int.pred_toNat,Sub.ag,assoc,CV.I,CV.B,ah,ai,ae.I,ae.B,SC.I,SC.B,IE.den,BE.den]
   ·simp only [Da] at c2
    refine Sat.ob (by first | exact aK ho | exact bW ho (by simp only [Nat.reduceAdd];omega) | (simp only [Da];omega)) ?_
    refine Sat.br (fun c3=>?_) (fun c3=>?_)
    ·simp only [Da] at c3
     have hv:¬(af r (r.iv 14) (r.iv 15) 16).valid (ay r 0):=by
      first | (simp [-Int.pred_toNat,PS.valid,PS.has,PS.is,af,ay,ak,c0,c1,c2,c3];done) | (simp [-Int.pred_toNat,PS.valid,PS.has,PS.is,af,ay,ak,c0,c1,c2,c3];omega)
     exact Sat.fin (cu rfl rfl (qz hv) ho (PS.ext' rfl rfl rfl rfl rfl rfl (fun i=>by simp [af,aF,-Int.pred_toNat,Sub.ag,assoc,CV.I,CV.B,ah,ai,ae.I,ae.B,SC.I,SC.B,IE.den,BE.den]) (fun i=>by simp [af,-Int.pred_toNat,Sub.ag,assoc,CV.I,CV.B,ah,ai,ae.I,ae.B,SC.I,SC.B,IE.den,BE.den]) (fun i=>by simp [af,-Int.pred_toNat,Sub.ag,assoc,CV.I,CV.B,ah,ai,ae.I,ae.B,SC.I,SC.B,IE.den,BE.den]) (fun i k=>by simp [af,aF,-Int.pred_toNat,Sub.ag,assoc,CV.I,CV.B,ah,ai,ae.I,ae.B,SC.I,SC.B,IE.den,BE.den]) (fun i=>by simp [af,-Int.pred_toNat,Sub.ag,assoc,CV.I,CV.B,ah,ai,ae.I,ae.B,SC.I,SC.B,IE.den,BE.den])) rfl rfl)
    ·simp only [Da] at c3
     refine Sat.ob (by first | exact aK ho | exact bW ho (by simp only [Nat.reduceAdd];omega) | (simp only [Da];omega)) ?_
     refine Sat.ob (by first | exact aK ho | exact bW ho (by simp only [Nat.reduceAdd];omega) | (simp only [Da];omega)) ?_
     refine Sat.ob (by first | exact aK ho | exact bW ho (by simp only [Nat.reduceAdd];omega) | (simp only [Da];omega)) ?_
     refine Sat.ob (by first | exact aK ho | exact bW ho (by simp only [Nat.reduceAdd];omega) | (simp only [Da];omega)) ?_
     refine Sat.br (fun c4=>?_) (fun c4=>?_)
     ·simp only [Da] at c4
      refine Sat.br (fun c5=>?_) (fun c5=>?_)
      ·simp only [Da] at c5
       have hv:(af r (r.iv 14) (r.iv 15) 16).valid (ay r 0):=by
        first | (simp [-Int.pred_toNat,PS.valid,PS.has,PS.is,af,ay,ak,c0,c1,c2,c3,c4,c5];done) | (simp [-Int.pred_toNat,PS.valid,PS.has,PS.is,af,ay,ak,c0,c1,c2,c3,c4,c5];omega)
       have hw:¬(af r (r.iv 14) (r.iv 15) 16).right (ay r 0):=by
        first | (simp [-Int.pred_toNat,PS.right,PS.live,af,ay,ak,c0,c1,c2,c3,c4,c5];done) | (simp [-Int.pred_toNat,PS.right,PS.live,af,ay,ak,c0,c1,c2,c3,c4,c5];omega)
       exact Sat.fin (cu rfl rfl (fE hv hw) ho (PS.ext' rfl rfl rfl rfl rfl rfl (fun i=>by simp [af,aF,-Int.pred_toNat,Sub.ag,assoc,CV.I,CV.B,ah,ai,ae.I,ae.B,SC.I,SC.B,IE.den,BE.den]) (fun i=>by simp [af,-Int.pred_toNat,Sub.ag,assoc,CV.I,CV.B,ah,ai,ae.I,ae.B,SC.I,SC.B,IE.den,BE.den]) (fun i=>by simp [af,-Int.pred_toNat,Sub.ag,assoc,CV.I,CV.B,ah,ai,ae.I,ae.B,SC.I,SC.B,IE.den,BE.den]) (fun i k=>by simp [af,aF,-Int.pred_toNat,Sub.ag,assoc,CV.I,CV.B,ah,ai,ae.I,ae.B,SC.I,SC.B,IE.den,BE.den]) (fun i=>by simp [af,-Int.pred_toNat,Sub.ag,assoc,CV.I,CV.B,ah,ai,ae.I,ae.B,SC.I,SC.B,IE.den,BE.den])) rfl (by simp [aG,ak,fq,ay,Rp.no,Wd.zero,-Int.pred_toNat,Sub.ag,assoc,CV.I,CV.B,ah,ai,ae.I,ae.B,SC.I,SC.B,IE.den,BE.den,c0,c1,c2,c3,c4,c5]))
      ·simp only [Da] at c5
       have hv:(af r (r.iv 14) (r.iv 15) 16).valid (ay r 0):=by
        first | (simp [-Int.pred_toNat,PS.valid,PS.has,PS.is,af,ay,ak,c0,c1,c2,c3,c4,c5];done) | (simp [-Int.pred_toNat,PS.valid,PS.has,PS.is,af,ay,ak,c0,c1,c2,c3,c4,c5];omega)
       have hw:¬(af r (r.iv 14) (r.iv 15) 16).right (ay r 0):=by
        first | (simp [-Int.pred_toNat,PS.right,PS.live,af,ay,ak,c0,c1,c2,c3,c4,c5];done) | (simp [-Int.pred_toNat,PS.right,PS.live,af,ay,ak,c0,c1,c2,c3,c4,c5];omega)
       exact Sat.fin (cu rfl rfl (fE hv hw) ho (PS.ext' rfl rfl rfl rfl rfl (show r.bv 21=false from c5) (fun i=>by simp [af,aF,-Int.pred_toNat,Sub.ag,assoc,CV.I,CV.B,ah,ai,ae.I,ae.B,SC.I,SC.B,IE.den,BE.den]) (fun i=>by simp [af,-Int.pred_toNat,Sub.ag,assoc,CV.I,CV.B,ah,ai,ae.I,ae.B,SC.I,SC.B,IE.den,BE.den]) (fun i=>by simp [af,-Int.pred_toNat,Sub.ag,assoc,CV.I,CV.B,ah,ai,ae.I,ae.B,SC.I,SC.B,IE.den,BE.den]) (fun i k=>by simp [af,aF,-Int.pred_toNat,Sub.ag,assoc,CV.I,CV.B,ah,ai,ae.I,ae.B,SC.I,SC.B,IE.den,BE.den]) (fun i=>by simp [af,-Int.pred_toNat,Sub.ag,assoc,CV.I,CV.B,ah,ai,ae.I,ae.B,SC.I,SC.B,IE.den,BE.den])) rfl (by simp [aG,ak,fq,ay,Rp.no,Wd.zero,-Int.pred_toNat,Sub.ag,assoc,CV.I,CV.B,ah,ai,ae.I,ae.B,SC.I,SC.B,IE.den,BE.den,c0,c1,c2,c3,c4,c5]))
     ·simp only [Da] at c4
      refine Sat.br (fun c5=>?_) (fun c5=>?_)
      ·simp only [Da] at c5
       refine Sat.br (fun c6=>?_) (fun c6=>?_)
       ·simp only [Da] at c6
        have hv:(af r (r.iv 14) (r.iv 15) 16).valid (ay r 0):=by
         first | (simp [-Int.pred_toNat,PS.valid,PS.has,PS.is,af,ay,ak,c0,c1,c2,c3,c4,c5,c6];done) | (simp [-Int.pred_toNat,PS.valid,PS.has,PS.is,af,ay,ak,c0,c1,c2,c3,c4,c5,c6];omega)
        have hw:¬(af r (r.iv 14) (r.iv 15) 16).right (ay r 0):=by
         first | (simp [-Int.pred_toNat,PS.right,PS.live,af,ay,ak,c0,c1,c2,c3,c4,c5,c6];done) | (simp [-Int.pred_toNat,PS.right,PS.live,af,ay,ak,c0,c1,c2,c3,c4,c5,c6];omega)
        exact Sat.fin (cu rfl rfl (fE hv hw) ho (PS.ext' rfl rfl rfl rfl rfl rfl (fun i=>by simp [af,aF,-Int.pred_toNat,Sub.ag,assoc,CV.I,CV.B,ah,ai,ae.I,ae.B,SC.I,SC.B,IE.den,BE.den]) (fun i=>by simp [af,-Int.pred_toNat,Sub.ag,assoc,CV.I,CV.B,ah,ai,ae.I,ae.B,SC.I,SC.B,IE.den,BE.den]) (fun i=>by simp [af,-Int.pred_toNat,Sub.ag,assoc,CV.I,CV.B,ah,ai,ae.I,ae.B,SC.I,SC.B,IE.den,BE.den]) (fun i k=>by simp [af,aF,-Int.pred_toNat,Sub.ag,assoc,CV.I,CV.B,ah,ai,ae.I,ae.B,SC.I,SC.B,IE.den,BE.den]) (fun i=>by simp [af,-Int.pred_toNat,Sub.ag,assoc,CV.I,CV.B,ah,ai,ae.I,ae.B,SC.I,SC.B,IE.den,BE.den])) rfl (by simp [aG,ak,fq,ay,Rp.no,Wd.zero,-Int.pred_toNat,Sub.ag,assoc,CV.I,CV.B,ah,ai,ae.I,ae.B,SC.I,SC.B,IE.den,BE.den,c0,c1,c2,c3,c4,c5,c6]))
       ·simp only [Da] at c6
        have hv:(af r (r.iv 14) (r.iv 15) 16).valid (ay r 0):=by
         first | (simp [-Int.pred_toNat,PS.valid,PS.has,PS.is,af,ay,ak,c0,c1,c2,c3,c4,c5,c6];done) | (simp [-Int.pred_toNat,PS.valid,PS.has,PS.is,af,ay,ak,c0,c1,c2,c3,c4,c5,c6];omega)
        have hw:¬(af r (r.iv 14) (r.iv 15) 16).right (ay r 0):=by
         first | (simp [-Int.pred_toNat,PS.right,PS.live,af,ay,ak,c0,c1,c2,c3,c4,c5,c6];done) | (simp [-Int.pred_toNat,PS.right,PS.live,af,ay,ak,c0,c1,c2,c3,c4,c5,c6];omega)
        exact Sat.fin (cu rfl rfl (fE hv hw) ho (PS.ext' rfl rfl rfl rfl rfl (show r.bv 21=false from c6) (fun i=>by simp [af,aF,-Int.pred_toNat,Sub.ag,assoc,CV.I,CV.B,ah,ai,ae.I,ae.B,SC.I,SC.B,IE.den,BE.den]) (fun i=>by simp [af,-Int.pred_toNat,Sub.ag,assoc,CV.I,CV.B,ah,ai,ae.I,ae.B,SC.I,SC.B,IE.den,BE.den]) (fun i=>by simp [af,-Int.pred_toNat,Sub.ag,assoc,CV.I,CV.B,ah,ai,ae.I,ae.B,SC.I,SC.B,IE.den,BE.den]) (fun i k=>by simp [af,aF,-Int.pred_toNat,Sub.ag,assoc,CV.I,CV.B,ah,ai,ae.I,ae.B,SC.I,SC.B,IE.den,BE.den]) (fun i=>by simp [af,-Int.pred_toNat,Sub.ag,assoc,CV.I,CV.B,ah,ai,ae.I,ae.B,SC.I,SC.B,IE.den,BE.den])) rfl (by simp [aG,ak,fq,ay,Rp.no,Wd.zero,-Int.pred_toNat,Sub.ag,assoc,CV.I,CV.B,ah,ai,ae.I,ae.B,SC.I,SC.B,IE.den,BE.den,c0,c1,c2,c3,c4,c5,c6]))
      ·simp only [Da] at c5
       have hv:(af r (r.iv 14) (r.iv 15) 16).valid (ay r 0):=by
        first | (simp [-Int.pred_toNat,PS.valid,PS.has,PS.is,af,ay,ak,c0,c1,c2,c3,c4,c5];done) | (simp [-Int.pred_toNat,PS.valid,PS.has,PS.is,af,ay,ak,c0,c1,c2,c3,c4,c5];omega)
       have hw:(af r (r.iv 14) (r.iv 15) 16).right (ay r 0):=by
        first | (simp [-Int.pred_toNat,PS.right,PS.live,af,ay,ak,c0,c1,c2,c3,c4,c5];done) | (simp [-Int.pred_toNat,PS.right,PS.live,af,ay,ak,c0,c1,c2,c3,c4,c5];omega)
       refine Sat.fin (cu rfl rfl (ma hv hw (WT c1 c2)) ho (PS.ext' rfl rfl rfl rfl rfl rfl (fun i=>by simp [af,aF,-Int.pred_toNat,Sub.ag,assoc,CV.I,CV.B,ah,ai,ae.I,ae.B,SC.I,SC.B,IE.den,BE.den]) (fun i=>by simp [af,-Int.pred_toNat,Sub.ag,assoc,CV.I,CV.B,ah,ai,ae.I,ae.B,SC.I,SC.B,IE.den,BE.den]) (fun i=>by simp [af,-Int.pred_toNat,Sub.ag,assoc,CV.I,CV.B,ah,ai,ae.I,ae.B,SC.I,SC.B,IE.den,BE.den]) (fun i k=>by
         by_cases h:i=(r.iv 1-1).toNat∧k=(r.iv 3).toNat
         · obtain ⟨h,h'⟩:=h
           subst h h'
           simp [af,aF,ay,ak,-Int.pred_toNat,Sub.ag,assoc,CV.I,CV.B,ah,ai,ae.I,ae.B,SC.I,SC.B,IE.den,BE.den]
         · have h':(r.iv 1-1).toNat=i→(r.iv 3).toNat=k→False:=fun e1 e2=>h ⟨e1.symm,e2.symm⟩
           by_cases h1:i=(r.iv 1-1).toNat
           · have h2:¬k=(r.iv 3).toNat:=fun e=>h ⟨h1,e⟩
             subst h1
             simp [af,aF,ay,ak,-Int.pred_toNat,Sub.ag,assoc,CV.I,CV.B,ah,ai,ae.I,ae.B,SC.I,SC.B,IE.den,BE.den,h2,Ne.symm h2]
           · simp [af,aF,ay,ak,-Int.pred_toNat,Sub.ag,assoc,CV.I,CV.B,ah,ai,ae.I,ae.B,SC.I,SC.B,IE.den,BE.den,h1,Ne.symm h1]) (fun i=>by simp [af,-Int.pred_toNat,Sub.ag,assoc,CV.I,CV.B,ah,ai,ae.I,ae.B,SC.I,SC.B,IE.den,BE.den])) rfl ?_)
       simp [aG,ak,af,aF,ay,Wd.zero,-Int.pred_toNat,Sub.ag,assoc,CV.I,CV.B,ah,ai,ae.I,ae.B,SC.I,SC.B,IE.den,BE.den]
  ·simp only [Da] at c1
   refine Sat.br (fun c2=>?_) (fun c2=>?_)
   ·simp only [Da] at c2
    refine Sat.br (fun c3=>?_) (fun c3=>?_)
    ·simp only [Da] at c3
     refine Sat.ob (by first | exact aK ho | exact bW ho (by simp only [Nat.reduceAdd];omega) | (simp only [Da];omega)) ?_
     refine Sat.br (fun c4=>?_) (fun c4=>?_)
     ·simp only [Da] at c4
      have hv:¬(af r (r.iv 14) (r.iv 15) 16).valid (ay r 0):=by
       first | (simp [-Int.pred_toNat,PS.valid,PS.has,PS.is,af,ay,ak,c0,c1,c2,c3,c4];done) | (simp [-Int.pred_toNat,PS.valid,PS.has,PS.is,af,ay,ak,c0,c1,c2,c3,c4];omega)
      exact Sat.fin (cu rfl rfl (qz hv) ho (PS.ext' rfl rfl rfl rfl rfl rfl (fun i=>by simp [af,aF,-Int.pred_toNat,Sub.ag,assoc,CV.I,CV.B,ah,ai,ae.I,ae.B,SC.I,SC.B,IE.den,BE.den]) (fun i=>by simp [af,-Int.pred_toNat,Sub.ag,assoc,CV.I,CV.B,ah,ai,ae.I,ae.B,SC.I,SC.B,IE.den,BE.den]) (fun i=>by simp [af,-Int.pred_toNat,Sub.ag,assoc,CV.I,CV.B,ah,ai,ae.I,ae.B,SC.I,SC.B,IE.den,BE.den]) (fun i k=>by simp [af,aF,-Int.pred_toNat,Sub.ag,assoc,CV.I,CV.B,ah,ai,ae.I,ae.B,SC.I,SC.B,IE.den,BE.den]) (fun i=>by simp [af,-Int.pred_toNat,Sub.ag,assoc,CV.I,CV.B,ah,ai,ae.I,ae.B,SC.I,SC.B,IE.den,BE.den])) rfl rfl)
     ·simp only [Da] at c4
      refine Sat.ob (by first | exact aK ho | exact bW ho (by simp only [Nat.reduceAdd];omega) | (simp only [Da];omega)) ?_
      refine Sat.br (fun c5=>?_) (fun c5=>?_)
      ·simp only [Da] at c5
       have hv:(af r (r.iv 14) (r.iv 15) 16).valid (ay r 0):=by
        first | (simp [-Int.pred_toNat,PS.valid,PS.has,PS.is,af,ay,ak,c0,c1,c2,c3,c4,c5];done) | (simp [-Int.pred_toNat,PS.valid,PS.has,PS.is,af,ay,ak,c0,c1,c2,c3,c4,c5];omega)
       have hw:(af r (r.iv 14) (r.iv 15) 16).right (ay r 0):=by
        first | (simp [-Int.pred_toNat,PS.right,PS.live,af,ay,ak,c0,c1,c2,c3,c4,c5];done) | (simp [-Int.pred_toNat,PS.right,PS.live,af,ay,ak,c0,c1,c2,c3,c4,c5];omega)
       have hs:¬je (aF (r.ic 22 (r.iv 3).toNat 0) (r.bc 22 (r.iv 3).toNat 0)) (ak r 4):=by
        simp only [je,aF,ak]
        rintro ⟨x1,x2,x3,x4⟩
        rcases c5 with h | h | h | h
        ·exact h x1
        ·exact h x2
        ·exact h x3
        ·exact h x4
       refine Sat.fin (cu rfl rfl (ma hv hw (Tw c2 c3 hs)) ho (PS.ext' rfl rfl rfl rfl rfl rfl (fun i=>by simp [af,aF,-Int.pred_toNat,Sub.ag,assoc,CV.I,CV.B,ah,ai,ae.I,ae.B,SC.I,SC.B,IE.den,BE.den]) (fun i=>by simp [af,-Int.pred_toNat,Sub.ag,assoc,CV.I,CV.B,ah,ai,ae.I,ae.B,SC.I,SC.B,IE.den,BE.den]) (fun i=>by simp [af,-Int.pred_toNat,Sub.ag,assoc,CV.I,CV.B,ah,ai,ae.I,ae.B,SC.I,SC.B,IE.den,BE.den]) (fun i k=>by simp [af,aF,-Int.pred_toNat,Sub.ag,assoc,CV.I,CV.B,ah,ai,ae.I,ae.B,SC.I,SC.B,IE.den,BE.den]) (fun i=>by simp [af,-Int.pred_toNat,Sub.ag,assoc,CV.I,CV.B,ah,ai,ae.I,ae.B,SC.I,SC.B,IE.den,BE.den])) rfl ?_)
       simp [aG,ak,af,aF,ay,-Int.pred_toNat,Sub.ag,assoc,CV.I,CV.B,ah,ai,ae.I,ae.B,SC.I,SC.B,IE.den,BE.den]
      ·simp only [Da] at c5
       have hv:(af r (r.iv 14) (r.iv 15) 16).valid (ay r 0):=by
        first | (simp [-Int.pred_toNat,PS.valid,PS.has,PS.is,af,ay,ak,c0,c1,c2,c3,c4,c5];done) | (simp [-Int.pred_toNat,PS.valid,PS.has,PS.is,af,ay,ak,c0,c1,c2,c3,c4,c5];omega)
       have hw:(af r (r.iv 14) (r.iv 15) 16).right (ay r 0):=by
        first | (simp [-Int.pred_toNat,PS.right,PS.live,af,ay,ak,c0,c1,c2,c3,c4,c5];done) | (simp [-Int.pred_toNat,PS.right,PS.live,af,ay,ak,c0,c1,c2,c3,c4,c5];omega)
       have hs:je (aF (r.ic 22 (r.iv 3).toNat 0) (r.bc 22 (r.iv 3).toNat 0)) (ak r 4):=by
        simp only [je,aF,ak]
        exact c5
       refine Sat.fin (cu rfl rfl (ma hv hw (WU c2 c3 hs)) ho (PS.ext' rfl rfl rfl rfl rfl rfl (fun i=>by
         by_cases h:i=(r.iv 3).toNat
         · subst h
           simp [af,aF,ay,ak,-Int.pred_toNat,Sub.ag,assoc,CV.I,CV.B,ah,ai,ae.I,ae.B,SC.I,SC.B,IE.den,BE.den]
         · simp [af,aF,ay,ak,-Int.pred_toNat,Sub.ag,assoc,CV.I,CV.B,ah,ai,ae.I,ae.B,SC.I,SC.B,IE.den,BE.den,h,Ne.symm h]) (fun i=>by simp [af,-Int.pred_toNat,Sub.ag,assoc,CV.I,CV.B,ah,ai,ae.I,ae.B,SC.I,SC.B,IE.den,BE.den]) (fun i=>by simp [af,-Int.pred_toNat,Sub.ag,assoc,CV.I,CV.B,ah,ai,ae.I,ae.B,SC.I,SC.B,IE.den,BE.den]) (fun i k=>by simp [af,aF,-Int.pred_toNat,Sub.ag,assoc,CV.I,CV.B,ah,ai,ae.I,ae.B,SC.I,SC.B,IE.den,BE.den]) (fun i=>by simp [af,-Int.pred_toNat,Sub.ag,assoc,CV.I,CV.B,ah,ai,ae.I,ae.B,SC.I,SC.B,IE.den,BE.den])) rfl ?_)
       simp [aG,ak,af,aF,ay,Wd.zero,-Int.pred_toNat,Sub.ag,assoc,CV.I,CV.B,ah,ai,ae.I,ae.B,SC.I,SC.B,IE.den,BE.den]
    ·simp only [Da] at c3
     refine Sat.ob (by first | exact aK ho | exact bW ho (by simp only [Nat.reduceAdd];omega) | (simp only [Da];omega)) ?_
     refine Sat.br (fun c4=>?_) (fun c4=>?_)
     ·simp only [Da] at c4
      have hv:¬(af r (r.iv 14) (r.iv 15) 16).valid (ay r 0):=by
       first | (simp [-Int.pred_toNat,PS.valid,PS.has,PS.is,af,ay,ak,c0,c1,c2,c3,c4];done) | (simp [-Int.pred_toNat,PS.valid,PS.has,PS.is,af,ay,ak,c0,c1,c2,c3,c4];omega)
      exact Sat.fin (cu rfl rfl (qz hv) ho (PS.ext' rfl rfl rfl rfl rfl rfl (fun i=>by simp [af,aF,-Int.pred_toNat,Sub.ag,assoc,CV.I,CV.B,ah,ai,ae.I,ae.B,SC.I,SC.B,IE.den,BE.den]) (fun i=>by simp [af,-Int.pred_toNat,Sub.ag,assoc,CV.I,CV.B,ah,ai,ae.I,ae.B,SC.I,SC.B,IE.den,BE.den]) (fun i=>by simp [af,-Int.pred_toNat,Sub.ag,assoc,CV.I,CV.B,ah,ai,ae.I,ae.B,SC.I,SC.B,IE.den,BE.den]) (fun i k=>by simp [af,aF,-Int.pred_toNat,Sub.ag,assoc,CV.I,CV.B,ah,ai,ae.I,ae.B,SC.I,SC.B,IE.den,BE.den]) (fun i=>by simp [af,-Int.pred_toNat,Sub.ag,assoc,CV.I,CV.B,ah,ai,ae.I,ae.B,SC.I,SC.B,IE.den,BE.den])) rfl rfl)
     ·simp only [Da] at c4
      refine Sat.ob (by first | exact aK ho | exact bW ho (by simp only [Nat.reduceAdd];omega) | (simp only [Da];omega)) ?_
      refine Sat.ob (by first | exact aK ho | exact bW ho (by simp only [Nat.reduceAdd];omega) | (simp only [Da];omega)) ?_
      refine Sat.ob (by first | exact aK ho | exact bW ho (by simp only [Nat.reduceAdd];omega) | (simp only [Da];omega)) ?_
      refine Sat.ob (by first | exact aK ho | exact bW ho (by simp only [Nat.reduceAdd];omega) | (simp only [Da];omega)) ?_
      refine Sat.br (fun c5=>?_) (fun c5=>?_)
      ·simp only [Da] at c5
       refine Sat.br (fun c6=>?_) (fun c6=>?_)
       ·simp only [Da] at c6
        have hv:(af r (r.iv 14) (r.iv 15) 16).valid (ay r 0):=by
         first | (simp [-Int.pred_toNat,PS.valid,PS.has,PS.is,af,ay,ak,c0,c1,c2,c3,c4,c5,c6];done) | (simp [-Int.pred_toNat,PS.valid,PS.has,PS.is,af,ay,ak,c0,c1,c2,c3,c4,c5,c6];omega)
        have hw:¬(af r (r.iv 14) (r.iv 15) 16).right (ay r 0):=by
         first | (simp [-Int.pred_toNat,PS.right,PS.live,af,ay,ak,c0,c1,c2,c3,c4,c5,c6];done) | (simp [-Int.pred_toNat,PS.right,PS.live,af,ay,ak,c0,c1,c2,c3,c4,c5,c6];omega)
        exact Sat.fin (cu rfl rfl (fE hv hw) ho (PS.ext' rfl rfl rfl rfl rfl rfl (fun i=>by simp [af,aF,-Int.pred_toNat,Sub.ag,assoc,CV.I,CV.B,ah,ai,ae.I,ae.B,SC.I,SC.B,IE.den,BE.den]) (fun i=>by simp [af,-Int.pred_toNat,Sub.ag,assoc,CV.I,CV.B,ah,ai,ae.I,ae.B,SC.I,SC.B,IE.den,BE.den]) (fun i=>by simp [af,-Int.pred_toNat,Sub.ag,assoc,CV.I,CV.B,ah,ai,ae.I,ae.B,SC.I,SC.B,IE.den,BE.den]) (fun i k=>by simp [af,aF,-Int.pred_toNat,Sub.ag,assoc,CV.I,CV.B,ah,ai,ae.I,ae.B,SC.I,SC.B,IE.den,BE.den]) (fun i=>by simp [af,-Int.pred_toNat,Sub.ag,assoc,CV.I,CV.B,ah,ai,ae.I,ae.B,SC.I,SC.B,IE.den,BE.den])) rfl (by simp [aG,ak,fq,ay,Rp.no,Wd.zero,-Int.pred_toNat,Sub.ag,assoc,CV.I,CV.B,ah,ai,ae.I,ae.B,SC.I,SC.B,IE.den,BE.den,c0,c1,c2,c3,c4,c5,c6]))
       ·simp only [Da] at c6
        have hv:(af r (r.iv 14) (r.iv 15) 16).valid (ay r 0):=by
         first | (simp [-Int.pred_toNat,PS.valid,PS.has,PS.is,af,ay,ak,c0,c1,c2,c3,c4,c5,c6];done) | (simp [-Int.pred_toNat,PS.valid,PS.has,PS.is,af,ay,ak,c0,c1,c2,c3,c4,c5,c6];omega)
        have hw:¬(af r (r.iv 14) (r.iv 15) 16).right (ay r 0):=by
         first | (simp [-Int.pred_toNat,PS.right,PS.live,af,ay,ak,c0,c1,c2,c3,c4,c5,c6];done) | (simp [-Int.pred_toNat,PS.right,PS.live,af,ay,ak,c0,c1,c2,c3,c4,c5,c6];omega)
        exact Sat.fin (cu rfl rfl (fE hv hw) ho (PS.ext' rfl rfl rfl rfl rfl (show r.bv 21=false from c6) (fun i=>by simp [af,aF,-Int.pred_toNat,Sub.ag,assoc,CV.I,CV.B,ah,ai,ae.I,ae.B,SC.I,SC.B,IE.den,BE.den]) (fun i=>by simp [af,-Int.pred_toNat,Sub.ag,assoc,CV.I,CV.B,ah,ai,ae.I,ae.B,SC.I,SC.B,IE.den,BE.den]) (fun i=>by simp [af,-Int.pred_toNat,Sub.ag,assoc,CV.I,CV.B,ah,ai,ae.I,ae.B,SC.I,SC.B,IE.den,BE.den]) (fun i k=>by simp [af,aF,-Int.pred_toNat,Sub.ag,assoc,CV.I,CV.B,ah,ai,ae.I,ae.B,SC.I,SC.B,IE.den,BE.den]) (fun i=>by simp [af,-Int.pred_toNat,Sub.ag,assoc,CV.I,CV.B,ah,ai,ae.I,ae.B,SC.I,SC.B,IE.den,BE.den])) rfl (by simp [aG,ak,fq,ay,Rp.no,Wd.zero,-Int.pred_toNat,Sub.ag,assoc,CV.I,CV.B,ah,ai,ae.I,ae.B,SC.I,SC.B,IE.den,BE.den,c0,c1,c2,c3,c4,c5,c6]))
      ·simp only [Da] at c5
       refine Sat.br (fun c6=>?_) (fun c6=>?_)
       ·simp only [Da] at c6
        refine Sat.br (fun c7=>?_) (fun c7=>?_)
        ·simp only [Da] at c7
         have hv:(af r (r.iv 14) (r.iv 15) 16).valid (ay r 0):=by
          first | (simp [-Int.pred_toNat,PS.valid,PS.has,PS.is,af,ay,ak,c0,c1,c2,c3,c4,c5,c6,c7];done) | (simp [-Int.pred_toNat,PS.valid,PS.has,PS.is,af,ay,ak,c0,c1,c2,c3,c4,c5,c6,c7];omega)
         have hw:¬(af r (r.iv 14) (r.iv 15) 16).right (ay r 0):=by
          first | (simp [-Int.pred_toNat,PS.right,PS.live,af,ay,ak,c0,c1,c2,c3,c4,c5,c6,c7];done) | (simp [-Int.pred_toNat,PS.right,PS.live,af,ay,ak,c0,c1,c2,c3,c4,c5,c6,c7];omega)
         exact Sat.fin (cu rfl rfl (fE hv hw) ho (PS.ext' rfl rfl rfl rfl rfl rfl (fun i=>by simp [af,aF,-Int.pred_toNat,Sub.ag,assoc,CV.I,CV.B,ah,ai,ae.I,ae.B,SC.I,SC.B,IE.den,BE.den]) (fun i=>by simp [af,-Int.pred_toNat,Sub.ag,assoc,CV.I,CV.B,ah,ai,ae.I,ae.B,SC.I,SC.B,IE.den,BE.den]) (fun i=>by simp [af,-Int.pred_toNat,Sub.ag,assoc,CV.I,CV.B,ah,ai,ae.I,ae.B,SC.I,SC.B,IE.den,BE.den]) (fun i k=>by simp [af,aF,-Int.pred_toNat,Sub.ag,assoc,CV.I,CV.B,ah,ai,ae.I,ae.B,SC.I,SC.B,IE.den,BE.den]) (fun i=>by simp [af,-Int.pred_toNat,Sub.ag,assoc,CV.I,CV.B,ah,ai,ae.I,ae.B,SC.I,SC.B,IE.den,BE.den])) rfl (by simp [aG,ak,fq,ay,Rp.no,Wd.zero,-Int.pred_toNat,Sub.ag,assoc,CV.I,CV.B,ah,ai,ae.I,ae.B,SC.I,SC.B,IE.den,BE.den,c0,c1,c2,c3,c4,c5,c6,c7]))
        ·simp only [Da] at c7
         have hv:(af r (r.iv 14) (r.iv 15) 16).valid (ay r 0):=by
          first | (simp [-Int.pred_toNat,PS.valid,PS.has,PS.is,af,ay,ak,c0,c1,c2,c3,c4,c5,c6,c7];done) | (simp [-Int.pred_toNat,PS.valid,PS.has,PS.is,af,ay,ak,c0,c1,c2,c3,c4,c5,c6,c7];omega)
         have hw:¬(af r (r.iv 14) (r.iv 15) 16).right (ay r 0):=by
          first | (simp [-Int.pred_toNat,PS.right,PS.live,af,ay,ak,c0,c1,c2,c3,c4,c5,c6,c7];done) | (simp [-Int.pred_toNat,PS.right,PS.live,af,ay,ak,c0,c1,c2,c3,c4,c5,c6,c7];omega)
         exact Sat.fin (cu rfl rfl (fE hv hw) ho (PS.ext' rfl rfl rfl rfl rfl (show r.bv 21=false from c7) (fun i=>by simp [af,aF,-Int.pred_toNat,Sub.ag,assoc,CV.I,CV.B,ah,ai,ae.I,ae.B,SC.I,SC.B,IE.den,BE.den]) (fun i=>by simp [af,-Int.pred_toNat,Sub.ag,assoc,CV.I,CV.B,ah,ai,ae.I,ae.B,SC.I,SC.B,IE.den,BE.den]) (fun i=>by simp [af,-Int.pred_toNat,Sub.ag,assoc,CV.I,CV.B,ah,ai,ae.I,ae.B,SC.I,SC.B,IE.den,BE.den]) (fun i k=>by simp [af,aF,-Int.pred_toNat,Sub.ag,assoc,CV.I,CV.B,ah,ai,ae.I,ae.B,SC.I,SC.B,IE.den,BE.den]) (fun i=>by simp [af,-Int.pred_toNat,Sub.ag,assoc,CV.I,CV.B,ah,ai,ae.I,ae.B,SC.I,SC.B,IE.den,BE.den])) rfl (by simp [aG,ak,fq,ay,Rp.no,Wd.zero,-Int.pred_toNat,Sub.ag,assoc,CV.I,CV.B,ah,ai,ae.I,ae.B,SC.I,SC.B,IE.den,BE.den,c0,c1,c2,c3,c4,c5,c6,c7]))
       ·simp only [Da] at c6
        refine Sat.br (fun c7=>?_) (fun c7=>?_)
        ·simp only [Da] at c7
         have hv:(af r (r.iv 14) (r.iv 15) 16).valid (ay r 0):=by
          first | (simp [-Int.pred_toNat,PS.valid,PS.has,PS.is,af,ay,ak,c0,c1,c2,c3,c4,c5,c6,c7];done) | (simp [-Int.pred_toNat,PS.valid,PS.has,PS.is,af,ay,ak,c0,c1,c2,c3,c4,c5,c6,c7];omega)
         have hw:(af r (r.iv 14) (r.iv 15) 16).right (ay r 0):=by
          first | (simp [-Int.pred_toNat,PS.right,PS.live,af,ay,ak,c0,c1,c2,c3,c4,c5,c6,c7];done) | (simp [-Int.pred_toNat,PS.right,PS.live,af,ay,ak,c0,c1,c2,c3,c4,c5,c6,c7];omega)
         have hs:¬je (aF (r.ic 24 (r.iv 1-1).toNat (r.iv 3).toNat) (r.bc 24 (r.iv 1-1).toNat (r.iv 3).toNat)) (ak r 4):=by
          simp only [je,aF,ak]
          rintro ⟨x1,x2,x3,x4⟩
          rcases c7 with h | h | h | h
          ·exact h x1
          ·exact h x2
          ·exact h x3
          ·exact h x4
         refine Sat.fin (cu rfl rfl (ma hv hw (Tx c2 c3 hs)) ho (PS.ext' rfl rfl rfl rfl rfl rfl (fun i=>by simp [af,aF,-Int.pred_toNat,Sub.ag,assoc,CV.I,CV.B,ah,ai,ae.I,ae.B,SC.I,SC.B,IE.den,BE.den]) (fun i=>by simp [af,-Int.pred_toNat,Sub.ag,assoc,CV.I,CV.B,ah,ai,ae.I,ae.B,SC.I,SC.B,IE.den,BE.den]) (fun i=>by simp [af,-Int.pred_toNat,Sub.ag,assoc,CV.I,CV.B,ah,ai,ae.I,ae.B,SC.I,SC.B,IE.den,BE.den]) (fun i k=>by simp [af,aF,-Int.pred_toNat,Sub.ag,assoc,CV.I,CV.B,ah,ai,ae.I,ae.B,SC.I,SC.B,IE.den,BE.den]) (fun i=>by simp [af,-Int.pred_toNat,Sub.ag,assoc,CV.I,CV.B,ah,ai,ae.I,ae.B,SC.I,SC.B,IE.den,BE.den])) rfl ?_)
         simp [aG,ak,af,aF,ay,-Int.pred_toNat,Sub.ag,assoc,CV.I,CV.B,ah,ai,ae.I,ae.B,SC.I,SC.B,IE.den,BE.den]
        ·simp only [Da] at c7
         have hv:(af r (r.iv 14) (r.iv 15) 16).valid (ay r 0):=by
          first | (simp [-Int.pred_toNat,PS.valid,PS.has,PS.is,af,ay,ak,c0,c1,c2,c3,c4,c5,c6,c7];done) | (simp [-Int.pred_toNat,PS.valid,PS.has,PS.is,af,ay,ak,c0,c1,c2,c3,c4,c5,c6,c7];omega)
         have hw:(af r (r.iv 14) (r.iv 15) 16).right (ay r 0):=by
          first | (simp [-Int.pred_toNat,PS.right,PS.live,af,ay,ak,c0,c1,c2,c3,c4,c5,c6,c7];done) | (simp [-Int.pred_toNat,PS.right,PS.live,af,ay,ak,c0,c1,c2,c3,c4,c5,c6,c7];omega)
         have hs:je (aF (r.ic 24 (r.iv 1-1).toNat (r.iv 3).toNat) (r.bc 24 (r.iv 1-1).toNat (r.iv 3).toNat)) (ak r 4):=by
          simp only [je,aF,ak]
          exact c7
         refine Sat.fin (cu rfl rfl (ma hv hw (WV c2 c3 hs)) ho (PS.ext' rfl rfl rfl rfl rfl rfl (fun i=>by simp [af,aF,-Int.pred_toNat,Sub.ag,assoc,CV.I,CV.B,ah,ai,ae.I,ae.B,SC.I,SC.B,IE.den,BE.den]) (fun i=>by simp [af,-Int.pred_toNat,Sub.ag,assoc,CV.I,CV.B,ah,ai,ae.I,ae.B,SC.I,SC.B,IE.den,BE.den]) (fun i=>by simp [af,-Int.pred_toNat,Sub.ag,assoc,CV.I,CV.B,ah,ai,ae.I,ae.B,SC.I,SC.B,IE.den,BE.den]) (fun i k=>by
           by_cases h:i=(r.iv 1-1).toNat∧k=(r.iv 3).toNat
           · obtain ⟨h,h'⟩:=h
             subst h h'
             simp [af,aF,ay,ak,-Int.pred_toNat,Sub.ag,assoc,CV.I,CV.B,ah,ai,ae.I,ae.B,SC.I,SC.B,IE.den,BE.den]
           · have h':(r.iv 1-1).toNat=i→(r.iv 3).toNat=k→False:=fun e1 e2=>h ⟨e1.symm,e2.symm⟩
             by_cases h1:i=(r.iv 1-1).toNat
             · have h2:¬k=(r.iv 3).toNat:=fun e=>h ⟨h1,e⟩
               subst h1
               simp [af,aF,ay,ak,-Int.pred_toNat,Sub.ag,assoc,CV.I,CV.B,ah,ai,ae.I,ae.B,SC.I,SC.B,IE.den,BE.den,h2,Ne.symm h2]
             · simp [af,aF,ay,ak,-Int.pred_toNat,Sub.ag,assoc,CV.I,CV.B,ah,ai,ae.I,ae.B,SC.I,SC.B,IE.den,BE.den,h1,Ne.symm h1]) (fun i=>by simp [af,-Int.pred_toNat,Sub.ag,assoc,CV.I,CV.B,ah,ai,ae.I,ae.B,SC.I,SC.B,IE.den,BE.den])) rfl ?_)
         simp [aG,ak,af,aF,ay,Wd.zero,-Int.pred_toNat,Sub.ag,assoc,CV.I,CV.B,ah,ai,ae.I,ae.B,SC.I,SC.B,IE.den,BE.den]
   ·simp only [Da] at c2
    refine Sat.br (fun c3=>?_) (fun c3=>?_)
    ·simp only [Da] at c3
     refine Sat.ob (by first | exact aK ho | exact bW ho (by simp only [Nat.reduceAdd];omega) | (simp only [Da];omega)) ?_
     refine Sat.ob (by first | exact aK ho | exact bW ho (by simp only [Nat.reduceAdd];omega) | (simp only [Da];omega)) ?_
     refine Sat.ob (by first | exact aK ho | exact bW ho (by simp only [Nat.reduceAdd];omega) | (simp only [Da];omega)) ?_
     refine Sat.br (fun c4=>?_) (fun c4=>?_)
     ·simp only [Da] at c4
      have hv:(af r (r.iv 14) (r.iv 15) 16).valid (ay r 0):=by
       first | (simp [-Int.pred_toNat,PS.valid,PS.has,PS.is,af,ay,ak,c0,c1,c2,c3,c4];done) | (simp [-Int.pred_toNat,PS.valid,PS.has,PS.is,af,ay,ak,c0,c1,c2,c3,c4];omega)
      have hw:(af r (r.iv 14) (r.iv 15) 16).right (ay r 0):=by
       first | (simp [-Int.pred_toNat,PS.right,PS.live,af,ay,ak,c0,c1,c2,c3,c4];done) | (simp [-Int.pred_toNat,PS.right,PS.live,af,ay,ak,c0,c1,c2,c3,c4];omega)
      refine Sat.fin (cu rfl rfl (ma hv hw (WW c3 c4)) ho (PS.ext' rfl rfl rfl rfl rfl rfl (fun i=>by simp [af,aF,-Int.pred_toNat,Sub.ag,assoc,CV.I,CV.B,ah,ai,ae.I,ae.B,SC.I,SC.B,IE.den,BE.den]) (fun i=>by simp [af,-Int.pred_toNat,Sub.ag,assoc,CV.I,CV.B,ah,ai,ae.I,ae.B,SC.I,SC.B,IE.den,BE.den]) (fun i=>by simp [af,-Int.pred_toNat,Sub.ag,assoc,CV.I,CV.B,ah,ai,ae.I,ae.B,SC.I,SC.B,IE.den,BE.den]) (fun i k=>by simp [af,aF,-Int.pred_toNat,Sub.ag,assoc,CV.I,CV.B,ah,ai,ae.I,ae.B,SC.I,SC.B,IE.den,BE.den]) (fun i=>by simp [af,-Int.pred_toNat,Sub.ag,assoc,CV.I,CV.B,ah,ai,ae.I,ae.B,SC.I,SC.B,IE.den,BE.den])) rfl rfl)
     ·simp only [Da] at c4
      obtain ⟨f1,f2,f3⟩:=hk.fr (r.iv 17-1).toNat (by show (((r.iv 17-1).toNat:Nat):Int)<r.iv 17;omega)
      replace f1:1≤r.ic 25 (r.iv 17-1).toNat 0 0:=f1
      replace f2:r.ic 25 (r.iv 17-1).toNat 0 0≤r.iv 15:=f2
      have f4:=hk.gen (r.ic 25 (r.iv 17-1).toNat 0 0-1).toNat
      replace f4:0≤r.ic 23 (r.ic 25 (r.iv 17-1).toNat 0 0-1).toNat 0 0∧r.ic 23 (r.ic 25 (r.iv 17-1).toNat 0 0-1).toNat 0 0≤r.iv 20:=f4
      refine Sat.ob (by first | exact aK ho | exact bW ho (by simp only [Nat.reduceAdd];omega) | (simp only [Da];omega)) ?_
      refine Sat.ob (by first | exact aK ho | exact bW ho (by simp only [Nat.reduceAdd];omega) | (simp only [Da];omega)) ?_
      refine Sat.ob (by first | exact aK ho | exact bW ho (by simp only [Nat.reduceAdd];omega) | (simp only [Da];omega)) ?_
      refine Sat.ob (by first | exact aK ho | exact bW ho (by simp only [Nat.reduceAdd];omega) | (simp only [Da];omega)) ?_
      refine Sat.ob (by first | exact aK ho | exact bW ho (by simp only [Nat.reduceAdd];omega) | (simp only [Da];omega)) ?_
      refine Sat.ob (by first | exact aK ho | exact bW ho (by simp only [Nat.reduceAdd];omega) | (simp only [Da];omega)) ?_
      refine Sat.ob (by first | exact aK ho | exact bW ho (by simp only [Nat.reduceAdd];omega) | (simp only [Da];omega)) ?_
      refine Sat.ob (by first | exact aK ho | exact bW ho (by simp only [Nat.reduceAdd];omega) | (simp only [Da];omega)) ?_
      refine Sat.ob (by first | exact aK ho | exact bW ho (by simp only [Nat.reduceAdd];omega) | (simp only [Da];omega)) ?_
      refine Sat.ob (by first | exact aK ho | exact bW ho (by simp only [Nat.reduceAdd];omega) | (simp only [Da];omega)) ?_
      refine Sat.ob (by first | exact aK ho | exact bW ho (by simp only [Nat.reduceAdd];omega) | (simp only [Da];omega)) ?_
      have hv:(af r (r.iv 14) (r.iv 15) 16).valid (ay r 0):=by
       first | (simp [-Int.pred_toNat,PS.valid,PS.has,PS.is,af,ay,ak,c0,c1,c2,c3,c4];done) | (simp [-Int.pred_toNat,PS.valid,PS.has,PS.is,af,ay,ak,c0,c1,c2,c3,c4];omega)
      have hw:(af r (r.iv 14) (r.iv 15) 16).right (ay r 0):=by
       first | (simp [-Int.pred_toNat,PS.right,PS.live,af,ay,ak,c0,c1,c2,c3,c4];done) | (simp [-Int.pred_toNat,PS.right,PS.live,af,ay,ak,c0,c1,c2,c3,c4];omega)
      exact Ty hv hw c3 c4 ho
    ·simp only [Da] at c3
     refine Sat.br (fun c4=>?_) (fun c4=>?_)
     ·simp only [Da] at c4
      refine Sat.ob (by first | exact aK ho | exact bW ho (by simp only [Nat.reduceAdd];omega) | (simp only [Da];omega)) ?_
      refine Sat.br (fun c5=>?_) (fun c5=>?_)
      ·simp only [Da] at c5
       have hv:¬(af r (r.iv 14) (r.iv 15) 16).valid (ay r 0):=by
        first | (simp [-Int.pred_toNat,PS.valid,PS.has,PS.is,af,ay,ak,c0,c1,c2,c3,c4,c5];done) | (simp [-Int.pred_toNat,PS.valid,PS.has,PS.is,af,ay,ak,c0,c1,c2,c3,c4,c5];omega)
       exact Sat.fin (cu rfl rfl (qz hv) ho (PS.ext' rfl rfl rfl rfl rfl rfl (fun i=>by simp [af,aF,-Int.pred_toNat,Sub.ag,assoc,CV.I,CV.B,ah,ai,ae.I,ae.B,SC.I,SC.B,IE.den,BE.den]) (fun i=>by simp [af,-Int.pred_toNat,Sub.ag,assoc,CV.I,CV.B,ah,ai,ae.I,ae.B,SC.I,SC.B,IE.den,BE.den]) (fun i=>by simp [af,-Int.pred_toNat,Sub.ag,assoc,CV.I,CV.B,ah,ai,ae.I,ae.B,SC.I,SC.B,IE.den,BE.den]) (fun i k=>by simp [af,aF,-Int.pred_toNat,Sub.ag,assoc,CV.I,CV.B,ah,ai,ae.I,ae.B,SC.I,SC.B,IE.den,BE.den]) (fun i=>by simp [af,-Int.pred_toNat,Sub.ag,assoc,CV.I,CV.B,ah,ai,ae.I,ae.B,SC.I,SC.B,IE.den,BE.den])) rfl rfl)
      ·simp only [Da] at c5
       refine Sat.ob (by first | exact aK ho | exact bW ho (by simp only [Nat.reduceAdd];omega) | (simp only [Da];omega)) ?_
       refine Sat.br (fun c6=>?_) (fun c6=>?_)
       ·simp only [Da] at c6
        omega
       ·simp only [Da] at c6
        refine Sat.ob (by first | exact aK ho | exact bW ho (by simp only [Nat.reduceAdd];omega) | (simp only [Da];omega)) ?_
        refine Sat.ob (by first | exact aK ho | exact bW ho (by simp only [Nat.reduceAdd];omega) | (simp only [Da];omega)) ?_
        refine Sat.ob (by first | exact aK ho | exact bW ho (by simp only [Nat.reduceAdd];omega) | (simp only [Da];omega)) ?_
        refine Sat.br (fun c7=>?_) (fun c7=>?_)
        ·simp only [Da] at c7
         refine Sat.br (fun c8=>?_) (fun c8=>?_)
         ·simp only [Da] at c8
          have hv:(af r (r.iv 14) (r.iv 15) 16).valid (ay r 0):=by
           first | (simp [-Int.pred_toNat,PS.valid,PS.has,PS.is,af,ay,ak,c0,c1,c2,c3,c4,c5,c6,c7,c8];done) | (simp [-Int.pred_toNat,PS.valid,PS.has,PS.is,af,ay,ak,c0,c1,c2,c3,c4,c5,c6,c7,c8];omega)
          have hw:¬(af r (r.iv 14) (r.iv 15) 16).right (ay r 0):=by
           first | (simp [-Int.pred_toNat,PS.right,PS.live,af,ay,ak,c0,c1,c2,c3,c4,c5,c6,c7,c8];done) | (simp [-Int.pred_toNat,PS.right,PS.live,af,ay,ak,c0,c1,c2,c3,c4,c5,c6,c7,c8];omega)
          exact Sat.fin (cu rfl rfl (fE hv hw) ho (PS.ext' rfl rfl rfl rfl rfl rfl (fun i=>by simp [af,aF,-Int.pred_toNat,Sub.ag,assoc,CV.I,CV.B,ah,ai,ae.I,ae.B,SC.I,SC.B,IE.den,BE.den]) (fun i=>by simp [af,-Int.pred_toNat,Sub.ag,assoc,CV.I,CV.B,ah,ai,ae.I,ae.B,SC.I,SC.B,IE.den,BE.den]) (fun i=>by simp [af,-Int.pred_toNat,Sub.ag,assoc,CV.I,CV.B,ah,ai,ae.I,ae.B,SC.I,SC.B,IE.den,BE.den]) (fun i k=>by simp [af,aF,-Int.pred_toNat,Sub.ag,assoc,CV.I,CV.B,ah,ai,ae.I,ae.B,SC.I,SC.B,IE.den,BE.den]) (fun i=>by simp [af,-Int.pred_toNat,Sub.ag,assoc,CV.I,CV.B,ah,ai,ae.I,ae.B,SC.I,SC.B,IE.den,BE.den])) rfl (by simp [aG,ak,fq,ay,Rp.no,Wd.zero,-Int.pred_toNat,Sub.ag,assoc,CV.I,CV.B,ah,ai,ae.I,ae.B,SC.I,SC.B,IE.den,BE.den,c0,c1,c2,c3,c4,c5,c6,c7,c8]))
         ·simp only [Da] at c8
          have hv:(af r (r.iv 14) (r.iv 15) 16).valid (ay r 0):=by
           first | (simp [-Int.pred_toNat,PS.valid,PS.has,PS.is,af,ay,ak,c0,c1,c2,c3,c4,c5,c6,c7,c8];done) | (simp [-Int.pred_toNat,PS.valid,PS.has,PS.is,af,ay,ak,c0,c1,c2,c3,c4,c5,c6,c7,c8];omega)
          have hw:¬(af r (r.iv 14) (r.iv 15) 16).right (ay r 0):=by
           first | (simp [-Int.pred_toNat,PS.right,PS.live,af,ay,ak,c0,c1,c2,c3,c4,c5,c6,c7,c8];done) | (simp [-Int.pred_toNat,PS.right,PS.live,af,ay,ak,c0,c1,c2,c3,c4,c5,c6,c7,c8];omega)
          exact Sat.fin (cu rfl rfl (fE hv hw) ho (PS.ext' rfl rfl rfl rfl rfl (show r.bv 21=false from c8) (fun i=>by simp [af,aF,-Int.pred_toNat,Sub.ag,assoc,CV.I,CV.B,ah,ai,ae.I,ae.B,SC.I,SC.B,IE.den,BE.den]) (fun i=>by simp [af,-Int.pred_toNat,Sub.ag,assoc,CV.I,CV.B,ah,ai,ae.I,ae.B,SC.I,SC.B,IE.den,BE.den]) (fun i=>by simp [af,-Int.pred_toNat,Sub.ag,assoc,CV.I,CV.B,ah,ai,ae.I,ae.B,SC.I,SC.B,IE.den,BE.den]) (fun i k=>by simp [af,aF,-Int.pred_toNat,Sub.ag,assoc,CV.I,CV.B,ah,ai,ae.I,ae.B,SC.I,SC.B,IE.den,BE.den]) (fun i=>by simp [af,-Int.pred_toNat,Sub.ag,assoc,CV.I,CV.B,ah,ai,ae.I,ae.B,SC.I,SC.B,IE.den,BE.den])) rfl (by simp [aG,ak,fq,ay,Rp.no,Wd.zero,-Int.pred_toNat,Sub.ag,assoc,CV.I,CV.B,ah,ai,ae.I,ae.B,SC.I,SC.B,IE.den,BE.den,c0,c1,c2,c3,c4,c5,c6,c7,c8]))
        ·simp only [Da] at c7
         refine Sat.br (fun c8=>?_) (fun c8=>?_)
         ·simp only [Da] at c8
          refine Sat.br (fun c9=>?_) (fun c9=>?_)
          ·simp only [Da] at c9
           have hv:(af r (r.iv 14) (r.iv 15) 16).valid (ay r 0):=by
            first | (simp [-Int.pred_toNat,PS.valid,PS.has,PS.is,af,ay,ak,c0,c1,c2,c3,c4,c5,c6,c7,c8,c9];done) | (simp [-Int.pred_toNat,PS.valid,PS.has,PS.is,af,ay,ak,c0,c1,c2,c3,c4,c5,c6,c7,c8,c9];omega)
           have hw:¬(af r (r.iv 14) (r.iv 15) 16).right (ay r 0):=by
            first | (simp [-Int.pred_toNat,PS.right,PS.live,af,ay,ak,c0,c1,c2,c3,c4,c5,c6,c7,c8,c9];done) | (simp [-Int.pred_toNat,PS.right,PS.live,af,ay,ak,c0,c1,c2,c3,c4,c5,c6,c7,c8,c9];omega)
           exact Sat.fin (cu rfl rfl (fE hv hw) ho (PS.ext' rfl rfl rfl rfl rfl rfl (fun i=>by simp [af,aF,-Int.pred_toNat,Sub.ag,assoc,CV.I,CV.B,ah,ai,ae.I,ae.B,SC.I,SC.B,IE.den,BE.den]) (fun i=>by simp [af,-Int.pred_toNat,Sub.ag,assoc,CV.I,CV.B,ah,ai,ae.I,ae.B,SC.I,SC.B,IE.den,BE.den]) (fun i=>by simp [af,-Int.pred_toNat,Sub.ag,assoc,CV.I,CV.B,ah,ai,ae.I,ae.B,SC.I,SC.B,IE.den,BE.den]) (fun i k=>by simp [af,aF,-Int.pred_toNat,Sub.ag,assoc,CV.I,CV.B,ah,ai,ae.I,ae.B,SC.I,SC.B,IE.den,BE.den]) (fun i=>by simp [af,-Int.pred_toNat,Sub.ag,assoc,CV.I,CV.B,ah,ai,ae.I,ae.B,SC.I,SC.B,IE.den,BE.den])) rfl (by simp [aG,ak,fq,ay,Rp.no,Wd.zero,-Int.pred_toNat,Sub.ag,assoc,CV.I,CV.B,ah,ai,ae.I,ae.B,SC.I,SC.B,IE.den,BE.den,c0,c1,c2,c3,c4,c5,c6,c7,c8,c9]))
          ·simp only [Da] at c9
           have hv:(af r (r.iv 14) (r.iv 15) 16).valid (ay r 0):=by
            first | (simp [-Int.pred_toNat,PS.valid,PS.has,PS.is,af,ay,ak,c0,c1,c2,c3,c4,c5,c6,c7,c8,c9];done) | (simp [-Int.pred_toNat,PS.valid,PS.has,PS.is,af,ay,ak,c0,c1,c2,c3,c4,c5,c6,c7,c8,c9];omega)
           have hw:¬(af r (r.iv 14) (r.iv 15) 16).right (ay r 0):=by
            first | (simp [-Int.pred_toNat,PS.right,PS.live,af,ay,ak,c0,c1,c2,c3,c4,c5,c6,c7,c8,c9];done) | (simp [-Int.pred_toNat,PS.right,PS.live,af,ay,ak,c0,c1,c2,c3,c4,c5,c6,c7,c8,c9];omega)
           exact Sat.fin (cu rfl rfl (fE hv hw) ho (PS.ext' rfl rfl rfl rfl rfl (show r.bv 21=false from c9) (fun i=>by simp [af,aF,-Int.pred_toNat,Sub.ag,assoc,CV.I,CV.B,ah,ai,ae.I,ae.B,SC.I,SC.B,IE.den,BE.den]) (fun i=>by simp [af,-Int.pred_toNat,Sub.ag,assoc,CV.I,CV.B,ah,ai,ae.I,ae.B,SC.I,SC.B,IE.den,BE.den]) (fun i=>by simp [af,-Int.pred_toNat,Sub.ag,assoc,CV.I,CV.B,ah,ai,ae.I,ae.B,SC.I,SC.B,IE.den,BE.den]) (fun i k=>by simp [af,aF,-Int.pred_toNat,Sub.ag,assoc,CV.I,CV.B,ah,ai,ae.I,ae.B,SC.I,SC.B,IE.den,BE.den]) (fun i=>by simp [af,-Int.pred_toNat,Sub.ag,assoc,CV.I,CV.B,ah,ai,ae.I,ae.B,SC.I,SC.B,IE.den,BE.den])) rfl (by simp [aG,ak,fq,ay,Rp.no,Wd.zero,-Int.pred_toNat,Sub.ag,assoc,CV.I,CV.B,ah,ai,ae.I,ae.B,SC.I,SC.B,IE.den,BE.den,c0,c1,c2,c3,c4,c5,c6,c7,c8,c9]))
         ·simp only [Da] at c8
          refine Sat.ob (by first | exact aK ho | exact bW ho (by simp only [Nat.reduceAdd];omega) | (simp only [Da];omega)) ?_
          refine Sat.ob (by first | exact aK ho | exact bW ho (by simp only [Nat.reduceAdd];omega) | (simp only [Da];omega)) ?_
          refine Sat.ob (by first | exact aK ho | exact bW ho (by simp only [Nat.reduceAdd];omega) | (simp only [Da];omega)) ?_
          refine Sat.ob (by first | exact aK ho | exact bW ho (by simp only [Nat.reduceAdd];omega) | (simp only [Da];omega)) ?_
          refine Sat.ob (by first | exact aK ho | exact bW ho (by simp only [Nat.reduceAdd];omega) | (simp only [Da];omega)) ?_
          have hv:(af r (r.iv 14) (r.iv 15) 16).valid (ay r 0):=by
           first | (simp [-Int.pred_toNat,PS.valid,PS.has,PS.is,af,ay,ak,c0,c1,c2,c3,c4,c5,c6,c7,c8];done) | (simp [-Int.pred_toNat,PS.valid,PS.has,PS.is,af,ay,ak,c0,c1,c2,c3,c4,c5,c6,c7,c8];omega)
          have hw:(af r (r.iv 14) (r.iv 15) 16).right (ay r 0):=by
           first | (simp [-Int.pred_toNat,PS.right,PS.live,af,ay,ak,c0,c1,c2,c3,c4,c5,c6,c7,c8];done) | (simp [-Int.pred_toNat,PS.right,PS.live,af,ay,ak,c0,c1,c2,c3,c4,c5,c6,c7,c8];omega)
          refine Sat.new fun e hf=>?_
          have hf1:=hf _ (List.mem_singleton.2 rfl)
          simp only [D.be,Da] at hf1
          exact WY (q:=r.join 26 e) hv hw c4 ho hf1
     ·simp only [Da] at c4
      have hv:¬(af r (r.iv 14) (r.iv 15) 16).valid (ay r 0):=by
       first | (simp [-Int.pred_toNat,PS.valid,PS.has,PS.is,af,ay,ak,c0,c1,c2,c3,c4];done) | (simp [-Int.pred_toNat,PS.valid,PS.has,PS.is,af,ay,ak,c0,c1,c2,c3,c4];omega)
      exact Sat.fin (cu rfl rfl (qz hv) ho (PS.ext' rfl rfl rfl rfl rfl rfl (fun i=>by simp [af,aF,-Int.pred_toNat,Sub.ag,assoc,CV.I,CV.B,ah,ai,ae.I,ae.B,SC.I,SC.B,IE.den,BE.den]) (fun i=>by simp [af,-Int.pred_toNat,Sub.ag,assoc,CV.I,CV.B,ah,ai,ae.I,ae.B,SC.I,SC.B,IE.den,BE.den]) (fun i=>by simp [af,-Int.pred_toNat,Sub.ag,assoc,CV.I,CV.B,ah,ai,ae.I,ae.B,SC.I,SC.B,IE.den,BE.den]) (fun i k=>by simp [af,aF,-Int.pred_toNat,Sub.ag,assoc,CV.I,CV.B,ah,ai,ae.I,ae.B,SC.I,SC.B,IE.den,BE.den]) (fun i=>by simp [af,-Int.pred_toNat,Sub.ag,assoc,CV.I,CV.B,ah,ai,ae.I,ae.B,SC.I,SC.B,IE.den,BE.den])) rfl rfl)
theorem YR:aV Tryz.prog nI Oh zF :=
 cK dF (E:=doE) (cs:=[]) rfl (fun k pre post h=>by cases h) bO rfl YP (by kernel_rfl) (fun ρ _ p hp=>by cases hp) YQ
end Go.Proofs.YthomdlajobnmnaaGreatDoor
