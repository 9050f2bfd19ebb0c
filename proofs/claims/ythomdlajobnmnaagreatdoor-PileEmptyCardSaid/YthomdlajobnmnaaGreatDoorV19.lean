/- part 19 of the proof -/
import Derived.Test.YthomdlajobnmnaaGreatDoorV13
import Derived.Test.YthomdlajobnmnaaGreatDoorV18
set_option linter.unusedSimpArgs false
set_option linter.unusedVariables false
namespace Go.Proofs.YthomdlajobnmnaaGreatDoor
open Go.Rex
noncomputable def QE:Ex:={sched:=sched,loops:=[],cons:=[],fin:=kD}
def Cb:Out :=
 .br (.aB (.var 19) (.lit 1))
 (.br (.aB (.var 0) (.lit 0))
  (.fin {lo:=40,az:=1,iv:=yo [(73,yv 33)]<|yr 71 31 4<|yr 66 26 12<|yr 53 13 4<|yr 48 8 8<|[(40,.lit 1),(91,.lit 0),(90,.lit 0),(89,.lit 0),(88,.lit 0),(86,.lit 0),(85,.lit 0),(84,.lit 0),(83,.lit 0),(81,.lit 0),(80,.lit 0),(79,.lit 0),(78,.lit 0),(77,.lit 0),(76,.lit 0),(75,.lit 0),(74,.lit 8)],bv:=[(72,yw 32),(67,yw 27),(54,yw 14),(49,yw 9),(87,.lit false),(82,.lit false)]})
  (.br (.aB (.var 0) (.lit 1))
   (.br (.not (.var 39))
    (.fin {lo:=40,az:=1,iv:=yo [(73,yv 33)]<|yr 71 31 4<|yr 66 26 8<|[(58,.lit 0),(57,.lit 4),(56,.lit 0),(55,.lit 0),(53,.lit 0),(52,.lit 0),(51,.lit 0),(50,.lit 0),(48,.lit 0),(47,.lit 0),(46,.lit 0),(45,.lit 0),(44,.lit 0),(43,.lit 0),(42,.lit 0),(41,.lit 12),(40,.lit (-1)),(91,.lit 0),(90,.lit 4),(89,.lit 0),(88,.lit 0),(86,.lit 0),(85,.lit 0),(84,.lit 0),(83,.lit 0),(81,.lit 0),(80,.lit 0),(79,.lit 0),(78,.lit 0),(77,.lit 0),(76,.lit 0),(75,.lit 0),(74,.lit 12)],bv:=[(72,yw 32),(67,yw 27),(54,.lit false),(49,.lit false),(87,.lit false),(82,.lit false)]})
    (.fin {lo:=40,az:=1,iv:=yo [(73,yv 33)]<|yr 71 31 4<|yr 66 37 4<|yr 62 22 8<|yr 53 13 4<|yr 48 8 8<|[(40,.lit 2),(91,.lit 0),(90,.lit 0),(89,.lit 0),(88,.lit 0),(86,yv 21),(85,.lit 0),(84,.lit 0),(83,.lit 0),(81,.lit 0),(80,.lit 0),(79,.lit 0),(78,.lit 0),(77,.lit 1),(76,yv 35),(75,yv 34),(74,.lit 4)],bv:=[(72,yw 32),(67,yw 38),(54,yw 14),(49,yw 9),(87,.lit false),(82,.lit false)]}))
   (.br (.aB (.var 0) (.lit 5))
    (.br (.var 39)
     (.fin {lo:=40,az:=1,iv:=yo [(73,yv 33)]<|yr 71 31 4<|yr 66 26 8<|[(58,.lit 0),(57,.lit 1),(56,.lit 0),(55,.lit 0),(53,.lit 0),(52,.lit 0),(51,.lit 0),(50,.lit 0),(48,.lit 0),(47,.lit 0),(46,.lit 0),(45,.lit 0),(44,.lit 0),(43,.lit 0),(42,.lit 0),(41,.lit 12),(40,.lit (-1)),(91,.lit 0),(90,.lit 1),(89,.lit 0),(88,.lit 0),(86,.lit 0),(85,.lit 0),(84,.lit 0),(83,.lit 0),(81,.lit 0),(80,.lit 0),(79,.lit 0),(78,.lit 0),(77,.lit 0),(76,.lit 0),(75,.lit 0),(74,.lit 12)],bv:=[(72,yw 32),(67,yw 27),(54,.lit false),(49,.lit false),(87,.lit false),(82,.lit false)]})
     (.fin {lo:=40,az:=1,iv:=yo [(73,yv 33)]<|yr 71 31 4<|yr 66 26 12<|yr 53 13 4<|yr 48 8 8<|[(40,.lit 3),(91,.lit 0),(90,.lit 0),(89,.lit 0),(88,.lit 0),(86,.lit 0),(85,.lit 0),(84,.lit 0),(83,.lit 0),(81,.lit 0),(80,.lit 0),(79,.lit 0),(78,.lit 0),(77,.lit 0),(76,.lit 0),(75,.lit 0),(74,.lit 3)],bv:=[(72,yw 32),(67,yw 27),(54,yw 14),(49,yw 9),(87,.lit false),(82,.lit false)]}))
    (.br (.aB (.var 0) (.lit 2))
     (.fin {lo:=40,az:=1,iv:=yo [(73,yv 33)]<|yr 71 31 4<|yr 66 26 12<|yr 53 13 4<|yr 48 8 8<|[(40,.lit 3),(91,.lit 0),(90,.lit 0),(89,.lit 0),(88,.lit 0),(86,.lit 0),(85,.lit 0),(84,.lit 0),(83,.lit 0),(81,.lit 0),(80,.lit 0),(79,.lit 0),(78,.lit 0),(77,.lit 0),(76,.lit 0),(75,.lit 0),(74,.lit 3)],bv:=[(72,yw 32),(67,yw 27),(54,yw 14),(49,yw 9),(87,.lit false),(82,.lit false)]})
     (.br (.aB (.var 0) (.lit 3))
      (.fin {lo:=40,az:=1,iv:=yo [(73,yv 33)]<|yr 71 37 4<|yr 66 26 12<|yr 53 13 4<|yr 48 8 8<|[(40,.lit 4),(91,.lit 0),(90,.lit 0),(89,.lit 0),(88,.lit 0),(86,.lit 0),(85,.lit 0),(84,yv 35),(83,yv 34),(81,.lit 0),(80,.lit 0),(79,.lit 0),(78,.lit 0),(77,.lit 2),(76,yv 24),(75,yv 23),(74,.lit 4)],bv:=[(72,yw 38),(67,yw 27),(54,yw 14),(49,yw 9),(87,.lit false),(82,.lit false)]})
      (.br (.aB (.var 0) (.lit 4))
       (.ob (.inr .i64 (.add (.var 30) (.lit 1))) <|
        .fin {lo:=40,az:=1,iv:=yo [(73,yv 33)]<|yr 71 31 4<|yr 66 26 12<|yr 53 13 4<|yr 48 8 8<|yo [(40,.lit 5),(91,.lit 0),(90,.lit 0),(89,.lit 0),(88,.lit 0),(86,.lit 0),(85,.add (.var 30) (.lit 1)),(84,yv 24),(83,yv 23)]<|yr 81 31 4<|[(77,.lit 0),(76,.lit 0),(75,.lit 0),(74,.lit 5)],bv:=[(72,yw 32),(67,yw 27),(54,yw 14),(49,yw 9),(87,.lit false),(82,yw 32)]})
       (.fin {lo:=40,az:=1,iv:=yo [(73,yv 33)]<|yr 71 31 4<|yr 66 26 12<|yr 53 13 4<|yr 48 8 9<|yr 91 18 4<|yr 86 13 4<|yr 81 8 8 [],bv:=[(72,yw 32),(67,yw 27),(54,yw 14),(49,yw 9),(87,yw 14),(82,yw 9)]})))))))
 (.br (.aB (.var 0) (.lit 3))
  (.br (.var 39)
   (.fin {lo:=40,az:=1,iv:=yo [(73,yv 33)]<|yr 71 31 4<|yr 66 26 12<|yr 53 13 4<|yr 48 8 8<|[(40,.lit 4),(91,.lit 0),(90,.lit 0),(89,.lit 0),(88,.lit 0),(86,.lit 0),(85,.lit 0),(84,.lit 0),(83,.lit 0),(81,.lit 0),(80,.lit 0),(79,.lit 0),(78,.lit 0),(77,.lit 1),(76,yv 29),(75,yv 28),(74,.lit 3)],bv:=[(72,yw 32),(67,yw 27),(54,yw 14),(49,yw 9),(87,.lit false),(82,.lit false)]})
   (.fin {lo:=40,az:=1,iv:=yo [(73,yv 33)]<|yr 71 31 4<|yr 66 26 12<|yr 53 13 4<|yr 48 8 8<|[(40,.lit 1),(91,.lit 0),(90,.lit 0),(89,.lit 0),(88,.lit 0),(86,.lit 0),(85,.lit 0),(84,.lit 0),(83,.lit 0),(81,.lit 0),(80,.lit 0),(79,.lit 0),(78,.lit 0),(77,.lit 0),(76,.lit 0),(75,.lit 0),(74,.lit 6)],bv:=[(72,yw 32),(67,yw 27),(54,yw 14),(49,yw 9),(87,.lit false),(82,.lit false)]}))
  (.br (.aB (.var 0) (.lit 0))
   (.fin {lo:=40,az:=1,iv:=yo [(73,yv 33)]<|yr 71 31 4<|yr 66 26 12<|yr 53 13 4<|yr 48 8 8<|[(40,.lit 1),(91,.lit 0),(90,.lit 0),(89,.lit 0),(88,.lit 0),(86,.lit 0),(85,.lit 0),(84,.lit 0),(83,.lit 0),(81,.lit 0),(80,.lit 0),(79,.lit 0),(78,.lit 0),(77,.lit 0),(76,.lit 0),(75,.lit 0),(74,.lit 6)],bv:=[(72,yw 32),(67,yw 27),(54,yw 14),(49,yw 9),(87,.lit false),(82,.lit false)]})
   (.br (.aB (.var 0) (.lit 1))
    (.br (.aB (.var 34) (.lit 0))
     (.fin {lo:=40,az:=1,iv:=yo [(73,yv 33)]<|yr 71 37 4<|yr 66 26 8<|[(58,.lit 0),(57,.lit 2),(56,.lit 0),(55,.lit 0),(53,.lit 0),(52,.lit 0),(51,.lit 0),(50,.lit 0),(48,.lit 0),(47,.lit 0),(46,.lit 0),(45,.lit 0),(44,.lit 0),(43,.lit 0),(42,.lit 0),(41,.lit 12),(40,.lit (-1)),(91,.lit 0),(90,.lit 2),(89,.lit 0),(88,.lit 0),(86,.lit 0),(85,.lit 0),(84,.lit 0),(83,.lit 0),(81,.lit 0),(80,.lit 0),(79,.lit 0),(78,.lit 0),(77,.lit 0),(76,.lit 0),(75,.lit 0),(74,.lit 12)],bv:=[(72,yw 38),(67,yw 27),(54,.lit false),(49,.lit false),(87,.lit false),(82,.lit false)]})
     (.br (.aB (.var 19) (.lit 3))
      (.fin {lo:=40,az:=1,iv:=yo [(73,yv 33)]<|yr 71 37 4<|yr 66 26 12<|yr 53 13 4<|yr 48 8 8<|[(40,.lit 4),(91,.lit 0),(90,.lit 0),(89,.lit 0),(88,.lit 0),(86,.lit 0),(85,.lit 0),(84,.lit 0),(83,.lit 0),(81,.lit 0),(80,.lit 0),(79,.lit 0),(78,.lit 0),(77,.lit 1),(76,yv 35),(75,yv 34),(74,.lit 3)],bv:=[(72,yw 38),(67,yw 27),(54,yw 14),(49,yw 9),(87,.lit false),(82,.lit false)]})
      (.fin {lo:=40,az:=1,iv:=yo [(73,yv 33)]<|yr 71 37 4<|yr 66 26 12<|yr 53 13 4<|yr 48 8 8<|[(40,.lit 2),(91,.lit 0),(90,.lit 0),(89,.lit 0),(88,.lit 0),(86,.lit 0),(85,.lit 0),(84,.lit 0),(83,.lit 0),(81,.lit 0),(80,.lit 0),(79,.lit 0),(78,.lit 0),(77,.lit 2),(76,yv 35),(75,yv 34),(74,.lit 3)],bv:=[(72,yw 38),(67,yw 27),(54,yw 14),(49,yw 9),(87,.lit false),(82,.lit false)]})))
    (.br (.aB (.var 0) (.lit 2))
     (.ob (.inr .i64 (.add (.var 30) (.lit 1))) <|
      .fin {lo:=40,az:=1,iv:=yo [(73,yv 33)]<|yr 71 31 4<|yr 66 26 12<|yr 53 13 4<|yr 48 8 8<|yo [(40,.lit 3),(91,.lit 0),(90,.lit 0),(89,.lit 0),(88,.lit 0),(86,.lit 0),(85,.add (.var 30) (.lit 1)),(84,yv 35),(83,yv 34)]<|yr 81 31 4<|[(77,.lit 0),(76,.lit 0),(75,.lit 0),(74,.lit 5)],bv:=[(72,yw 32),(67,yw 27),(54,yw 14),(49,yw 9),(87,.lit false),(82,yw 32)]})
     (.br (.aB (.var 0) (.lit 4))
      (.br (.aB (.var 19) (.lit 3))
       (.fin {lo:=40,az:=1,iv:=yo [(73,yv 37)]<|yr 71 31 4<|yr 66 26 8<|[(58,yv 37),(57,.lit 1),(56,.lit 0),(55,.lit 0),(53,.lit 0),(52,.lit 0),(51,.lit 0),(50,.lit 0),(48,.lit 0),(47,.lit 0),(46,.lit 0),(45,.lit 0),(44,.lit 0),(43,.lit 0),(42,.lit 0),(41,.lit 12),(40,.lit (-1)),(91,yv 37),(90,.lit 1),(89,.lit 0),(88,.lit 0),(86,.lit 0),(85,.lit 0),(84,.lit 0),(83,.lit 0),(81,.lit 0),(80,.lit 0),(79,.lit 0),(78,.lit 0),(77,.lit 0),(76,.lit 0),(75,.lit 0),(74,.lit 12)],bv:=[(72,yw 32),(67,yw 27),(54,.lit false),(49,.lit false),(87,.lit false),(82,.lit false)]})
       (.fin {lo:=40,az:=1,iv:=yo [(73,yv 37)]<|yr 71 31 4<|yr 66 26 12<|yr 53 13 4<|yr 48 8 8<|yo [(40,.lit 5),(91,.lit 0),(90,.lit 0),(89,.lit 0),(88,.lit 0),(86,.lit 0),(85,.lit 0),(84,.lit 0),(83,.lit 0)]<|yr 81 31 4<|[(77,.lit 0),(76,.lit 0),(75,.lit 0),(74,.lit 10)],bv:=[(72,yw 32),(67,yw 27),(54,yw 14),(49,yw 9),(87,.lit false),(82,yw 32)]}))
      (.br (.aB (.var 0) (.lit 5))
       (.fin {lo:=40,az:=1,iv:=yo [(73,yv 33)]<|yr 71 31 4<|yr 66 26 8<|[(58,yv 33),(57,.lit 1),(56,.lit 0),(55,.lit 0),(53,.lit 0),(52,.lit 0),(51,.lit 0),(50,.lit 0),(48,.lit 0),(47,.lit 0),(46,.lit 0),(45,.lit 0),(44,.lit 0),(43,.lit 0),(42,.lit 0),(41,.lit 12),(40,.lit (-1)),(91,yv 33),(90,.lit 1),(89,.lit 0),(88,.lit 0),(86,.lit 0),(85,.lit 0),(84,.lit 0),(83,.lit 0),(81,.lit 0),(80,.lit 0),(79,.lit 0),(78,.lit 0),(77,.lit 0),(76,.lit 0),(75,.lit 0),(74,.lit 12)],bv:=[(72,yw 32),(67,yw 27),(54,.lit false),(49,.lit false),(87,.lit false),(82,.lit false)]})
       (.fin {lo:=40,az:=1,iv:=yo [(73,yv 33)]<|yr 71 31 4<|yr 66 26 12<|yr 53 13 4<|yr 48 8 9<|yr 91 18 4<|yr 86 13 4<|yr 81 8 8 [],bv:=[(72,yw 32),(67,yw 27),(54,yw 14),(49,yw 9),(87,yw 14),(82,yw 9)]})))))))
theorem QG:exec tab QE 8000 [] (eG kD.f kD.nv [] kD.gl kD.hp kD.args)=Cb:=by kernel_rfl
def w9 (ρ:Env) (v:Nat):Op:=⟨ρ.iv v,ρ.iv (v+1),ρ.iv (v+2),ρ.iv (v+3)⟩
def kX (ρ:Env) (v:Nat):Jb:=⟨ρ.iv v,iP ρ (v+1),w9 ρ (v+19),av ρ (v+23),av ρ (v+28),ρ.iv (v+33)⟩
def Cc (ρ:Env):Prop:=-1000000000000≤ρ.iv 30∧ρ.iv 30≤1000000000000
def tO (ρ:Env):Prop:=kX ρ 40=((kX ρ 0).next (aH ρ 34)).1∧iP ρ 74=((kX ρ 0).next (aH ρ 34)).2
theorem QH (ρ:Env) (hpre:Cc ρ.num):Sat tO [] [] ρ Cb:=by
 replace hpre:Cc ρ:=hpre
 obtain ⟨h1,h2⟩:=hpre
 unfold Cb
 have fin:∀{σ:Sub} (q:Jb × Ca),(kX ρ 0).next (aH ρ 34)=q→kX (σ.ag ρ) 0=kX ρ 0→aH (σ.ag ρ) 34=aH ρ 34→kX (σ.ag ρ) 40=q.1→iP (σ.ag ρ) 74=q.2→tO (σ.ag ρ):=by
  intro σ q hq e1 e2 e3 e4
  unfold tO
  rw [e1,e2,e3,e4,hq]
  exact ⟨rfl,rfl⟩
 refine Sat.br (fun k1=>?_) (fun k1=>?_)
 all_goals simp only [Da] at k1
 ·replace k1:ρ.iv 19=1:=k1
  refine Sat.br (fun a0=>?_) (fun a0=>?_)
  all_goals simp only [Da] at a0
  ·exact Sat.fin (fin _ ((if_pos k1).trans (if_pos a0)) rfl rfl rfl rfl)
  refine Sat.br (fun a1=>?_) (fun a1=>?_)
  all_goals simp only [Da] at a1
  ·refine Sat.br (fun b=>?_) (fun b=>?_)
   all_goals simp only [Da] at b
   ·exact Sat.fin (fin _ ((if_pos k1).trans ((if_neg a0).trans ((if_pos a1).trans (if_pos b)))) rfl rfl rfl rfl)
   ·exact Sat.fin (fin _ ((if_pos k1).trans ((if_neg a0).trans ((if_pos a1).trans (if_neg (fun h:ρ.bv 39=_=>by rw [b] at h;cases h))))) rfl rfl rfl rfl)
  refine Sat.br (fun a5=>?_) (fun a5=>?_)
  all_goals simp only [Da] at a5
  ·refine Sat.br (fun b=>?_) (fun b=>?_)
   all_goals simp only [Da] at b
   ·exact Sat.fin (fin _ ((if_pos k1).trans ((if_neg a0).trans ((if_neg a1).trans ((if_pos a5).trans (if_pos b))))) rfl rfl rfl rfl)
   ·exact Sat.fin (fin _ ((if_pos k1).trans ((if_neg a0).trans ((if_neg a1).trans ((if_pos a5).trans (if_neg (fun h:ρ.bv 39=_=>by rw [b] at h;cases h)))))) rfl rfl rfl rfl)
  refine Sat.br (fun a2=>?_) (fun a2=>?_)
  all_goals simp only [Da] at a2
  ·exact Sat.fin (fin _ ((if_pos k1).trans ((if_neg a0).trans ((if_neg a1).trans ((if_neg a5).trans (if_pos a2))))) rfl rfl rfl rfl)
  refine Sat.br (fun a3=>?_) (fun a3=>?_)
  all_goals simp only [Da] at a3
  ·exact Sat.fin (fin _ ((if_pos k1).trans ((if_neg a0).trans ((if_neg a1).trans ((if_neg a5).trans ((if_neg a2).trans (if_pos a3)))))) rfl rfl rfl rfl)
  refine Sat.br (fun a4=>?_) (fun a4=>?_)
  all_goals simp only [Da] at a4
  ·refine Sat.ob (by simp only [Da];omega) ?_
   exact Sat.fin (fin _ ((if_pos k1).trans ((if_neg a0).trans ((if_neg a1).trans ((if_neg a5).trans ((if_neg a2).trans ((if_neg a3).trans (if_pos a4))))))) rfl rfl rfl rfl)
  exact Sat.fin (fin _ ((if_pos k1).trans ((if_neg a0).trans ((if_neg a1).trans ((if_neg a5).trans ((if_neg a2).trans ((if_neg a3).trans (if_neg a4))))))) rfl rfl rfl rfl)
 refine Sat.br (fun a3=>?_) (fun a3=>?_)
 all_goals simp only [Da] at a3
 ·refine Sat.br (fun b=>?_) (fun b=>?_)
  all_goals simp only [Da] at b
  ·exact Sat.fin (fin _ ((if_neg k1).trans ((if_pos a3).trans (if_pos b))) rfl rfl rfl rfl)
  ·exact Sat.fin (fin _ ((if_neg k1).trans ((if_pos a3).trans (if_neg (fun h:ρ.bv 39=_=>by rw [b] at h;cases h)))) rfl rfl rfl rfl)
 refine Sat.br (fun a0=>?_) (fun a0=>?_)
 all_goals simp only [Da] at a0
 ·exact Sat.fin (fin _ ((if_neg k1).trans ((if_neg a3).trans (if_pos a0))) rfl rfl rfl rfl)
 refine Sat.br (fun a1=>?_) (fun a1=>?_)
 all_goals simp only [Da] at a1
 ·refine Sat.br (fun b=>?_) (fun b=>?_)
  all_goals simp only [Da] at b
  ·exact Sat.fin (fin _ ((if_neg k1).trans ((if_neg a3).trans ((if_neg a0).trans ((if_pos a1).trans (if_pos b))))) rfl rfl rfl rfl)
  refine Sat.br (fun c=>?_) (fun c=>?_)
  all_goals simp only [Da] at c
  ·exact Sat.fin (fin _ ((if_neg k1).trans ((if_neg a3).trans ((if_neg a0).trans ((if_pos a1).trans ((if_neg b).trans (if_pos c)))))) rfl rfl rfl rfl)
  ·exact Sat.fin (fin _ ((if_neg k1).trans ((if_neg a3).trans ((if_neg a0).trans ((if_pos a1).trans ((if_neg b).trans (if_neg c)))))) rfl rfl rfl rfl)
 refine Sat.br (fun a2=>?_) (fun a2=>?_)
 all_goals simp only [Da] at a2
 ·refine Sat.ob (by simp only [Da];omega) ?_
  exact Sat.fin (fin _ ((if_neg k1).trans ((if_neg a3).trans ((if_neg a0).trans ((if_neg a1).trans (if_pos a2))))) rfl rfl rfl rfl)
 refine Sat.br (fun a4=>?_) (fun a4=>?_)
 all_goals simp only [Da] at a4
 ·refine Sat.br (fun c=>?_) (fun c=>?_)
  all_goals simp only [Da] at c
  ·exact Sat.fin (fin _ ((if_neg k1).trans ((if_neg a3).trans ((if_neg a0).trans ((if_neg a1).trans ((if_neg a2).trans ((if_pos a4).trans (if_pos c))))))) rfl rfl rfl rfl)
  ·exact Sat.fin (fin _ ((if_neg k1).trans ((if_neg a3).trans ((if_neg a0).trans ((if_neg a1).trans ((if_neg a2).trans ((if_pos a4).trans (if_neg c))))))) rfl rfl rfl rfl)
 refine Sat.br (fun a5=>?_) (fun a5=>?_)
 all_goals simp only [Da] at a5
 ·exact Sat.fin (fin _ ((if_neg k1).trans ((if_neg a3).trans ((if_neg a0).trans ((if_neg a1).trans ((if_neg a2).trans ((if_neg a4).trans (if_pos a5))))))) rfl rfl rfl rfl)
 exact Sat.fin (fin _ ((if_neg k1).trans ((if_neg a3).trans ((if_neg a0).trans ((if_neg a1).trans ((if_neg a2).trans ((if_neg a4).trans (if_neg a5))))))) rfl rfl rfl rfl)
theorem QI:aY Tryz.prog kD Cc tO :=
 cZ dD (E:=QE) (cs:=[]) rfl (fun k pre post h=>by cases h) bS rfl QG (by kernel_rfl) (fun ρ _ p hp=>by cases hp) QH
end Go.Proofs.YthomdlajobnmnaaGreatDoor
namespace Go.Proofs.YthomdlajobnmnaaGreatDoor
open Go.Rex
def Gt (ρ:Env):Prop:=(w9 ρ 0).gL
def kE (ρ:Env):Prop:=kX ρ 4=Jb.new (w9 ρ 0)
noncomputable def qY:Ex:={sched:=sched,loops:=[],cons:=[],fin:=dz}
def XV:Kn:=[(.aB (.var 0) (.lit 1),true),(.aB (.var 1) (.lit 0),true),(.aB (.var 3) (.lit 0),true),(.aA (.lit 0) (.var 2),true),(.aA (.var 2) (.lit 1073741824),true)]
def NR:Out :=
 .fin {lo:=4,az:=0,iv:=yo [(37,.lit 0),(35,.lit 0),(34,.lit 0),(33,.lit 0),(32,.lit 0),(30,.lit 0),(29,.lit 0),(28,.lit 0),(27,.lit 0)]<|yr 26 3 4<|[(22,.lit 0),(21,.lit 0),(20,.lit 0),(19,.lit 0),(17,.lit 0),(16,.lit 0),(15,.lit 0),(14,.lit 0),(12,.lit 0),(11,.lit 0),(10,.lit 0),(9,.lit 0),(8,.lit 0),(7,.lit 0),(6,.lit 0),(5,.lit 0),(4,.lit 0)],bv:=[(36,.lit false),(31,.lit false),(18,.lit false),(13,.lit false)],bk:=[(0,yb 1)]}
theorem KA:exec tab qY 8000 [] (eG dz.f dz.nv XV dz.gl dz.hp dz.args)=NR:=by kernel_rfl
def NS (ρ:Env):Prop:=ρ.iv 0=1∧ρ.iv 1=0∧ρ.iv 3=0∧0≤ρ.iv 2∧ρ.iv 2≤1073741824
theorem KC:aY Tryz.prog dz NS kE :=
 cZ dD (E:=qY) (cs:=[]) rfl (fun k pre post h=>by cases h) bS rfl KA (by kernel_rfl) (fun ρ h p hp=>by
   obtain ⟨f0,f1,f2,f3,f4⟩:=h
   simp only [XV,List.mem_cons,List.not_mem_nil,or_false] at hp
   rcases hp with rfl | rfl | rfl | rfl | rfl
   · exact beq_iff_eq.2 f0
   · exact beq_iff_eq.2 f1
   · exact beq_iff_eq.2 f2
   · exact decide_eq_true f3
   · exact decide_eq_true f4
   ) fun ρ h=>Sat.fin (show kE _ from rfl)
def XW:Kn:=[(.aB (.var 0) (.lit 1),false),(.aB (.var 0) (.lit 2),true),(.aB (.var 1) (.lit 0),true),(.aB (.var 2) (.lit 0),true),(.aB (.var 3) (.lit 0),true)]
def NT:Out :=
 .fin {lo:=4,az:=0,iv:=yo [(37,.lit 0),(35,.lit 0),(34,.lit 0),(33,.lit 0),(32,.lit 0),(30,.lit 0),(29,.lit 0),(28,.lit 0),(27,.lit 0)]<|yr 26 3 4<|[(22,.lit 0),(21,.lit 0),(20,.lit 0),(19,.lit 0),(17,.lit 0),(16,.lit 0),(15,.lit 0),(14,.lit 0),(12,.lit 0),(11,.lit 0),(10,.lit 0),(9,.lit 0),(8,.lit 0),(7,.lit 0),(6,.lit 0),(5,.lit 0),(4,.lit 0)],bv:=[(36,.lit false),(31,.lit false),(18,.lit false),(13,.lit false)],bk:=[(0,yb 1)]}
theorem KD:exec tab qY 8000 [] (eG dz.f dz.nv XW dz.gl dz.hp dz.args)=NT:=by kernel_rfl
def NU (ρ:Env):Prop:=¬ρ.iv 0=1∧ρ.iv 0=2∧ρ.iv 1=0∧ρ.iv 2=0∧ρ.iv 3=0
theorem KE:aY Tryz.prog dz NU kE :=
 cZ dD (E:=qY) (cs:=[]) rfl (fun k pre post h=>by cases h) bS rfl KD (by kernel_rfl) (fun ρ h p hp=>by
   obtain ⟨f0,f1,f2,f3,f4⟩:=h
   simp only [XW,List.mem_cons,List.not_mem_nil,or_false] at hp
   rcases hp with rfl | rfl | rfl | rfl | rfl
   · exact beq_eq_false_iff_ne.2 f0
   · exact beq_iff_eq.2 f1
   · exact beq_iff_eq.2 f2
   · exact beq_iff_eq.2 f3
   · exact beq_iff_eq.2 f4
   ) fun ρ h=>Sat.fin (show kE _ from rfl)
def XX:Kn:=[(.aB (.var 0) (.lit 1),false),(.aB (.var 0) (.lit 2),false),(.aB (.var 0) (.lit 3),true),(.aB (.var 1) (.lit 0),true),(.aB (.var 2) (.lit 0),true),(.aB (.var 3) (.lit 0),true)]
def NV:Out :=
 .fin {lo:=4,az:=0,iv:=yo [(37,.lit 0),(35,.lit 0),(34,.lit 0),(33,.lit 0),(32,.lit 0),(30,.lit 0),(29,.lit 0),(28,.lit 0),(27,.lit 0)]<|yr 26 3 4<|[(22,.lit 0),(21,.lit 0),(20,.lit 0),(19,.lit 0),(17,.lit 0),(16,.lit 0),(15,.lit 0),(14,.lit 0),(12,.lit 0),(11,.lit 0),(10,.lit 0),(9,.lit 0),(8,.lit 0),(7,.lit 0),(6,.lit 0),(5,.lit 0),(4,.lit 0)],bv:=[(36,.lit false),(31,.lit false),(18,.lit false),(13,.lit false)],bk:=[(0,yb 1)]}
theorem KF:exec tab qY 8000 [] (eG dz.f dz.nv XX dz.gl dz.hp dz.args)=NV:=by kernel_rfl
def NW (ρ:Env):Prop:=¬ρ.iv 0=1∧¬ρ.iv 0=2∧ρ.iv 0=3∧ρ.iv 1=0∧ρ.iv 2=0∧ρ.iv 3=0
theorem KG:aY Tryz.prog dz NW kE :=
 cZ dD (E:=qY) (cs:=[]) rfl (fun k pre post h=>by cases h) bS rfl KF (by kernel_rfl) (fun ρ h p hp=>by
   obtain ⟨f0,f1,f2,f3,f4,f5⟩:=h
   simp only [XX,List.mem_cons,List.not_mem_nil,or_false] at hp
   rcases hp with rfl | rfl | rfl | rfl | rfl | rfl
   · exact beq_eq_false_iff_ne.2 f0
   · exact beq_eq_false_iff_ne.2 f1
   · exact beq_iff_eq.2 f2
   · exact beq_iff_eq.2 f3
   · exact beq_iff_eq.2 f4
   · exact beq_iff_eq.2 f5
   ) fun ρ h=>Sat.fin (show kE _ from rfl)
theorem VN {P:Program} {k:dJ} {pre JF JG XY post:Env→Prop} (h1:aY P k JF post) (h2:aY P k JG post) (h3:aY P k XY post) (hp:∀ρ,pre ρ→JF ρ∨JG ρ∨XY ρ):aY P k pre post :=
 ⟨h1.fn,fun ρ ν w a b c=>(hp _ c).elim (h1.run ρ ν w a b) fun c=>c.elim (h2.run ρ ν w a b) (h3.run ρ ν w a b)⟩
theorem NY:aY Tryz.prog dz Gt kE :=
 VN KC KE KG fun ρ h=>by
  unfold Gt Op.gL at h
  by_cases h1:ρ.iv 0=1
  ·rw [if_pos (show (w9 ρ 0).kind=1 from h1)] at h
   obtain ⟨a,b,c,d⟩:=h
   exact .inl ⟨h1,a,b,c,d⟩
  ·rw [if_neg (show ¬(w9 ρ 0).kind=1 from h1)] at h
   obtain ⟨a,b,c,d⟩:=h
   rcases a with a | a
   ·exact .inr (.inl ⟨h1,a,b,c,d⟩)
   ·have a':ρ.iv 0=3:=a
    exact .inr (.inr ⟨h1,by omega,a,b,c,d⟩)
end Go.Proofs.YthomdlajobnmnaaGreatDoor
namespace Go.Proofs.YthomdlajobnmnaaGreatDoor
open Go.RowKit Go.Rex
def oC:List SB:=[UK 0]
theorem NZ:ow oC=true:=by kernel_rfl
structure oD (w:World) (a:Addr) (j:Jb) (B:Nat→Prop):Prop where
 ex:∃ρ ν,ν 0=a∧aI ρ ν oC w∧kX ρ 0=j∧∀b,gH ρ ν oC b→B b
section
variable {w w':World} {a:Addr} {j:Jb} {B B':Nat→Prop}
theorem oD.frame (h:oD w a j B) (hk:∀b,B b→w'.heap[b]?=w.heap[b]?):oD w' a j B:=by
 obtain ⟨ρ,ν,h1,h2,h3,h5⟩:=h.ex
 exact ⟨ρ,ν,h1,h2.DV NZ fun b hb=>hk b (h5 b hb),h3,h5⟩
theorem oD.mono (h:oD w a j B) (hk:∀b,B b→b<w.heap.size→B' b):oD w a j B':=by
 obtain ⟨ρ,ν,h1,h2,h3,h5⟩:=h.ex
 exact ⟨ρ,ν,h1,h2,h3,fun b hb=>hk b (h5 b hb) (o6 h2 hb)⟩
end
def UL (o:Op):Value:=.agg #[.int .i64 o.kind,.int .i64 o.key,.int .i64 o.val,.int .i64 o.JZ]
def UM (o:Op):Env:=BX (fun i=>([o.kind,o.key,o.val,o.JZ]:List Int).getD i 0) fun _=>false
theorem Tn {w:World} {o:Op} (h:o.gL) :
  Calls Tryz.prog 29 #[UL o] w fun ev w'=>∃a B,ev=.returned (.tuple #[.pointer (some a),.nilIface])∧oD w' a (Jb.new o) B∧(∀b,B b→w.heap.size≤b)∧Nw w w':=by
 have hrun:=NY.run (UM o) (fun _=>⟨0,0,none⟩) w DW ⟨fun g k _ h=>(by cases h),fun g g' k k' _ _ h=>(by cases h)⟩ h
 refine Calls.mono hrun ?_
 rintro e w' ⟨ρ,ν,hA,rfl,gB,hwr,how,q1⟩
 have hn:∀b,¬iI (UM o) (fun _=>(⟨0,0,none⟩:Addr)) dz.hp b:=fun b ⟨k,sb,hk,_⟩=>by
  have hk:([]:List SB)[k]?=some sb:=hk
  simp at hk
 have e0:w9 ρ 0=o:=by
  unfold w9
  rw [hA.iv 0 (by decide),hA.iv 1 (by decide),hA.iv 2 (by decide),hA.iv 3 (by decide)]
  rfl
 have sub:(List.range oC.length).map (fun j=>dz.hp'[id j]?)=oC.map fun sb=>some (sb.aU (·+4) id):=by kernel_rfl
 replace q1:kX ρ 4=Jb.new (w9 ρ 0):=q1
 rw [e0] at q1
 refine ⟨ν 0,_,rfl,⟨ρ.pull (·+4),fun k=>ν (id k),rfl,gB.sub sub fun i j _ _ h=>h,q1,fun _ h=>h⟩,fun b hb=>((how.sub sub).aD NZ hb).elim id fun h=>absurd h (hn b),hwr.os,hwr.tape,hwr.output,hwr.size,fun k hk _=>hwr.block k hk (hn k)⟩
theorem VO {w:World} {a:Addr} {j:Jb} {B:Nat→Prop} {x:Rp} (h:oD w a j B) (ht:-1000000000000≤j.top.tag∧j.top.tag≤1000000000000) :
  Calls Tryz.prog 30 #[.pointer (some a),iA x] w fun ev w'=>ev=.returned (mQ (j.next x).2)∧∃B',oD w' a (j.next x).1 B'∧(∀b,B' b→w.heap.size≤b∨B b)∧bX w B w':=by
 obtain ⟨ρ,ν,rfl,hh0,rfl,hB⟩:=h.ex
 have hA:dn 34 1 ρ (ρ.cat 34 (Hf x)) ν ν:=⟨fun _ h=>if_pos h,fun _ h=>if_pos h,fun _ h=>if_pos h,fun _ h=>if_pos h,fun _ h=>if_pos h,fun _ h=>if_pos h,fun _ _=>rfl⟩
 obtain ⟨q,hq⟩:∃q,q=ρ.cat 34 (Hf x):=⟨_,rfl⟩
 rw [←hq] at hA
 have hh:aI q ν oC w:=hh0.ext hA (by kernel_rfl) (by decide)
 have e1:kX q 0=kX ρ 0:=by rw [hq];rfl
 have e2:aH q 34=x:=by rw [hq];rfl
 rw [←e1] at ht
 have hrun:=QI.run q ν w hh ⟨fun g k _ h=>(by cases h),fun g g' k k' _ _ h=>(by cases h)⟩ ht
 have hargs:(kD.args.map (·.den q ν)).toArray=#[.pointer (some (ν 0)),iA x]:=by
  rw [hq]
  rfl
 rw [hargs] at hrun
 refine Calls.mono hrun ?_
 rintro ev w' ⟨ρ',aK,hA',rfl,gB,hwr,how,q1,q2⟩
 have e0:kX ρ' 0=kX q 0:=by
  unfold kX iP w9 av
  simp (disch:=decide) only [hA'.iv,hA'.bv]
 have e3:aH ρ' 34=aH q 34:=by
  unfold aH av
  simp (disch:=decide) only [hA'.iv,hA'.bv]
 replace q1:kX ρ' 40=((kX ρ' 0).next (aH ρ' 34)).1:=q1
 replace q2:iP ρ' 74=((kX ρ' 0).next (aH ρ' 34)).2:=q2
 rw [e0,e3,e1,e2] at q1 q2
 have sub:(List.range oC.length).map (fun j=>kD.hp'[id j]?)=oC.map fun sb=>some (sb.aU (·+40) id):=by kernel_rfl
 have kV:∀x,iI q ν oC x→B x:=fun x h=>hB x ((p9 hA (by kernel_rfl) (by decide)).1 (lQ h))
 refine ⟨?_,_,⟨ρ'.pull (·+40),fun k=>aK (id k),?_,gB.sub sub (fun i j _ _ h=>h),q1,fun _ h=>h⟩,fun b hb=>((how.sub sub).aD NZ hb).imp id (kV b),hwr.os,hwr.tape,hwr.output,hwr.size,fun b hb hn=>hwr.block b hb fun h=>hn (kV b h)⟩
 ·rw [←q2]
  rfl
 ·show aK 0=ν 0
  exact hA'.bl 0 (by decide)
end Go.Proofs.YthomdlajobnmnaaGreatDoor
namespace Go.Proofs.YthomdlajobnmnaaGreatDoor
open Go.Rex
def Ze (w:Wk) (l:Lo) (t:RT):Prop :=
 (w.j=none∧w.fK=false∧UH l t)∨(w.j=none∧w.fK=true∧∃x,t=.idle x) ∨
 (∃o,w.j=some (Jb.new o)∧w.fK=true∧w.said.length<3∧o∈gF∧UI l t) ∨
 ∃o,w.j=some {Jb.new o with at':=1}∧w.fK=true∧w.said.length<3∧o∈gF∧UJ l t
structure Pe (w:Wk) (l:Lo) (t:RT):Prop where
 rep:gZ l t w.r
 ok:l.OK
 notes:l.notes=[]
 freed:l.freed=0
 ops:w.ops=gF
 said:w.said=List.replicate w.said.length (2,0)
 le:w.said.length≤3
 st:Ze w l t
def Wk.rem (w:Wk):Nat :=
 match w.j with
 | none=>if w.fK=true then 4 * (3-w.said.length)+1 else 4 * (3-w.said.length)
 | some j=>if j.at'=0 then 4 * (3-w.said.length)-1 else 4 * (3-w.said.length)-2
def wM (w:Wk) (l:Lo) (t:RT):Nat:=20 * w.rem+mT l t
theorem o7:∀o∈gF,o.gL∧o.kind≠1:=by decide
theorem J3 (l:Lo):UI (RT.begin l (Ca.of 1)).1 (RT.begin l (Ca.of 1)).2∧mT (RT.begin l (Ca.of 1)).1 (RT.begin l (Ca.of 1)).2≤2∧(RT.begin l (Ca.of 1)).1=l:=by
 have e:RT.begin l (Ca.of 1)=if l.bV then (l,.rU) else (l,.idle Rp.yes):=rfl
 rw [e]
 split
 ·exact ⟨.inr (.inl rfl),Nat.le_refl 2,rfl⟩
 ·exact ⟨.inl ⟨_,rfl⟩,Nat.zero_le 2,rfl⟩
theorem LK (l:Lo):UJ (RT.begin l (Ca.of 6)).1 (RT.begin l (Ca.of 6)).2∧mT (RT.begin l (Ca.of 6)).1 (RT.begin l (Ca.of 6)).2≤5∧(RT.begin l (Ca.of 6)).1=l:=by
 have e:RT.begin l (Ca.of 6)=(l,.gW (Ca.of 6)):=rfl
 rw [e]
 refine ⟨.inr (.inl rfl),?_,rfl⟩
 show (if RT.bQ l 0 1 then 2 else 5)≤5
 split <;> decide
theorem qJ {k:Int} (h:1≤k∧k≤11):(Ca.of k).OK:=by
 have h9:(0:Int)≤0∧(0:Int)<9:=by decide
 exact ⟨h.1,h.2,h9.1,h9.2,h9.1,h9.2⟩
theorem N7:∀(k:Nat) (w:Wk) (l:Lo) (t:RT),Pe w l t→w.rem<k→t.eH=0 →
  ∃w' l' t' b,w.go k=(w',b)∧Pe w' l' t'∧((b=some false∧w'.idle∧wM w' l' t'≤wM w l t)∨(b=none∧t'.eH≠0∧wM w' l' t'<wM w l t))
 | 0,w,l,t,_,h,_=>absurd h (Nat.not_lt_zero _)
 | k+1,w,l,t,H,hk,h0=>by
  have hst:w.r.step=0:=H.rep.step.trans h0
  obtain ⟨x,hx⟩:=RT.vg h0
  subst hx
  have hm0:mT l (.idle x)=0:=rfl
  have key:∀(w1:Wk) (l1:Lo) (t1:RT),Pe w1 l1 t1→w1.rem<w.rem→mT l1 t1≤10→∃w' l' t' b,w1.go k=(w',b)∧Pe w' l' t'∧((b=some false∧w'.idle∧wM w' l' t'≤wM w l (.idle x))∨(b=none∧t'.eH≠0∧wM w' l' t'<wM w l (.idle x))):=by
   intro w1 l1 t1 H1 hr hm
   have hlt:wM w1 l1 t1<wM w l (.idle x):=by unfold wM;rw [hm0];omega
   by_cases hz:t1.eH=0
   ·obtain ⟨w',l',t',b,e,g1,g2⟩:=N7 k w1 l1 t1 H1 (by omega) hz
    refine ⟨w',l',t',b,e,g1,?_⟩
    rcases g2 with ⟨a1,a2,a3⟩ | ⟨a1,a2,a3⟩
    ·exact .inl ⟨a1,a2,by omega⟩
    ·exact .inr ⟨a1,a2,by omega⟩
   ·refine ⟨w1,l1,t1,none,?_,H1,.inr ⟨rfl,hz,hlt⟩⟩
    cases k with
    | zero=>rfl
    | succ k =>
     show (if w1.r.step≠0 then _ else _)=_
     rw [if_pos (by rw [H1.rep.step];exact hz)]
  unfold Wk.go
  rw [if_neg (fun h=>h hst)]
  rcases H.st with ⟨hj,hi,-⟩ | ⟨hj,hi,-⟩ | ⟨o,hj,hi,hl,ho,-⟩ | ⟨o,hj,hi,hl,ho,hC⟩
  ·rw [hj]
   simp only
   rw [if_neg (by rw [hi];decide)]
   by_cases hd:w.said.length≥w.ops.length
   ·rw [if_pos hd]
    exact ⟨w,l,.idle x,_,rfl,H,.inl ⟨rfl,⟨hst,hj,hi,hd⟩,Nat.le_refl _⟩⟩
   ·rw [if_neg hd]
    have hl:w.said.length<3:=by rw [H.ops] at hd;simp only [gF,List.length_cons,List.length_nil] at hd;omega
    have ho:w.ops.getD w.said.length ⟨0,0,0,0⟩∈gF:=by
     rw [H.ops,List.getD_eq_getElem?_getD,List.getElem?_eq_getElem (by simpa [gF] using hl)]
     exact List.getElem_mem _
    have hb:=H.rep.begin H.ok (qJ (k:=1) (by decide))
    obtain ⟨s1,s2,s3⟩:=J3 l
    rw [if_neg (fun h=>h (o7 _ ho).1),if_neg (by rw [hb.2];decide)]
    refine key _ (RT.begin l (Ca.of 1)).1 (RT.begin l (Ca.of 1)).2 ⟨hb.1,by rw [s3];exact H.ok,by rw [s3];exact H.notes,by rw [s3];exact H.freed,H.ops,H.said,H.le,.inr (.inr (.inl ⟨_,rfl,rfl,hl,ho,s1⟩))⟩ ?_ (by omega)
    show 4 * (3-w.said.length)-1<w.rem
    unfold Wk.rem
    rw [hj]
    simp only
    rw [if_neg (by rw [hi];decide)]
    omega
  ·rw [hj]
   simp only
   rw [if_pos hi]
   have hb:=H.rep.begin H.ok (qJ (k:=2) (by decide))
   rw [if_neg (by rw [hb.2];decide)]
   obtain ⟨s1,s2,s3,s4⟩:=BZ l 0 (by decide)
   refine key _ (RT.leave l 0).1 (RT.leave l 0).2 ⟨hb.1,?_,s4.1.trans H.notes,s4.2.trans H.freed,H.ops,H.said,H.le,.inl ⟨rfl,rfl,s1⟩⟩ ?_ (by simpa using s2)
   ·have ho:=H.ok
    have q:=RT.rY l 0
    exact ⟨by rw [q.ak];exact ho.ak,by rw [q.me,q.threads];exact ho.me,by rw [q.threads];exact ho.threads,by rw [q.most];exact ho.most⟩
   ·unfold Wk.rem
    rw [hj]
    simp only
    rw [if_neg (by decide),if_pos hi]
    omega
  ·rw [hj]
   simp only
   have hn:(Jb.new o).next w.r.bK=({Jb.new o with at':=1},Ca.of 6):=by
    unfold Jb.next
    rw [if_neg (show ¬(Jb.new o).op.kind=1 from (o7 o ho).2)]
    rfl
   have hb:=H.rep.begin H.ok (qJ (k:=6) (by decide))
   obtain ⟨s1,s2,s3⟩:=LK l
   rw [hn]
   simp only
   rw [if_neg (show ¬(Ca.of 6).kind=12 by decide),if_neg (by rw [hb.2];decide)]
   refine key _ (RT.begin l (Ca.of 6)).1 (RT.begin l (Ca.of 6)).2 ⟨hb.1,by rw [s3];exact H.ok,by rw [s3];exact H.notes,by rw [s3];exact H.freed,H.ops,H.said,H.le,.inr (.inr (.inr ⟨o,rfl,hi,hl,ho,s1⟩))⟩ ?_ (by omega)
   show 4 * (3-w.said.length)-2<w.rem
   unfold Wk.rem
   rw [hj]
   simp only
   rw [if_pos (show (Jb.new o).at'=0 from rfl)]
   omega
  ·rw [hj]
   simp only
   have hx:x.word=Wd.zero:=by
    rcases hC with ⟨b,e⟩ | e | ⟨-,e⟩ | ⟨-,f,v,-,e⟩ <;> cases e
    rfl
   have LM:w.r.bK=x:=H.rep.more
   have hn:∃j,({Jb.new o with at':=1}:Jb).next w.r.bK=(j,{Ca.of 12 with code:=2,val:=0}):=by
    refine ⟨(({({Jb.new o with at':=1}:Jb) with top:=x.word}:Jb).fin 2 0).1,?_⟩
    unfold Jb.next
    rw [if_neg (show ¬({Jb.new o with at':=1}:Jb).op.kind=1 from (o7 o ho).2),LM]
    show (if x.word.slot=0 then _ else _)=_
    rw [if_pos (by rw [hx];rfl)]
    rfl
   obtain ⟨j,hn⟩:=hn
   rw [hn]
   simp only
   rw [if_pos (show ({Ca.of 12 with code:=2,val:=0}:Ca).kind=12 from rfl)]
   refine key {w with said:=w.said ++ [((2:Int),(0:Int))],j:=none} l (.idle x) ⟨H.rep,H.ok,H.notes,H.freed,H.ops,?_,by rw [List.length_append];exact hl,.inr (.inl ⟨rfl,hi,x,rfl⟩)⟩ ?_ (by rw [hm0];decide)
   ·show w.said ++ [((2:Int),(0:Int))]=List.replicate (w.said ++ [_]).length (2,0)
    rw [List.length_append,List.length_singleton,List.replicate_succ',←H.said]
   ·unfold Wk.rem
    rw [hj]
    simp only
    rw [if_pos hi,if_neg (show ¬({Jb.new o with at':=1}:Jb).at'=0 from (by decide:¬(1:Int)=0)),List.length_append,List.length_singleton]
    omega
theorem LP {w:Wk} {l:Lo} {t:RT} {p:PS} (H:Pe w l t) (hB:kC p):∃w' l' t' p' b,w.step p=(w',p',b)∧Pe w' l' t'∧kC p'∧((b=false∧w'.idle∧wM w' l' t'≤wM w l t)∨(b=true∧wM w' l' t'<wM w l t)):=by
 have hgo:∃w1 l1 t1 b,w.go 200=(w1,b)∧Pe w1 l1 t1∧((b=some false∧w1.idle∧wM w1 l1 t1≤wM w l t)∨(b=none∧t1.eH≠0∧wM w1 l1 t1≤wM w l t)):=by
  by_cases h0:t.eH=0
  ·have hr:w.rem<200:=by
    unfold Wk.rem
    split
    ·split <;> omega
    ·split <;> omega
   obtain ⟨w1,l1,t1,b,e,g1,g2⟩:=N7 200 w l t H hr h0
   refine ⟨w1,l1,t1,b,e,g1,?_⟩
   rcases g2 with g | ⟨a1,a2,a3⟩
   ·exact .inl g
   ·exact .inr ⟨a1,a2,Nat.le_of_lt a3⟩
  ·refine ⟨w,l,t,none,?_,H,.inr ⟨rfl,h0,Nat.le_refl _⟩⟩
   show (if w.r.step≠0 then _ else _)=_
   rw [if_pos (by rw [H.rep.step];exact h0)]
 obtain ⟨w1,l1,t1,b,e,H1,g⟩:=hgo
 rcases g with ⟨rfl,g1,g2⟩ | ⟨rfl,g1,g2⟩
 ·refine ⟨w1,l1,t1,p,false,?_,H1,hB,.inl ⟨rfl,g1,g2⟩⟩
  unfold Wk.step
  rw [e]
 ·have hG:LH (fun l' t'=>∀r',Ze {w1 with r:=r'} l' t') l1 t1 p∧t1.fits l1:=by
   rcases H1.st with ⟨hj,hi,hs⟩ | ⟨hj,hi,x,rfl⟩ | ⟨o,hj,hi,hl,ho,hs⟩ | ⟨o,hj,hi,hl,ho,hs⟩
   ·obtain ⟨p',x,a1,a2,aw,a3,a4⟩:=(Qw hB H1.ok hs g1).ex
    refine ⟨⟨p',x,a1,a2,aw,fun r'=>.inl ⟨hj,hi,a3⟩,a4⟩,?_⟩
    rcases hs with ⟨x,rfl⟩ | ⟨s,rfl⟩ | ⟨i,-,rfl⟩ <;> trivial
   ·exact absurd rfl g1
   ·obtain ⟨p',x,a1,a2,aw,a3,a4⟩:=(Qx hB H1.ok hs g1).ex
    refine ⟨⟨p',x,a1,a2,aw,fun r'=>.inr (.inr (.inl ⟨o,hj,hi,hl,ho,a3⟩)),a4⟩,?_⟩
    rcases hs with ⟨x,rfl⟩ | rfl | ⟨s,rfl⟩ <;> trivial
   ·obtain ⟨p',x,a1,a2,aw,a3,a4⟩:=(Qy hB H1.ok hs g1).ex
    refine ⟨⟨p',x,a1,a2,aw,fun r'=>.inr (.inr (.inr ⟨o,hj,hi,hl,ho,a3⟩)),a4⟩,?_⟩
    rcases hs with ⟨x,rfl⟩ | rfl | ⟨hd,rfl⟩ | ⟨-,f,v,-,rfl⟩
    ·trivial
    ·exact ⟨by decide,by decide⟩
    ·exact hd
    ·exact ⟨by decide,by decide⟩
  obtain ⟨⟨p',x,a1,a2,-,a3,a4,a5,a6⟩,hfit⟩:=hG.imp LH.ex id
  have hk:=H1.rep.bG H1.ok hfit g1 x
  have hac:=H1.rep.acc g1
  refine ⟨{w1 with r:=(w1.r.bG x).1},(RT.bG l1 t1 x).1,(RT.bG l1 t1 x).2,p',true,?_,⟨hk.1,?_,a6.1.trans H1.notes,a6.2.trans H1.freed,H1.ops,H1.said,H1.le,a3 _⟩,a2,.inr ⟨rfl,?_⟩⟩
  ·unfold Wk.step
   rw [e]
   simp only
   rw [if_neg (by rw [H1.rep.step];exact g1),hac,a1]
   simp only
   rw [hk.2]
  ·have ho:=H1.ok
   exact ⟨by rw [a5.ak];exact ho.ak,by rw [a5.me,a5.threads];exact ho.me,by rw [a5.threads];exact ho.threads,by rw [a5.most];exact ho.most⟩
  ·unfold wM at g2 ⊢
   show 20 * w1.rem+_<_
   omega
theorem Pe.bK {w:Wk} {l:Lo} {t:RT} {p:PS} (H:Pe w l t) (hB:kC p) (h0:t.eH≠0):∃p' x,p.act w.r.acc=(p',some x)∧(x.word=Wd.zero∨x.word=Wd.eQ 1):=by
 rw [H.rep.acc h0]
 rcases H.st with ⟨-,-,hs⟩ | ⟨-,-,x,rfl⟩ | ⟨o,-,-,-,-,hs⟩ | ⟨o,-,-,-,-,hs⟩
 ·obtain ⟨p',x,a1,-,aw,-⟩:=(Qw hB H.ok hs h0).ex
  exact ⟨p',x,a1,aw⟩
 ·exact absurd rfl h0
 ·obtain ⟨p',x,a1,-,aw,-⟩:=(Qx hB H.ok hs h0).ex
  exact ⟨p',x,a1,aw⟩
 ·obtain ⟨p',x,a1,-,aw,-⟩:=(Qy hB H.ok hs h0).ex
  exact ⟨p',x,a1,aw⟩
theorem Pe.end {w:Wk} {l:Lo} {t:RT} (H:Pe w l t) (h:w.idle):w.said=[(2,0),(2,0),(2,0)]:=by
 have h3:w.said.length=3:=by
  have:=h.2.2.2
  rw [H.ops] at this
  have:=H.le
  simp only [gF,List.length_cons,List.length_nil] at *
  omega
 rw [H.said,h3]
 rfl
theorem Pe.bound {w:Wk} {l:Lo} {t:RT} (H:Pe w l t):wM w l t≤300:=by
 have h1:w.rem≤13:=by
  unfold Wk.rem
  split
  ·split <;> omega
  ·split <;> omega
 have h2:mT l t≤10:=by
  have hc:∀a b:Nat,a≤10→b≤10→(if RT.bQ l 0 1 then a else b)≤10:=fun a b ha hb=>by split <;> assumption
  rcases H.st with ⟨-,-,⟨x,rfl⟩ | ⟨s,rfl⟩ | ⟨i,hi,rfl⟩⟩ | ⟨-,-,x,rfl⟩ | ⟨o,-,-,-,-,⟨x,rfl⟩ | rfl | ⟨s,rfl⟩⟩ | ⟨o,-,-,-,-,⟨x,rfl⟩ | rfl | ⟨-,rfl⟩ | ⟨-,f,v,-,rfl⟩⟩
  all_goals first
   | exact Nat.zero_le 10
   | exact (by decide:1≤10)
   | exact (by decide:2≤10)
   | exact (by decide:3≤10)
   | exact hc 2 5 (by decide) (by decide)
   | exact hc 1 4 (by decide) (by decide)
   | (show ((10:Int)-(i:Int)).toNat≤10;omega)
 unfold wM
 omega
theorem Pe.new {ak me threads notes:Int} (ho:(1≤ak∧ak≤5)∧(0≤me∧me<threads)∧(1≤threads∧threads≤6)∧1≤notes):∃l,Pe (Wk.new ak me threads notes gF) l (.idle ⟨Wd.zero,false⟩) :=
 ⟨⟨ak,me,threads,notes,fun _=>Wd.zero,Sp.zero,[],0⟩,⟨rfl,rfl,rfl,rfl,rfl,rfl,rfl,rfl,rfl,fun h=>absurd rfl h,rfl⟩,⟨ho.1,ho.2.1,ho.2.2.1,ho.2.2.2⟩,rfl,rfl,rfl,rfl,Nat.zero_le 3,.inl ⟨rfl,rfl,.inl ⟨_,rfl⟩⟩⟩
end Go.Proofs.YthomdlajobnmnaaGreatDoor
