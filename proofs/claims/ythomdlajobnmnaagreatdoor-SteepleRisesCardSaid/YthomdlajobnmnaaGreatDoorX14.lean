/- part 14 of the proof -/
import Derived.Test.YthomdlajobnmnaaGreatDoorX12
import Derived.Test.YthomdlajobnmnaaGreatDoorX13
set_option linter.unusedSimpArgs false
set_option linter.unusedVariables false
namespace Go.Proofs.YthomdlajobnmnaaGreatDoor.Sk
open Go.Rex
section
variable {ρ:Env}
structure BF (ρ:Env):Prop where
 c:tO ρ
 a:101<=ρ.iv 0
theorem BF.of (h:BF ρ.num):BF ρ:=⟨h.c.of,h.a⟩
theorem anw (f:BF ρ.num):Sat gM jP [] ρ oC2:=by
 replace f:BF ρ:=f.of
 obtain ⟨b,s9⟩:=f
 have o:=b.k0
 have l:=b.k1
 have m:=b.x0
 have p:=b.x1
 have n:=b.b0
 have k:=b.b1
 have e:=aib (j:=jC ρ) (x:=az ρ 54) s9
 unfold oC2
 refine Sat.br (λa1=>?_) (λa1=>?_)
 all_goals simp only [Da] at a1
 ·replace e:=e.trans (aic a1)
  refine Sat.br (λa=>?_) (λa=>?_)
  all_goals simp only [Da] at a
  ·exact oS (oS (Sat.fin (bC (e.trans (if_pos a)) rfl rfl)))
  ·replace e:=e.trans (if_neg a)
   refine oS ?_
   refine a2 (Sat.dF (c:=jU) rfl ⟨⟨by show (0:Int)<=0;decide,by show (0:Int)<=2;decide⟩,by show -1000000000000<=(0:Int);decide,by show (0:Int)<=1000000000000;decide⟩ (λq=>(0<=q.iv 28/\q.iv 28<=3)/\KC q (λq=>{jC q with at':=103}) Lr) (λi d=>⟨⟨b.v0,b.v1⟩,e.trans (wk (K:=Lr) rfl d.1 d.2)⟩) λq d=>?_)
   obtain ⟨h,e⟩:=d
   refine Sat.br (λa=>?_) (λa=>?_)
   all_goals simp only [Da] at a
   ·exact Sat.fin (bC (e.trans (if_pos a)) rfl rfl)
   ·replace e:=e.trans (if_neg (λz:q.bv 101=_=>by rw [a] at z;cases z))
    exact Sat.fin (bC (e) rfl rfl)
 ·refine Sat.br (λg=>?_) (λg=>?_)
  all_goals simp only [Da] at g
  ·replace e:=e.trans (aid g)
   refine Sat.br (λa=>?_) (λa=>?_)
   all_goals simp only [Da] at a
   ·exact Sat.fin (bC (e.trans (if_pos a)) rfl rfl)
   ·replace e:=e.trans (if_neg (λz:ρ.bv 59=_=>by rw [a] at z;cases z))
    refine oS ?_
    refine a2 (Sat.dF (c:=jU) rfl ⟨⟨by show (0:Int)<=0;decide,by show (0:Int)<=2;decide⟩,by show -1000000000000<=(0:Int);decide,by show (0:Int)<=1000000000000;decide⟩ (λq=>(0<=q.iv 28/\q.iv 28<=3)/\KC q (λq=>{jC q with at':=103}) Lr) (λi d=>⟨⟨b.v0,b.v1⟩,e.trans (wk (K:=Lr) rfl d.1 d.2)⟩) λq d=>?_)
    obtain ⟨h,e⟩:=d
    refine Sat.br (λa=>?_) (λa=>?_)
    all_goals simp only [Da] at a
    ·exact Sat.fin (bC (e.trans (if_pos a)) rfl rfl)
    ·replace e:=e.trans (if_neg (λz:q.bv 101=_=>by rw [a] at z;cases z))
     exact Sat.fin (bC (e) rfl rfl)
  ·refine Sat.br (λa4=>?_) (λa4=>?_)
   all_goals simp only [Da] at a4
   ·exact Sat.fin (bC (e.trans (aie a4)) rfl rfl)
   ·replace e:=e.trans (anv ⟨a1,g,a4⟩)
    refine a2 (Sat.dF (c:=jU) rfl ⟨⟨b.l0,b.l1⟩,b.t0,b.t1⟩ (λq=>(0<=q.iv 28/\q.iv 28<=3)/\KC q (jC) Lr) (λi d=>⟨⟨b.v0,b.v1⟩,e.trans (wk (K:=Lr) rfl d.1 d.2)⟩) λq d=>?_)
    obtain ⟨h,e⟩:=d
    refine Sat.br (λa=>?_) (λa=>?_)
    all_goals simp only [Da] at a
    ·exact Sat.fin (bC (e.trans (if_pos a)) rfl rfl)
    ·replace e:=e.trans (if_neg (λz:q.bv 101=_=>by rw [a] at z;cases z))
     exact Sat.fin (bC (e) rfl rfl)
structure oC (n:Int) (ρ:Env):Prop where
 c:tO ρ
 k:ρ.iv 19=6
 a:ρ.iv 0=n
 t:0<ρ.iv 22
 u:ρ.iv 22<=3
theorem oC.of {n:Int} (h:oC n ρ.num):oC n ρ:=⟨h.c.of,h.k,h.a,h.t,h.u⟩
theorem akx (a:oC 5 ρ.num):Sat gM jP [] ρ oI5:=by
 replace a:oC 5 ρ:=a.of
 obtain ⟨b,k6,s9,i,k⟩:=a
 have v0:=b.v0
 have e:=xg (j:=jC ρ) (x:=az ρ 54) k6 (by show ¬9<=ρ.iv 0;omega) (by show ρ.iv 0≠-1;omega)
 replace e:=e.trans (akk s9)
 unfold oI5
 refine a2 (Sat.dF (c:=jU) rfl ⟨⟨b.l0,b.l1⟩,b.t0,b.t1⟩ (λq=>(0<q.iv 22)/\KC q (jC) VK) (λl f=>⟨i,e.trans (wk (K:=VK) rfl f.1 f.2)⟩) λq f=>?_)
 obtain ⟨h,e⟩:=f
 refine Sat.br (λd=>?_) (λd=>?_)
 all_goals simp only [Da] at d
 ·exact Sat.fin (bC (e.trans (if_pos d)) rfl rfl)
 ·replace e:=e.trans (if_neg (λz:q.bv 101=_=>by rw [d] at z;cases z))
  refine Sat.br (λg=>?_) (λg=>?_)
  all_goals simp only [Da] at g
  ·exact Sat.fin (bC (e.trans (if_pos g)) rfl rfl)
  ·replace e:=e.trans (if_neg (show ¬(_≠(0:Int)) from λz=>z g))
   exact Sat.fin (bC (e.trans (Qz (P:=iq q 82 0) h rfl)) rfl rfl)
theorem aky (a:oC 6 ρ.num):Sat gM jP [] ρ oI6:=by
 replace a:oC 6 ρ:=a.of
 obtain ⟨b,k6,s9,d,c⟩:=a
 have v0:=b.v0
 have e:=xg (j:=jC ρ) (x:=az ρ 54) k6 (by show ¬9<=ρ.iv 0;omega) (by show ρ.iv 0≠-1;omega)
 unfold oI6
 exact Sat.fin (bC (e.trans (akh s9)) rfl rfl)
theorem akz (a:oC 8 ρ.num):Sat gM jP [] ρ oI8:=by
 replace a:oC 8 ρ:=a.of
 obtain ⟨h,k6,s9,i,k⟩:=a
 have v0:=h.v0
 have e:=xg (j:=jC ρ) (x:=az ρ 54) k6 (by show ¬9<=ρ.iv 0;omega) (by show ρ.iv 0≠-1;omega)
 replace e:=e.trans (aki s9)
 unfold oI8
 refine Sat.br (λb=>?_) (λb=>?_)
 all_goals simp only [Da] at b
 ·replace e:=e.trans (if_pos b)
  refine Sat.br (λd=>?_) (λd=>?_)
  all_goals simp only [Da] at d
  ·exact Sat.fin (bC (e.trans (if_pos d)) rfl rfl)
  ·exact Sat.fin (bC (e.trans (if_neg (show ¬(1:Int)>=ρ.iv 22 by omega))) rfl rfl)
 ·replace e:=e.trans (if_neg (λz:ρ.bv 59=_=>by rw [b] at z;cases z))
  refine a2 (Sat.dF (c:=jU) rfl ⟨⟨by show (0:Int)<=0;decide,by show (0:Int)<=2;decide⟩,by show -1000000000000<=(0:Int);decide,by show (0:Int)<=1000000000000;decide⟩ (λq=>(0<q.iv 22)/\KC q (λq=>{jC q with at':=5}) VK) (λl f=>⟨i,e.trans (wk (K:=VK) rfl f.1 f.2)⟩) λq f=>?_)
  obtain ⟨g,e⟩:=f
  refine Sat.br (λb=>?_) (λb=>?_)
  all_goals simp only [Da] at b
  ·exact Sat.fin (bC (e.trans (if_pos b)) rfl rfl)
  ·replace e:=e.trans (if_neg (λz:q.bv 101=_=>by rw [b] at z;cases z))
   refine Sat.br (λd=>?_) (λd=>?_)
   all_goals simp only [Da] at d
   ·exact Sat.fin (bC (e.trans (if_pos d)) rfl rfl)
   ·replace e:=e.trans (if_neg (show ¬(_≠(0:Int)) from λz=>z d))
    exact Sat.fin (bC (e.trans (Qz (P:=iq q 82 0) g rfl)) rfl rfl)
theorem akA (a:oC 7 ρ.num/\ρ.num.iv 28+1<ρ.num.iv 22):Sat gM jP [] ρ oI7:=by
 replace a:oC 7 ρ/\ρ.iv 28+1<ρ.iv 22:=⟨a.1.of,a.2⟩
 obtain ⟨⟨d,k6,s9,g,f⟩,b⟩:=a
 have v0:=d.v0
 have e:=xg (j:=jC ρ) (x:=az ρ 54) k6 (by show ¬9<=ρ.iv 0;omega) (by show ρ.iv 0≠-1;omega)
 have c:({jC ρ with level:=ρ.iv 28+1}:Jb).place (ρ.iv 28+1)=iq ρ 53 (ρ.iv 28+1).toNat:=Hw (v:=31) rfl ⟨by omega,by omega⟩
 replace e:=(e.trans (adm s9)).trans (Qz (j:={jC ρ with level:=ρ.iv 28+1}) b c)
 unfold oI7
 exact oS (oS (Sat.fin (bC e rfl rfl)))
theorem aih (a:oC 7 ρ.num/\¬ρ.num.iv 28+1<ρ.num.iv 22):Sat gM jP [] ρ aa6:=by
 replace a:oC 7 ρ/\¬ρ.iv 28+1<ρ.iv 22:=⟨a.1.of,a.2⟩
 obtain ⟨⟨b,k6,s9,g,d⟩,c⟩:=a
 have v0:=b.v0
 have f:=b.v1
 have tg:=b.tg 0 ⟨by decide,by decide⟩
 have e:=xg (j:=jC ρ) (x:=az ρ 54) k6 (by show ¬9<=ρ.iv 0;omega) (by show ρ.iv 0≠-1;omega)
 replace e:=(e.trans (adm s9)).trans (aif (j:={jC ρ with level:=ρ.iv 28+1}) c)
 unfold aa6
 exact oS (Sat.ob (by simp only [Da] at tg ⊢;omega) (Sat.fin (bC e rfl rfl)))
structure BG (ρ:Env):Prop where
 c:tO ρ
 k:ρ.iv 19=7
 a:ρ.iv 0<101
 b:ρ.iv 0≠0
 d:ρ.iv 0≠-1
theorem BG.of (h:BG ρ.num):BG ρ:=⟨h.c.of,h.k,h.a,h.b,h.d⟩
theorem akB (g:BG ρ.num):Sat gM jP [] ρ oC4:=by
 replace g:BG ρ:=g.of
 obtain ⟨b,m,p,o,r⟩:=g
 have u:=b.k0
 have s:=b.k1
 have t:=b.x0
 have w:=b.x1
 have v0:=b.v0
 have n:=b.v1
 have e:=Yv (j:=jC ρ) (x:=az ρ 54) m (by show ¬101<=ρ.iv 0;omega) r
 unfold oC4
 refine Sat.br (λc1=>?_) (λc1=>?_)
 all_goals simp only [Da] at c1
 ·replace e:=e.trans (akm c1)
  refine a2 (Sat.dF (c:=jU) rfl ⟨⟨b.l0,b.l1⟩,b.t0,b.t1⟩ (λq=>(0<=q.iv 28/\q.iv 28<=3)/\KC q (jC) ah9) (λl d=>⟨⟨v0,n⟩,e.trans (wk (K:=ah9) rfl d.1 d.2)⟩) λq d=>?_)
  obtain ⟨k,e⟩:=d
  refine Sat.br (λa=>?_) (λa=>?_)
  all_goals simp only [Da] at a
  ·exact Sat.fin (bC (e.trans (if_pos a)) rfl rfl)
  ·replace e:=e.trans (if_neg (λz:q.bv 101=_=>by rw [a] at z;cases z))
   refine Sat.br (λf=>?_) (λf=>?_)
   all_goals simp only [Da] at f
   ·exact Sat.fin (bC (e.trans (if_pos f)) rfl rfl)
   ·exact Sat.fin (bC (e.trans (if_neg f)) rfl rfl)
 ·refine Sat.br (λc2=>?_) (λc2=>?_)
  all_goals simp only [Da] at c2
  ·replace e:=e.trans (akn c2)
   refine Sat.br (λa=>?_) (λa=>?_)
   all_goals simp only [Da] at a
   ·rw [if_pos (show (az ρ 54).word.num<1\/(az ρ 54).word.num > 3 from a)] at e
    exact Sat.fin (bC (e) rfl rfl)
   ·rw [if_neg (show ¬((az ρ 54).word.num<1\/(az ρ 54).word.num > 3) by show ¬(ρ.iv 57<1\/ρ.iv 57 > 3);omega)] at e
    exact oS (Sat.fin (bC e rfl rfl))
  ·refine Sat.br (λc3=>?_) (λc3=>?_)
   all_goals simp only [Da] at c3
   ·exact oS (Sat.fin (bC (e.trans (ako c3)) rfl rfl))
   ·refine Sat.br (λc4=>?_) (λc4=>?_)
    all_goals simp only [Da] at c4
    ·replace e:=e.trans (akp c4)
     refine Sat.br (λa=>?_) (λa=>?_)
     all_goals simp only [Da] at a
     ·exact oS (oS (Sat.fin (bC (e.trans (if_pos a)) rfl rfl)))
     ·replace e:=e.trans (if_neg (λz:ρ.bv 58=_=>by rw [a] at z;cases z))
      refine Sat.br (λf=>?_) (λf=>?_)
      all_goals simp only [Da] at f
      ·exact Sat.fin (bC (e.trans (if_pos f)) rfl rfl)
      ·exact oS (oS (Sat.fin (bC (e.trans (if_neg f)) rfl rfl)))
    ·refine Sat.br (λh=>?_) (λh=>?_)
     all_goals simp only [Da] at h
     ·replace e:=e.trans (akq h)
      refine Sat.br (λa=>?_) (λa=>?_)
      all_goals simp only [Da] at a
      ·exact oS (Sat.fin (bC (e.trans (if_pos a)) rfl rfl))
      ·replace e:=e.trans (if_neg (λz:ρ.bv 59=_=>by rw [a] at z;cases z))
       refine Sat.br (λf=>?_) (λf=>?_)
       all_goals simp only [Da] at f
       ·exact oS (oS (Sat.fin (bC (e.trans (if_pos f)) rfl rfl)))
       ·replace e:=e.trans (if_neg (show ¬ρ.iv 28 > 0 by omega))
        refine oS ?_
        refine a2 (Sat.dF (c:=jU) rfl ⟨⟨by show (0:Int)<=0;decide,by show (0:Int)<=2;decide⟩,by show -1000000000000<=(0:Int);decide,by show (0:Int)<=1000000000000;decide⟩ (λq=>(0<=q.iv 28/\q.iv 28<=3)/\KC q (λq=>{jC q with at':=6}) VL) (λl d=>⟨⟨b.v0,b.v1⟩,e.trans (wk (K:=VL) rfl d.1 d.2)⟩) λq d=>?_)
        obtain ⟨k,e⟩:=d
        refine Sat.br (λa=>?_) (λa=>?_)
        all_goals simp only [Da] at a
        ·exact Sat.fin (bC (e.trans (if_pos a)) rfl rfl)
        ·replace e:=e.trans (if_neg (λz:q.bv 101=_=>by rw [a] at z;cases z))
         exact Sat.fin (bC (e) rfl rfl)
     ·refine Sat.br (λi=>?_) (λi=>?_)
      all_goals simp only [Da] at i
      ·replace e:=e.trans (akr i)
       refine a2 (Sat.dF (c:=jU) rfl ⟨⟨b.l0,b.l1⟩,b.t0,b.t1⟩ (λq=>(0<=q.iv 28/\q.iv 28<=3)/\KC q (jC) VL) (λl d=>⟨⟨b.v0,b.v1⟩,e.trans (wk (K:=VL) rfl d.1 d.2)⟩) λq d=>?_)
       obtain ⟨k,e⟩:=d
       refine Sat.br (λa=>?_) (λa=>?_)
       all_goals simp only [Da] at a
       ·exact Sat.fin (bC (e.trans (if_pos a)) rfl rfl)
       ·replace e:=e.trans (if_neg (λz:q.bv 101=_=>by rw [a] at z;cases z))
        exact Sat.fin (bC (e) rfl rfl)
      ·exact Sat.fin (bC (e.trans (aks ⟨o,c1,c2,c3,c4,h,i⟩)) rfl rfl)
structure BH (ρ:Env):Prop where
 c:tO ρ
 k:ρ.iv 19≠6
 l:ρ.iv 19≠7
 a:ρ.iv 0<101
 b:ρ.iv 0≠0
 d:ρ.iv 0≠-1
theorem BH.of (h:BH ρ.num):BH ρ:=⟨h.c.of,h.k,h.l,h.a,h.b,h.d⟩
theorem akC (a:BH ρ.num):Sat gM jP [] ρ oC5:=by
 replace a:BH ρ:=a.of
 obtain ⟨b,k6,h,l,k,m⟩:=a
 have v0:=b.v0
 have i:=b.v1
 have e:=Yw (j:=jC ρ) (x:=az ρ 54) ⟨k6,h⟩ (by show ¬101<=ρ.iv 0;omega) m
 unfold oC5
 refine Sat.br (λc1=>?_) (λc1=>?_)
 all_goals simp only [Da] at c1
 ·replace e:=e.trans (aku c1)
  refine a2 (Sat.dF (c:=jU) rfl ⟨⟨b.l0,b.l1⟩,b.t0,b.t1⟩ (λq=>(0<=q.iv 28/\q.iv 28<=3)/\KC q (jC) aia) (λo f=>⟨⟨v0,i⟩,e.trans (wk (K:=aia) rfl f.1 f.2)⟩) λq f=>?_)
  obtain ⟨n,e⟩:=f
  refine Sat.br (λd=>?_) (λd=>?_)
  all_goals simp only [Da] at d
  ·exact Sat.fin (bC (e.trans (if_pos d)) rfl rfl)
  ·replace e:=e.trans (if_neg (λz:q.bv 101=_=>by rw [d] at z;cases z))
   refine Sat.br (λg=>?_) (λg=>?_)
   all_goals simp only [Da] at g
   ·exact Sat.fin (bC (e.trans (if_pos g)) rfl rfl)
   ·exact Sat.fin (bC (e.trans (if_neg g)) rfl rfl)
 ·refine Sat.br (λc2=>?_) (λc2=>?_)
  all_goals simp only [Da] at c2
  ·exact Sat.fin (bC (e.trans (akv c2)) rfl rfl)
  ·exact Sat.fin (bC (e.trans (akw ⟨k,c1,c2⟩)) rfl rfl)
end
theorem akD:aK Tryz.prog aL (BF) gM :=
 bq bM (E:=oH) (cs:=jP) rfl lV aO rfl aj6 (by kernel_rfl) (λa h p b=>by
   replace h:BF a:=h.of
   have c:=h.a
   simp only [ahF,List.mem_cons,List.not_mem_nil,or_false] at b
   rcases b with rfl | rfl
   · exact beq_eq_false_iff_ne.2 (show a.iv 0≠-1 by omega)
   · exact decide_eq_true c) λa h=>anw h
theorem akE:aK Tryz.prog aL (oC 5) gM :=
 bq bM (E:=oH) (cs:=jP) rfl lV aO rfl aj7 (by kernel_rfl) (λa h p b=>by
   have g:=h.of
   have e:=g.k
   have f:=g.a
   have c:=g.t
   have d:=g.c.v0
   have i:=g.u
   simp only [ahQ,List.mem_cons,List.not_mem_nil,or_false] at b
   rcases b with rfl | rfl | rfl
   · exact beq_iff_eq.2 (show a.iv 19=6 by omega)
   · exact beq_iff_eq.2 (show a.iv 0=5 by omega)
   · exact decide_eq_true c) λa h=>akx h
theorem akF:aK Tryz.prog aL (oC 6) gM :=
 bq bM (E:=oH) (cs:=jP) rfl lV aO rfl aj8 (by kernel_rfl) (λa h p b=>by
   have g:=h.of
   have d:=g.k
   have f:=g.a
   have e:=g.t
   have c:=g.c.v0
   have i:=g.u
   simp only [ahS,List.mem_cons,List.not_mem_nil,or_false] at b
   rcases b with rfl | rfl
   · exact beq_iff_eq.2 (show a.iv 19=6 by omega)
   · exact beq_iff_eq.2 (show a.iv 0=6 by omega)) λa h=>aky h
theorem akG:aK Tryz.prog aL (oC 8) gM :=
 bq bM (E:=oH) (cs:=jP) rfl lV aO rfl aka (by kernel_rfl) (λa h p b=>by
   have g:=h.of
   have e:=g.k
   have f:=g.a
   have c:=g.t
   have d:=g.c.v0
   have i:=g.u
   simp only [ahX,List.mem_cons,List.not_mem_nil,or_false] at b
   rcases b with rfl | rfl | rfl
   · exact beq_iff_eq.2 (show a.iv 19=6 by omega)
   · exact beq_iff_eq.2 (show a.iv 0=8 by omega)
   · exact decide_eq_true c) λa h=>akz h
theorem akH:aK Tryz.prog aL (λρ=>oC 7 ρ/\ρ.iv 28+1<ρ.iv 22) gM :=
 bq bM (E:=oH) (cs:=jP) rfl lV aO rfl aj9 (by kernel_rfl) (λρ h p a=>by
   have g:=h.1.of
   have d:=g.k
   have f:=g.a
   have e:=g.t
   have c:=g.c.v0
   have i:=g.u
   have b:ρ.iv 28+1<ρ.iv 22:=h.2
   simp only [ahU,List.mem_cons,List.not_mem_nil,or_false] at a
   rcases a with rfl | rfl | rfl | rfl | rfl | rfl | rfl
   · exact beq_iff_eq.2 (show ρ.iv 19=6 by omega)
   · exact beq_iff_eq.2 (show ρ.iv 0=7 by omega)
   · exact decide_eq_false (show ¬ρ.iv 28+1<(0:Int) by omega)
   · exact decide_eq_false (show ¬(3:Int)<=ρ.iv 28+1 by omega)
   · exact decide_eq_true (show (0:Int)<=ρ.iv 28+1 by omega)
   · exact decide_eq_true (show ρ.iv 28+1<(3:Int) by omega)
   · exact decide_eq_true b) λρ h=>akA h
theorem aii:aK Tryz.prog aL (λρ=>oC 7 ρ/\¬ρ.iv 28+1<ρ.iv 22) gM :=
 bq bM (E:=oH) (cs:=jP) rfl lV aO rfl ahW (by kernel_rfl) (λρ h p a=>by
   have g:=h.1.of
   have d:=g.k
   have f:=g.a
   have e:=g.t
   have c:=g.c.v0
   have i:=g.u
   have b:¬ρ.iv 28+1<ρ.iv 22:=h.2
   simp only [adk,List.mem_cons,List.not_mem_nil,or_false] at a
   rcases a with rfl | rfl | rfl
   · exact beq_iff_eq.2 (show ρ.iv 19=6 by omega)
   · exact beq_iff_eq.2 (show ρ.iv 0=7 by omega)
   · exact decide_eq_false b) λρ h=>aih h
theorem akI:aK Tryz.prog aL (BG) gM :=
 bq bM (E:=oH) (cs:=jP) rfl lV aO rfl akb (by kernel_rfl) (λa h p b=>by
   replace h:BG a:=h.of
   have d:=h.k
   have f:=h.a
   have e:=h.b
   have c:=h.d
   simp only [ahZ,List.mem_cons,List.not_mem_nil,or_false] at b
   rcases b with rfl | rfl | rfl | rfl | rfl
   · exact beq_eq_false_iff_ne.2 (show a.iv 0≠-1 by omega)
   · exact beq_eq_false_iff_ne.2 (show a.iv 19≠6 by omega)
   · exact beq_iff_eq.2 (show a.iv 19=7 by omega)
   · exact decide_eq_false (show ¬(101:Int)<=a.iv 0 by omega)
   · exact beq_eq_false_iff_ne.2 (show a.iv 0≠0 by omega)) λa h=>akB h
theorem akJ:aK Tryz.prog aL (BH) gM :=
 bq bM (E:=oH) (cs:=jP) rfl lV aO rfl akc (by kernel_rfl) (λa h p b=>by
   replace h:BH a:=h.of
   have e:=h.a
   have d:=h.b
   have c:=h.d
   simp only [ah7,List.mem_cons,List.not_mem_nil,or_false] at b
   rcases b with rfl | rfl | rfl | rfl | rfl
   · exact beq_eq_false_iff_ne.2 (show a.iv 0≠-1 by omega)
   · exact beq_eq_false_iff_ne.2 h.k
   · exact beq_eq_false_iff_ne.2 h.l
   · exact decide_eq_false (show ¬(101:Int)<=a.iv 0 by omega)
   · exact beq_eq_false_iff_ne.2 (show a.iv 0≠0 by omega)) λa h=>akC h
noncomputable def jaE:Ex:={sched:=sched,loops:=[],cons:=[],fin:=r9,OU:=true}
noncomputable def Tt:Ex:={sched:=sched,loops:=[],cons:=[],fin:=gP,OU:=true}
def knA:Kn:=[(.ag (.var 19) (.lit 6),true),(.ag (.var 0) (.lit 4),false),(.ag (.var 0) (.lit 5),false),(.ag (.var 0) (.lit 7),false),(.ag (.var 0) (.lit 8),false),(.ag (.var 0) (.lit 6),false),(.ah (.lit 9) (.var 0),false),(.ah (.lit 101) (.var 0),false),(.ag (.var 0) (.lit (-1)),false)]
abbrev abb:List (Nat × BE):=[(64,(.var 27)),(51,(.var 14)),(46,(.var 9)),(81,(.lit false)),(76,(.lit false))]
abbrev abd:List (Nat × BE):=yP [(89,1),(83,1),(76,1),(104,1),(99,1)]<|yE 37 yK7
abbrev abe:List (Nat × CV):=[(90,.ex [.int .i64 (.lit 2),y2,y2,y2,y2,y2,y2,y2,y2,y3,y2,y2,y2,y2,y3,y2,y2,y2,y2,y2,y2,.int .i64 (.lit 2),y2,y2,y2,y2,y3,.int .i64 (.var 20),.int .i64 (.lit 2),y2,y2,y2,y2,y3,y2,y2,y2,y2,y2,y2,y2,y2,y3,y2,y2,y2,y2,y2,y2,y2,y3,y2,y2,y2,y2,y2,y2,y2,y3,y2,y2,y2,y2,y3] 8 0 35)]
abbrev aij:List (Nat × IE):=yO [(88,5),(82,4),(75,4),(70,2),(108,3),(103,4),(98,4),(93,2)]<|yU [(78,.lit 2),(77,yv 20),(71,.lit 2),(68,.lit 2),(37,.lit 1),(105,.add (.mul (.lit 3) (.lit 2)) y1),(94,.lit 2),(91,.lit 6)]<|yD 37 yK6
def oA:Out :=
 .br (.ag (.var 0) y0)
 (.fin {lo:=37,ae:=1,iv:=yO [(85,4),(80,4),(75,7)]<|yU [(37,.lit 1),(68,.lit 8)]<|yD 37 SN,bv:=abb})
 (.br (.ag (.var 0) y1)
  (.br (.not (.var 36))
   (.fin {lo:=37,ae:=1,iv:=yO [(55,1),(53,2),(50,4),(45,7),(85,1),(83,2),(80,4),(75,7)]<|yU [(54,.lit 4),(38,.lit 12),(37,.lit (-1)),(84,.lit 4),(68,.lit 12)]<|yD 37 SN,bv:=[(64,(.var 27)),(51,(.lit false)),(46,(.lit false)),(81,(.lit false)),(76,(.lit false))]})
   (.fin {lo:=37,ae:=1,iv:=yO [(85,4),(79,3),(75,5)]<|yU (yr 63 34 4<|[(37,.lit 2),(80,yv 20),(70,yv 32),(69,yv 31),(68,.lit 4)])<|yD 37 SN,bv:=[(64,(.var 35)),(51,(.var 14)),(46,(.var 9)),(81,(.lit false)),(76,(.lit false))]}))
  (.br (.ag (.var 0) (.lit 2))
   (.fin {lo:=37,ae:=1,iv:=yO [(85,4),(79,3),(75,4)]<|yU [(37,.lit 3),(80,yv 21),(71,.lit 1),(70,yv 24),(69,yv 23),(68,.lit 4)]<|yD 37 SN,bv:=abb})
   (.br (.ag (.var 0) (.lit 3))
    (.fin {lo:=37,ae:=1,iv:=yO [(85,4),(79,3),(75,4)]<|yU [(37,.lit 4),(80,yv 22),(71,.lit 6),(70,yv 24),(69,yv 23),(68,.lit 4)]<|yD 37 SN,bv:=abb})
    (.fin {lo:=37,ae:=1,iv:=yU (yr 85 18 4<|yr 80 13 4<|yr 75 8 8<|[])<|yD 37 SN,bv:=[(64,(.var 27)),(51,(.var 14)),(46,(.var 9)),(81,(.var 14)),(76,(.var 9))]}))))
theorem anz:exec tab jaE 8000 [] (bZ r9.f r9.nv knA r9.gl r9.hp r9.args)=oA:=by kernel_rfl
def aik:Kn:=[(.ag (.var 19) (.lit 6),true),(.ag (.var 0) (.lit 4),true)]
def oB6:Out :=
 (λA:Out=>(.alt A A)) <|
 .ob (.inr .i64 (.mul (.lit 3) (.lit 2))) <|
 .ob (.inr .i64 (.add (.mul (.lit 3) (.lit 2)) y1)) <|
 .fin {lo:=37,ae:=1,iv:=yO [(88,5),(82,4),(75,4),(70,2),(108,3),(103,4),(98,4),(93,2)]<|yU [(78,.lit 2),(77,yv 20),(71,.lit 2),(68,.lit 2),(37,.lit 5),(105,.add (.mul (.lit 3) (.lit 2)) y1),(94,.lit 2),(91,.lit 6)]<|yD 37 yK6,bv:=abd,ct:=abe,bk:=[(1,{ak:=5})]}
theorem akK:exec tab Tt 8000 [] (bZ gP.f gP.nv aik gP.gl gP.hp gP.args)=oB6:=by kernel_rfl
def aim:Kn:=[(.ag (.var 19) (.lit 6),false),(.ag (.var 19) (.lit 7),true),(.ag (.var 0) (.lit 0),true)]
def oB7:Out :=
 (λA:Out=>(.alt A A)) <|
 .ob (.inr .i64 (.mul (.lit 3) (.lit 2))) <|
 .ob (.inr .i64 (.add (.mul (.lit 3) (.lit 2)) y1)) <|
 .fin {lo:=37,ae:=1,iv:=aij,bv:=abd,ct:=abe,bk:=[(1,{ak:=5})]}
theorem akL:exec tab Tt 8000 [] (bZ gP.f gP.nv aim gP.gl gP.hp gP.args)=oB7:=by kernel_rfl
def aio:Kn:=[(.ag (.var 19) (.lit 6),false),(.ag (.var 19) (.lit 7),false),(.ag (.var 0) (.lit 0),true)]
def oB8:Out :=
 (λA:Out=>(.alt A A)) <|
 .ob (.inr .i64 (.mul (.lit 3) (.lit 2))) <|
 .ob (.inr .i64 (.add (.mul (.lit 3) (.lit 2)) y1)) <|
 .fin {lo:=37,ae:=1,iv:=aij,bv:=abd,ct:=abe,bk:=[(1,{ak:=5})]}
theorem akM:exec tab Tt 8000 [] (bZ gP.f gP.nv aio gP.gl gP.hp gP.args)=oB8:=by kernel_rfl
def jA (q:Env):Jb:=mD q 0 none
def NV (ρ:Env):Prop:=mD ρ 37 none=((jA ρ).next (az ρ 31)).1/\fe ρ 68=((jA ρ).next (az ρ 31)).2
def vF (ρ:Env):Prop:=mD ρ 37 (some (cZ ρ 68))=((jA ρ).next (az ρ 31)).1/\fe ρ 91=((jA ρ).next (az ρ 31)).2
theorem Em {q:Env} {Q:Jb × Ca} (a:(jA q).next (az q 31)=Q) (c:mD q 37 none=Q.1) (b:fe q 68=Q.2):NV q:=by
 unfold NV
 rw [a]
 exact ⟨c,b⟩
theorem QA {q:Env} {Q:Jb × Ca} (a:(jA q).next (az q 31)=Q) (c:mD q 37 (some (cZ q 68))=Q.1) (b:fe q 91=Q.2):vF q:=by
 unfold vF
 rw [a]
 exact ⟨c,b⟩
theorem Ls {j:Jb} {s b:Int} {x:Rp} {K:Jb->Jb × Ca}:(j.gq s b).walk x K=({j.gq s b with cl:=some {Cm.new b with at':=2,pv:=Ad.root 2,level:=2}},o9 (Ad.root 2) 7):=rfl
structure Hy (ρ:Env):Prop where
 k:ρ.iv 19=6
 a:0<=ρ.iv 0
 b:ρ.iv 0<=3
theorem Hy.of {ρ:Env} (h:Hy ρ.num):Hy ρ:=⟨h.k,h.a,h.b⟩
section
variable {ρ:Env}
theorem anA (a:Hy ρ.num):Sat NV [] [] ρ oA:=by
 replace a:Hy ρ:=a.of
 obtain ⟨k6,f,d⟩:=a
 have e:=xg (j:=jA ρ) (x:=az ρ 31) k6 (by show ¬9<=ρ.iv 0;omega) (by show ρ.iv 0≠-1;omega)
 unfold oA
 refine Sat.br (λc=>?_) (λc=>?_)
 all_goals simp only [Da] at c
 ·exact Sat.fin (Em (e.trans (akd c)) rfl rfl)
 refine Sat.br (λc1=>?_) (λc1=>?_)
 all_goals simp only [Da] at c1
 ·replace e:=e.trans (ake c1)
  refine Sat.br (λb=>?_) (λb=>?_)
  all_goals simp only [Da] at b
  ·exact Sat.fin (Em (e.trans (if_pos b)) rfl rfl)
  ·exact Sat.fin (Em (e.trans (if_neg (λz:ρ.bv 36=_=>by rw [b] at z;cases z))) rfl rfl)
 refine Sat.br (λc2=>?_) (λc2=>?_)
 all_goals simp only [Da] at c2
 ·exact Sat.fin (Em (e.trans (akf c2)) rfl rfl)
 refine Sat.br (λc3=>?_) (λc3=>?_)
 all_goals simp only [Da] at c3
 ·exact Sat.fin (Em (e.trans (akg c3)) rfl rfl)
 ·omega
theorem akN (a:ρ.num.iv 19=6/\ρ.num.iv 0=4):Sat vF [] [] ρ oB6:=by
 have b:ρ.iv 19=6:=a.1
 have c:ρ.iv 0=4:=a.2
 have e:=((xg (j:=jA ρ) (x:=az ρ 31) b (by show ¬9<=ρ.iv 0;omega) (by show ρ.iv 0≠-1;omega)).trans (akj c)).trans Ls
 unfold oB6
 exact a2 (oS (oS (Sat.fin (QA e rfl rfl))))
theorem akO (a:ρ.num.iv 19=7/\ρ.num.iv 0=0):Sat vF [] [] ρ oB7:=by
 have b:ρ.iv 19=7:=a.1
 have c:ρ.iv 0=0:=a.2
 have e:=((Yv (j:=jA ρ) (x:=az ρ 31) b (by show ¬101<=ρ.iv 0;omega) (by show ρ.iv 0≠-1;omega)).trans (akl c)).trans Ls
 unfold oB7
 exact a2 (oS (oS (Sat.fin (QA e rfl rfl))))
theorem akP (a:(ρ.num.iv 19≠6/\ρ.num.iv 19≠7)/\ρ.num.iv 0=0):Sat vF [] [] ρ oB8:=by
 have b:(ρ.iv 19≠6/\ρ.iv 19≠7):=a.1
 have c:ρ.iv 0=0:=a.2
 have e:=((Yw (j:=jA ρ) (x:=az ρ 31) b (by show ¬101<=ρ.iv 0;omega) (by show ρ.iv 0≠-1;omega)).trans (akt c)).trans Ls
 unfold oB8
 exact a2 (oS (oS (Sat.fin (QA e rfl rfl))))
end
theorem anB:aK Tryz.prog r9 (Hy) NV :=
 bq bM (E:=jaE) (cs:=[]) rfl (λk pre post h=>by cases h) aO rfl anz (by kernel_rfl) (λa h p b=>by
   replace h:Hy a:=h.of
   have c:=h.k
   have e:=h.a
   have d:=h.b
   simp only [knA,List.mem_cons,List.not_mem_nil,or_false] at b
   rcases b with rfl | rfl | rfl | rfl | rfl | rfl | rfl | rfl | rfl
   · exact beq_iff_eq.2 (show a.iv 19=6 by omega)
   · exact beq_eq_false_iff_ne.2 (show a.iv 0≠4 by omega)
   · exact beq_eq_false_iff_ne.2 (show a.iv 0≠5 by omega)
   · exact beq_eq_false_iff_ne.2 (show a.iv 0≠7 by omega)
   · exact beq_eq_false_iff_ne.2 (show a.iv 0≠8 by omega)
   · exact beq_eq_false_iff_ne.2 (show a.iv 0≠6 by omega)
   · exact decide_eq_false (show ¬(9:Int)<=a.iv 0 by omega)
   · exact decide_eq_false (show ¬(101:Int)<=a.iv 0 by omega)
   · exact beq_eq_false_iff_ne.2 (show a.iv 0≠-1 by omega)) λa h=>anA h
theorem akQ:aK Tryz.prog gP (λρ=>ρ.iv 19=6/\ρ.iv 0=4) vF :=
 bq bM (E:=Tt) (cs:=[]) rfl (λk pre post h=>by cases h) aO rfl akK (by kernel_rfl) (λρ h p a=>by
   have b:ρ.iv 19=6:=h.1
   have c:ρ.iv 0=4:=h.2
   simp only [aik,List.mem_cons,List.not_mem_nil,or_false] at a
   rcases a with rfl | rfl
   · exact beq_iff_eq.2 (show ρ.iv 19=6 by omega)
   · exact beq_iff_eq.2 (show ρ.iv 0=4 by omega)) λρ h=>akN h
theorem akR:aK Tryz.prog gP (λρ=>ρ.iv 19=7/\ρ.iv 0=0) vF :=
 bq bM (E:=Tt) (cs:=[]) rfl (λk pre post h=>by cases h) aO rfl akL (by kernel_rfl) (λρ h p a=>by
   have b:ρ.iv 19=7:=h.1
   have c:ρ.iv 0=0:=h.2
   simp only [aim,List.mem_cons,List.not_mem_nil,or_false] at a
   rcases a with rfl | rfl | rfl
   · exact beq_eq_false_iff_ne.2 (show ρ.iv 19≠6 by omega)
   · exact beq_iff_eq.2 (show ρ.iv 19=7 by omega)
   · exact beq_iff_eq.2 (show ρ.iv 0=0 by omega)) λρ h=>akO h
theorem akS:aK Tryz.prog gP (λρ=>(ρ.iv 19≠6/\ρ.iv 19≠7)/\ρ.iv 0=0) vF :=
 bq bM (E:=Tt) (cs:=[]) rfl (λk pre post h=>by cases h) aO rfl akM (by kernel_rfl) (λρ h p a=>by
   have b:(ρ.iv 19≠6/\ρ.iv 19≠7):=h.1
   have c:ρ.iv 0=0:=h.2
   simp only [aio,List.mem_cons,List.not_mem_nil,or_false] at a
   rcases a with rfl | rfl | rfl
   · exact beq_eq_false_iff_ne.2 h.1.1
   · exact beq_eq_false_iff_ne.2 h.1.2
   · exact beq_iff_eq.2 (show ρ.iv 0=0 by omega)) λρ h=>akP h
noncomputable def Tu:Ex:={sched:=sched,loops:=[],cons:=[],fin:=dL}
noncomputable def Cu:Ex:={sched:=sched,loops:=[],cons:=[],fin:=bW}
def nN (ρ:Env):Prop:=mD ρ 4 none=Jb.new (yM ρ 0)
theorem gG {P:Program} {k:dJ} {d e post:Env->Prop} (g:aK P k d post) (h:aK P k e post):aK P k (λρ=>d ρ\/e ρ) post :=
 ⟨g.fn,λρ f w a b c=>c.elim (g.run ρ f w a b) (h.run ρ f w a b)⟩
theorem Fu {P:Program} {k:dJ} {pre d post:Env->Prop} (e:aK P k d post) (h:∀ρ,pre ρ->d ρ):aK P k pre post :=
 ⟨e.fn,λρ f w a b c=>e.run ρ f w a b (h _ c)⟩
def aiq:Kn:=[(.or (.aY (.var 1) (.lit 0)) (.aY (.lit 255) (.var 1)),false),(.ag (.var 0) (.lit 6),true),(.and (.and (.and (.ah (.lit 0) (.var 2)) (.ah (.var 2) (.lit 1073741824))) (.ah (.lit 0) (.var 3))) (.ah (.var 3) (.lit 3)),true),(.aY (.var 3) (.lit 1),false)]
def oS6:Out:=.fin {lo:=4,ae:=0,iv:=[(34,(.lit 0)),(33,(.lit 0)),(32,(.lit 0)),(30,(.lit 0)),(29,(.lit 0)),(28,(.lit 0)),(27,(.lit 0)),(26,(.var 3)),(25,(.var 2)),(24,(.var 1)),(23,(.var 0)),(22,(.lit 0)),(21,(.lit 0)),(20,(.lit 0)),(19,(.lit 0)),(17,(.lit 0)),(16,(.lit 0)),(15,(.lit 0)),(14,(.lit 0)),(12,(.lit 0)),(11,(.lit 0)),(10,(.lit 0)),(9,(.lit 0)),(8,(.lit 0)),(7,(.lit 0)),(6,(.lit 0)),(5,(.lit 0)),(4,(.lit 0))],bv:=[(31,(.lit false)),(18,(.lit false)),(13,(.lit false))],bk:=[(0,{ak:=2})]}
theorem akT:exec tab Tu 8000 [] (bZ dL.f dL.nv aiq dL.gl dL.hp dL.args)=oS6:=by kernel_rfl
theorem akU:aK Tryz.prog dL (λρ=>(0<=ρ.iv 1/\ρ.iv 1<=255)/\ρ.iv 0=6/\(0<=ρ.iv 2/\ρ.iv 2<=1073741824/\0<=ρ.iv 3/\ρ.iv 3<=3)/\¬ρ.iv 3<1) nN :=
 bq bM (E:=Tu) (cs:=[]) rfl (λk pre post h=>by cases h) aO rfl akT (by kernel_rfl) (λρ h p a=>by
   have h:(0<=ρ.num.iv 1/\ρ.num.iv 1<=255)/\ρ.num.iv 0=6/\(0<=ρ.num.iv 2/\ρ.num.iv 2<=1073741824/\0<=ρ.num.iv 3/\ρ.num.iv 3<=3)/\¬ρ.num.iv 3<1:=h
   simp only [aiq,List.mem_cons,List.not_mem_nil,or_false] at a
   rcases a with rfl | rfl | rfl | rfl
   all_goals
     simp only [Da]
     omega) λρ h=>Sat.fin (show nN _ from rfl)
def air:Kn:=[(.or (.aY (.var 1) (.lit 0)) (.aY (.lit 255) (.var 1)),false),(.ag (.var 0) (.lit 6),false),(.ag (.var 0) (.lit 7),true),(.and (.ag (.var 2) (.lit 0)) (.ag (.var 3) (.lit 0)),true)]
def oS7:Out:=.fin {lo:=4,ae:=0,iv:=[(34,(.lit 0)),(33,(.lit 0)),(32,(.lit 0)),(30,(.lit 0)),(29,(.lit 0)),(28,(.lit 0)),(27,(.lit 0)),(26,(.var 3)),(25,(.var 2)),(24,(.var 1)),(23,(.var 0)),(22,(.lit 0)),(21,(.lit 0)),(20,(.lit 0)),(19,(.lit 0)),(17,(.lit 0)),(16,(.lit 0)),(15,(.lit 0)),(14,(.lit 0)),(12,(.lit 0)),(11,(.lit 0)),(10,(.lit 0)),(9,(.lit 0)),(8,(.lit 0)),(7,(.lit 0)),(6,(.lit 0)),(5,(.lit 0)),(4,(.lit 0))],bv:=[(31,(.lit false)),(18,(.lit false)),(13,(.lit false))],bk:=[(0,{ak:=2})]}
theorem akV:exec tab Tu 8000 [] (bZ dL.f dL.nv air dL.gl dL.hp dL.args)=oS7:=by kernel_rfl
theorem akW:aK Tryz.prog dL (λρ=>(0<=ρ.iv 1/\ρ.iv 1<=255)/\¬ρ.iv 0=6/\ρ.iv 0=7/\(ρ.iv 2=0/\ρ.iv 3=0)) nN :=
 bq bM (E:=Tu) (cs:=[]) rfl (λk pre post h=>by cases h) aO rfl akV (by kernel_rfl) (λρ h p a=>by
   have h:(0<=ρ.num.iv 1/\ρ.num.iv 1<=255)/\¬ρ.num.iv 0=6/\ρ.num.iv 0=7/\(ρ.num.iv 2=0/\ρ.num.iv 3=0):=h
   simp only [air,List.mem_cons,List.not_mem_nil,or_false] at a
   rcases a with rfl | rfl | rfl | rfl
   all_goals
     simp only [Da]
     omega) λρ h=>Sat.fin (show nN _ from rfl)
def ais:Kn:=[(.or (.aY (.var 1) (.lit 0)) (.aY (.lit 255) (.var 1)),false),(.ag (.var 0) (.lit 6),false),(.ag (.var 0) (.lit 7),false),(.ag (.var 0) (.lit 8),true),(.and (.ag (.var 2) (.lit 0)) (.ag (.var 3) (.lit 0)),true)]
def oS8:Out:=.fin {lo:=4,ae:=0,iv:=[(34,(.lit 0)),(33,(.lit 0)),(32,(.lit 0)),(30,(.lit 0)),(29,(.lit 0)),(28,(.lit 0)),(27,(.lit 0)),(26,(.var 3)),(25,(.var 2)),(24,(.var 1)),(23,(.var 0)),(22,(.lit 0)),(21,(.lit 0)),(20,(.lit 0)),(19,(.lit 0)),(17,(.lit 0)),(16,(.lit 0)),(15,(.lit 0)),(14,(.lit 0)),(12,(.lit 0)),(11,(.lit 0)),(10,(.lit 0)),(9,(.lit 0)),(8,(.lit 0)),(7,(.lit 0)),(6,(.lit 0)),(5,(.lit 0)),(4,(.lit 0))],bv:=[(31,(.lit false)),(18,(.lit false)),(13,(.lit false))],bk:=[(0,{ak:=2})]}
theorem akX:exec tab Tu 8000 [] (bZ dL.f dL.nv ais dL.gl dL.hp dL.args)=oS8:=by kernel_rfl
theorem akY:aK Tryz.prog dL (λρ=>(0<=ρ.iv 1/\ρ.iv 1<=255)/\¬ρ.iv 0=6/\¬ρ.iv 0=7/\ρ.iv 0=8/\(ρ.iv 2=0/\ρ.iv 3=0)) nN :=
 bq bM (E:=Tu) (cs:=[]) rfl (λk pre post h=>by cases h) aO rfl akX (by kernel_rfl) (λρ h p a=>by
   have h:(0<=ρ.num.iv 1/\ρ.num.iv 1<=255)/\¬ρ.num.iv 0=6/\¬ρ.num.iv 0=7/\ρ.num.iv 0=8/\(ρ.num.iv 2=0/\ρ.num.iv 3=0):=h
   simp only [ais,List.mem_cons,List.not_mem_nil,or_false] at a
   rcases a with rfl | rfl | rfl | rfl | rfl
   all_goals
     simp only [Da]
     omega) λρ h=>Sat.fin (show nN _ from rfl)
def ait:Kn:=[(.or (.aY (.var 1) (.lit 0)) (.aY (.lit 255) (.var 1)),true)]
def oN1:Out:=.fin {lo:=4,ae:=2,bk:=[(2,{ak:=4})]}
theorem akZ:exec tab Cu 8000 [] (bZ bW.f bW.nv ait bW.gl bW.hp bW.args)=oN1:=by kernel_rfl
theorem ak0:aK Tryz.prog bW (λρ=>¬(0<=ρ.iv 1/\ρ.iv 1<=255)) gU :=
 bq bM (E:=Cu) (cs:=[]) rfl (λk pre post h=>by cases h) aO rfl akZ (by kernel_rfl) (λρ h p a=>by
   have h:¬(0<=ρ.num.iv 1/\ρ.num.iv 1<=255):=h
   simp only [ait,List.mem_cons,List.not_mem_nil,or_false] at a
   rcases a with rfl
   all_goals
     simp only [Da]
     omega) λρ h=>Sat.fin (show gU _ from trivial)
def aiu:Kn:=[(.or (.aY (.var 1) (.lit 0)) (.aY (.lit 255) (.var 1)),false),(.ag (.var 0) (.lit 6),true),(.and (.and (.and (.ah (.lit 0) (.var 2)) (.ah (.var 2) (.lit 1073741824))) (.ah (.lit 0) (.var 3))) (.ah (.var 3) (.lit 3)),false)]
def oN2:Out:=.fin {lo:=4,ae:=2,bk:=[(2,{ak:=4})]}
theorem ak1:exec tab Cu 8000 [] (bZ bW.f bW.nv aiu bW.gl bW.hp bW.args)=oN2:=by kernel_rfl
theorem ak2:aK Tryz.prog bW (λρ=>(0<=ρ.iv 1/\ρ.iv 1<=255)/\ρ.iv 0=6/\¬(0<=ρ.iv 2/\ρ.iv 2<=1073741824/\0<=ρ.iv 3/\ρ.iv 3<=3)) gU :=
 bq bM (E:=Cu) (cs:=[]) rfl (λk pre post h=>by cases h) aO rfl ak1 (by kernel_rfl) (λρ h p a=>by
   have h:(0<=ρ.num.iv 1/\ρ.num.iv 1<=255)/\ρ.num.iv 0=6/\¬(0<=ρ.num.iv 2/\ρ.num.iv 2<=1073741824/\0<=ρ.num.iv 3/\ρ.num.iv 3<=3):=h
   simp only [aiu,List.mem_cons,List.not_mem_nil,or_false] at a
   rcases a with rfl | rfl | rfl
   all_goals
     simp only [Da]
     omega) λρ h=>Sat.fin (show gU _ from trivial)
def aiv:Kn:=[(.or (.aY (.var 1) (.lit 0)) (.aY (.lit 255) (.var 1)),false),(.ag (.var 0) (.lit 6),true),(.and (.and (.and (.ah (.lit 0) (.var 2)) (.ah (.var 2) (.lit 1073741824))) (.ah (.lit 0) (.var 3))) (.ah (.var 3) (.lit 3)),true),(.aY (.var 3) (.lit 1),true)]
def oN3:Out:=.fin {lo:=4,ae:=2,bk:=[(2,{ak:=4})]}
theorem ak3:exec tab Cu 8000 [] (bZ bW.f bW.nv aiv bW.gl bW.hp bW.args)=oN3:=by kernel_rfl
theorem ak4:aK Tryz.prog bW (λρ=>(0<=ρ.iv 1/\ρ.iv 1<=255)/\ρ.iv 0=6/\(0<=ρ.iv 2/\ρ.iv 2<=1073741824/\0<=ρ.iv 3/\ρ.iv 3<=3)/\ρ.iv 3<1) gU :=
 bq bM (E:=Cu) (cs:=[]) rfl (λk pre post h=>by cases h) aO rfl ak3 (by kernel_rfl) (λρ h p a=>by
   have h:(0<=ρ.num.iv 1/\ρ.num.iv 1<=255)/\ρ.num.iv 0=6/\(0<=ρ.num.iv 2/\ρ.num.iv 2<=1073741824/\0<=ρ.num.iv 3/\ρ.num.iv 3<=3)/\ρ.num.iv 3<1:=h
   simp only [aiv,List.mem_cons,List.not_mem_nil,or_false] at a
   rcases a with rfl | rfl | rfl | rfl
   all_goals
     simp only [Da]
     omega) λρ h=>Sat.fin (show gU _ from trivial)
def aiw:Kn:=[(.or (.aY (.var 1) (.lit 0)) (.aY (.lit 255) (.var 1)),false),(.ag (.var 0) (.lit 6),false),(.ag (.var 0) (.lit 7),true),(.and (.ag (.var 2) (.lit 0)) (.ag (.var 3) (.lit 0)),false)]
def oN4:Out:=.fin {lo:=4,ae:=2,bk:=[(2,{ak:=4})]}
theorem ak5:exec tab Cu 8000 [] (bZ bW.f bW.nv aiw bW.gl bW.hp bW.args)=oN4:=by kernel_rfl
theorem ak6:aK Tryz.prog bW (λρ=>(0<=ρ.iv 1/\ρ.iv 1<=255)/\¬ρ.iv 0=6/\ρ.iv 0=7/\¬(ρ.iv 2=0/\ρ.iv 3=0)) gU :=
 bq bM (E:=Cu) (cs:=[]) rfl (λk pre post h=>by cases h) aO rfl ak5 (by kernel_rfl) (λρ h p a=>by
   have h:(0<=ρ.num.iv 1/\ρ.num.iv 1<=255)/\¬ρ.num.iv 0=6/\ρ.num.iv 0=7/\¬(ρ.num.iv 2=0/\ρ.num.iv 3=0):=h
   simp only [aiw,List.mem_cons,List.not_mem_nil,or_false] at a
   rcases a with rfl | rfl | rfl | rfl
   all_goals
     simp only [Da]
     omega) λρ h=>Sat.fin (show gU _ from trivial)
def aix:Kn:=[(.or (.aY (.var 1) (.lit 0)) (.aY (.lit 255) (.var 1)),false),(.ag (.var 0) (.lit 6),false),(.ag (.var 0) (.lit 7),false),(.ag (.var 0) (.lit 8),true),(.and (.ag (.var 2) (.lit 0)) (.ag (.var 3) (.lit 0)),false)]
def oN5:Out:=.fin {lo:=4,ae:=2,bk:=[(2,{ak:=4})]}
theorem ak7:exec tab Cu 8000 [] (bZ bW.f bW.nv aix bW.gl bW.hp bW.args)=oN5:=by kernel_rfl
theorem ak8:aK Tryz.prog bW (λρ=>(0<=ρ.iv 1/\ρ.iv 1<=255)/\¬ρ.iv 0=6/\¬ρ.iv 0=7/\ρ.iv 0=8/\¬(ρ.iv 2=0/\ρ.iv 3=0)) gU :=
 bq bM (E:=Cu) (cs:=[]) rfl (λk pre post h=>by cases h) aO rfl ak7 (by kernel_rfl) (λρ h p a=>by
   have h:(0<=ρ.num.iv 1/\ρ.num.iv 1<=255)/\¬ρ.num.iv 0=6/\¬ρ.num.iv 0=7/\ρ.num.iv 0=8/\¬(ρ.num.iv 2=0/\ρ.num.iv 3=0):=h
   simp only [aix,List.mem_cons,List.not_mem_nil,or_false] at a
   rcases a with rfl | rfl | rfl | rfl | rfl
   all_goals
     simp only [Da]
     omega) λρ h=>Sat.fin (show gU _ from trivial)
def aiy:Kn:=[(.or (.aY (.var 1) (.lit 0)) (.aY (.lit 255) (.var 1)),false),(.ag (.var 0) (.lit 6),false),(.ag (.var 0) (.lit 7),false),(.ag (.var 0) (.lit 8),false)]
def oN6:Out:=.fin {lo:=4,ae:=2,bk:=[(2,{ak:=4})]}
theorem ak9:exec tab Cu 8000 [] (bZ bW.f bW.nv aiy bW.gl bW.hp bW.args)=oN6:=by kernel_rfl
theorem ala:aK Tryz.prog bW (λρ=>(0<=ρ.iv 1/\ρ.iv 1<=255)/\¬ρ.iv 0=6/\¬ρ.iv 0=7/\¬ρ.iv 0=8) gU :=
 bq bM (E:=Cu) (cs:=[]) rfl (λk pre post h=>by cases h) aO rfl ak9 (by kernel_rfl) (λρ h p a=>by
   have h:(0<=ρ.num.iv 1/\ρ.num.iv 1<=255)/\¬ρ.num.iv 0=6/\¬ρ.num.iv 0=7/\¬ρ.num.iv 0=8:=h
   simp only [aiy,List.mem_cons,List.not_mem_nil,or_false] at a
   rcases a with rfl | rfl | rfl | rfl
   all_goals
     simp only [Da]
     omega) λρ h=>Sat.fin (show gU _ from trivial)
theorem QB {o:Op}:o.bP↔((0<=o.key/\o.key<=255)/\o.kind=6/\(0<=o.val/\o.val<=1073741824/\0<=o.dz/\o.dz<=3)/\¬o.dz<1)\/((0<=o.key/\o.key<=255)/\¬o.kind=6/\(o.kind=7\/o.kind=8)/\o.val=0/\o.dz=0):=by
 unfold Op.bP
 by_cases h:o.kind=6
 ·rw [if_pos h]
  omega
 ·rw [if_neg h]
  omega
theorem VM:aK Tryz.prog dL (λρ=>(yM ρ 0).bP) nN :=
 Fu (gG akU (gG akW akY)) λρ h=>by
  have h:=QB.1 h
  have h:((0<=ρ.iv 1/\ρ.iv 1<=255)/\ρ.iv 0=6/\(0<=ρ.iv 2/\ρ.iv 2<=1073741824/\0<=ρ.iv 3/\ρ.iv 3<=3)/\¬ρ.iv 3<1)\/((0<=ρ.iv 1/\ρ.iv 1<=255)/\¬ρ.iv 0=6/\(ρ.iv 0=7\/ρ.iv 0=8)/\ρ.iv 2=0/\ρ.iv 3=0):=h
  omega
theorem abf:aK Tryz.prog bW (λρ=>¬(yM ρ 0).bP) gU :=
 Fu (gG ak0 (gG ak2 (gG ak4 (gG ak6 (gG ak8 ala))))) λρ h=>by
  have h:=λz=>h (QB.2 z)
  have h:¬(((0<=ρ.iv 1/\ρ.iv 1<=255)/\ρ.iv 0=6/\(0<=ρ.iv 2/\ρ.iv 2<=1073741824/\0<=ρ.iv 3/\ρ.iv 3<=3)/\¬ρ.iv 3<1)\/((0<=ρ.iv 1/\ρ.iv 1<=255)/\¬ρ.iv 0=6/\(ρ.iv 0=7\/ρ.iv 0=8)/\ρ.iv 2=0/\ρ.iv 3=0)):=h
  omega
end Go.Proofs.YthomdlajobnmnaaGreatDoor.Sk
namespace Go.Proofs.YthomdlajobnmnaaGreatDoor.Sk
open Go.RowKit Go.Rex
def anC (ρ:Env):Prop:=tO ρ/\((ρ.iv 19=6/\(9<=ρ.iv 0/\ρ.iv 0<=12)/\ρ.iv 28<3)\/101<=ρ.iv 0\/(ρ.iv 19=6/\(5<=ρ.iv 0/\ρ.iv 0<=8)/\0<ρ.iv 22/\ρ.iv 22<=3)\/(ρ.iv 19≠6/\0<ρ.iv 0/\ρ.iv 0<101))
theorem aeO:aK Tryz.prog aL anC gM :=
 Fu (gG (gG (gG aj5 ahC) (gG ahD ahE)) (gG (gG akD (gG akE akF)) (gG (gG akG (gG akH aii)) (gG akI akJ)))) λc ⟨h,q⟩=>by
  rcases q with ⟨k,⟨a,b⟩,v⟩ | q | ⟨k,⟨a,b⟩,t,u⟩ | ⟨k,a,b⟩
  ·refine .inl ?_
   rcases (by omega:c.iv 0=9\/c.iv 0=10\/c.iv 0=11\/c.iv 0=12) with e | e | e | e
   ·exact .inl (.inl ⟨h,k,e,v⟩)
   ·exact .inl (.inr ⟨h,k,e,v⟩)
   ·exact .inr (.inl ⟨h,k,e,v⟩)
   ·exact .inr (.inr ⟨h,k,e,v⟩)
  ·exact .inr (.inl (.inl ⟨h,q⟩))
  ·refine .inr ?_
   rcases (by omega:c.iv 0=5\/c.iv 0=6\/c.iv 0=7\/c.iv 0=8) with e | e | e | e
   ·exact .inl (.inr (.inl ⟨h,k,e,t,u⟩))
   ·exact .inl (.inr (.inr ⟨h,k,e,t,u⟩))
   ·by_cases d:c.iv 28+1<c.iv 22
    ·exact .inr (.inl (.inr (.inl ⟨⟨h,k,e,t,u⟩,d⟩)))
    ·exact .inr (.inl (.inr (.inr ⟨⟨h,k,e,t,u⟩,d⟩)))
   ·exact .inr (.inl (.inl ⟨h,k,e,t,u⟩))
  ·refine .inr (.inr (.inr ?_))
   by_cases f:c.iv 19=7
   ·exact .inl ⟨h,f,b,by omega,by omega⟩
   ·exact .inr ⟨h,k,f,b,by omega,by omega⟩
theorem aeP:aK Tryz.prog gP (λρ=>(ρ.iv 19=6/\ρ.iv 0=4)\/(ρ.iv 19≠6/\ρ.iv 0=0)) vF :=
 Fu (gG akQ (gG akR akS)) λρ q=>by
  rcases q with q | ⟨q,a⟩
  ·exact .inl q
  ·by_cases b:ρ.iv 19=7
   ·exact .inr (.inl ⟨b,a⟩)
   ·exact .inr (.inr ⟨⟨q,b⟩,a⟩)
def En:List SB:=[JH 0 .dB]
def JL:List SB:=[JH 0 (.ptr {ak:=1}),Tp 31]
theorem abg:o6 En=true:=by kernel_rfl
theorem abh:o6 JL=true:=by kernel_rfl
inductive lC (w:World) (a:Addr) (j:Jb) (B:Nat->Prop):Prop
 | a (ρ:Env) (ν:Nat->Addr) (h1:ν 0=a) (h2:aD ρ ν En w) (h3:mD ρ 0 none=j) (h4:∀b,iw ρ ν En b->B b)
 | c (ρ:Env) (ν:Nat->Addr) (h1:ν 0=a) (h2:aD ρ ν JL w) (h3:mD ρ 0 (some (cZ ρ 31))=j) (h4:∀b,iw ρ ν JL b->B b)
section
variable {w w':World} {a:Addr} {j:Jb} {B B':Nat->Prop} {x:Rp} {k:Int}
theorem lC.frame (h:lC w a j B) (n:∀b,B b->w'.heap[b]?=w.heap[b]?):lC w' a j B:=by
 cases h with
 | a e f i g l d=>exact .a e f i (g.zN abg λb m=>n b (d b m)) l d
 | c e f i g l d=>exact .c e f i (g.zN abh λb m=>n b (d b m)) l d
theorem lC.mono (h:lC w a j B) (n:∀b,B b->b<w.heap.size->B' b):lC w a j B':=by
 cases h with
 | a f g i d m l=>exact .a f g i d m λb e=>n b (l b e) (o7 d e)
 | c f g i d m l=>exact .c f g i d m λb e=>n b (l b e) (o7 d e)
def NW (o:Op):Value:=.agg #[.int .i64 o.kind,.int .i64 o.key,.int .i64 o.val,.int .i64 o.dz]
def NY (o:Op):Env:=Ht (λi=>([o.kind,o.key,o.val,o.dz]:List Int).getD i 0) λ_=>false
theorem abj {w:World} {o:Op} (h:o.bP) :
  Calls Tryz.prog 54 #[NW o] w λu w'=>∃a B,u=.returned (.tuple #[.pointer (some a),.nilIface])/\lC w' a (Jb.new o) B/\(∀b,B b->w.heap.size<=b)/\Nw w w':=by
 have f:=VM.run (NY o) (λ_=>⟨0,0,none⟩) w NN ⟨λg k _ h=>(by cases h),λg z k A _ _ h=>(by cases h)⟩ h
 refine Calls.mono f ?_
 rintro e w' ⟨n,q,m,rfl,y,c,p,l⟩
 have r:∀b,¬jB (NY o) (λ_=>(⟨0,0,none⟩:Addr)) dL.hp b:=λb ⟨k,sb,d,_⟩=>by
  have d:([]:List SB)[k]?=some sb:=d
  simp at d
 have s:yM n 0=o:=by
  unfold yM
  rw [m.iv 0 (by decide),m.iv 1 (by decide),m.iv 2 (by decide),m.iv 3 (by decide)]
  rfl
 have sub:(List.range En.length).map (λj=>dL.hp'[id j]?)=En.map λsb=>some (sb.aX (·+4) id):=by kernel_rfl
 replace l:mD n 4 none=Jb.new (yM n 0):=l
 rw [s] at l
 refine ⟨q 0,_,rfl,.a (n.pull (·+4)) (λk=>q (id k)) rfl (y.sub sub λi j _ _ h=>h) l λ_ h=>h,λb t=>((p.sub sub).ak abg t).elim id λh=>absurd h (r b),c.os,c.tape,c.output,c.size,λk d _=>c.block k d (r k)⟩
theorem aiz (h:lC w a j B) (J:j.cl=none) (E:j.op.kind=6) (C:0<=j.at'/\j.at'<=3) :
  Calls Tryz.prog 56 #[.pointer (some a),iy x] w λD w'=>D=.returned (oG (j.next x).2)/\∃B',lC w' a (j.next x).1 B'/\(∀b,B' b->w.heap.size<=b\/B b)/\cK w B w':=by
 cases h with
 | c o l F R A S=>rw [<-A] at J;cases J
 | a o l F z A Q =>
  subst F A
  have y:bY 31 1 o (o.cat 31 (xY x)) l l:=⟨λ_ h=>if_pos h,λ_ h=>if_pos h,λ_ h=>if_pos h,λ_ h=>if_pos h,λ_ h=>if_pos h,λ_ h=>if_pos h,λ_ _=>rfl⟩
  obtain ⟨q,p⟩:∃q,q=o.cat 31 (xY x):=⟨_,rfl⟩
  rw [<-p] at y
  have N:aD q l En w:=z.ext y (by kernel_rfl) (by decide)
  have I:jA q=mD o 0 none:=by rw [p];rfl
  have M:az q 31=x:=by rw [p];rfl
  rw [<-I] at E C
  have m:=anB.run q l w N ⟨λg k _ h=>(by cases h),λg T k U _ _ h=>(by cases h)⟩ ⟨E,C.1,C.2⟩
  have n:(r9.args.map (·.den q l)).toArray=#[.pointer (some (l 0)),iy x]:=by
   rw [p]
   rfl
  rw [n] at m
  refine Calls.mono m ?_
  rintro D w' ⟨d,G,e,rfl,L,f,u,r,s⟩
  have K:jA d=jA q:=by
   unfold jA mD fe yM aC
   simp (disch:=decide) only [e.iv,e.bv]
  have P:az d 31=az q 31:=by
   unfold az aC
   simp (disch:=decide) only [e.iv,e.bv]
  replace r:mD d 37 none=((jA d).next (az d 31)).1:=r
  replace s:fe d 68=((jA d).next (az d 31)).2:=s
  rw [K,P,I,M] at r s
  have sub:(List.range En.length).map (λj=>r9.hp'[id j]?)=En.map λsb=>some (sb.aX (·+37) id):=by kernel_rfl
  have H:∀x,jB q l En x->B x:=λx h=>Q x ((o8 y (by kernel_rfl) (by decide)).1 (mg h))
  refine ⟨?_,_,.a (d.pull (·+37)) (λk=>G (id k)) ?_ (L.sub sub (λi j _ _ h=>h)) r λ_ h=>h,λb t=>((u.sub sub).ak abg t).imp id (H b),f.os,f.tape,f.output,f.size,λb t O=>f.block b t λh=>O (H b h)⟩
  ·rw [<-s]
   rfl
  ·show G 0=l 0
   exact e.bl 0 (by decide)
theorem aiA (h:lC w a j B) (I:j.cl=none) (F:(j.op.kind=6/\j.at'=4)\/(j.op.kind≠6/\j.at'=0)) :
  Calls Tryz.prog 56 #[.pointer (some a),iy x] w λC w'=>C=.returned (oG (j.next x).2)/\∃B',lC w' a (j.next x).1 B'/\(∀b,B' b->w.heap.size<=b\/B b)/\cK w B w':=by
 cases h with
 | c o l D Q A R=>rw [<-A] at I;cases I
 | a o l D z A P =>
  subst D A
  have y:bY 31 1 o (o.cat 31 (xY x)) l l:=⟨λ_ h=>if_pos h,λ_ h=>if_pos h,λ_ h=>if_pos h,λ_ h=>if_pos h,λ_ h=>if_pos h,λ_ h=>if_pos h,λ_ _=>rfl⟩
  obtain ⟨q,p⟩:∃q,q=o.cat 31 (xY x):=⟨_,rfl⟩
  rw [<-p] at y
  have M:aD q l En w:=z.ext y (by kernel_rfl) (by decide)
  have H:jA q=mD o 0 none:=by rw [p];rfl
  have L:az q 31=x:=by rw [p];rfl
  rw [<-H] at F
  have m:=aeP.run q l w M ⟨λg k _ h=>(by cases h),λg S k T _ _ h=>(by cases h)⟩ F
  have n:(gP.args.map (·.den q l)).toArray=#[.pointer (some (l 0)),iy x]:=by
   rw [p]
   rfl
  rw [n] at m
  refine Calls.mono m ?_
  rintro C w' ⟨d,E,e,rfl,K,f,u,r,s⟩
  have J:jA d=jA q:=by
   unfold jA mD fe yM aC
   simp (disch:=decide) only [e.iv,e.bv]
  have O:az d 31=az q 31:=by
   unfold az aC
   simp (disch:=decide) only [e.iv,e.bv]
  replace r:mD d 37 (some (cZ d 68))=((jA d).next (az d 31)).1:=r
  replace s:fe d 91=((jA d).next (az d 31)).2:=s
  rw [J,O,H,L] at r s
  have sub:(List.range JL.length).map (λj=>gP.hp'[id j]?)=JL.map λsb=>some (sb.aX (·+37) id):=by kernel_rfl
  have G:∀x,jB q l En x->B x:=λx h=>P x ((o8 y (by kernel_rfl) (by decide)).1 (mg h))
  refine ⟨?_,_,.c (d.pull (·+37)) (λk=>E (id k)) ?_ (K.sub sub (λi j _ _ h=>h)) r λ_ h=>h,λb t=>((u.sub sub).ak abh t).imp id (G b),f.os,f.tape,f.output,f.size,λb t N=>f.block b t λh=>N (G b h)⟩
  ·rw [<-s]
   rfl
  ·show E 0=l 0
   exact e.bl 0 (by decide)
end
end Go.Proofs.YthomdlajobnmnaaGreatDoor.Sk
namespace Go.Proofs.YthomdlajobnmnaaGreatDoor
open Go.Rex
structure Wb (k:Int) (w:Wd):Prop where
 s:-2000<=w.slot/\w.slot<=2000
 g:-k<=w.gen/\w.gen<=k
 t:-(2000 * k+3000)<=w.tag/\w.tag<=2000 * k+3000
 n:-(2000 * k+3000)<=w.num/\w.num<=2000 * k+3000
theorem Wb.mono {k k':Int} {w:Wd} (h:Wb k w) (b:k<=k'):Wb k' w:=by
 obtain ⟨a,c,e,d⟩:=h
 exact ⟨a,by omega,by omega,by omega⟩
theorem Wb.zero {k:Int} (h:0<=k):Wb k Wd.zero:=by
 refine ⟨?_,?_,?_,?_⟩ <;> simp [Wd.zero] <;> omega
theorem Wb.num {k n:Int} (h:0<=k) (a:-(2000 * k+3000)<=n/\n<=2000 * k+3000):Wb k (Wd.ig n):=by
 refine ⟨?_,?_,?_,a⟩ <;> simp [Wd.ig] <;> omega
theorem Wb.ref {k:Int} {w:Wd} (d:0<=k) (h:Wb k w):Wb k w.bN:=by
 obtain ⟨b,a,e,c⟩:=h
 refine ⟨b,a,?_,?_⟩ <;> simp [Wd.bN] <;> omega
structure PS.wb (k:Int) (p:PS):Prop where
 bd:∀i,Wb k (p.bd i)
 cell:∀i j,Wb k (p.cell i j)
theorem PS.wb.mono {k k':Int} {p:PS} (h:p.wb k) (a:k<=k'):p.wb k':=⟨λi=>(h.bd i).mono a,λi j=>(h.cell i j).mono a⟩
theorem PS.wb.at {k:Int} {p:PS} (h:p.wb k) (s f:Int):Wb k (p.at s f):=by
 grind [PS.at,PS.wb.bd,PS.wb.cell]
theorem PS.wb.put {k:Int} {p:PS} (h:p.wb k) {s f:Int} {w:Wd} (a:Wb k w):(p.put s f w).wb k:=by
 unfold PS.put
 split
 ·refine ⟨λi=>?_,h.cell⟩
  show Wb k (if i=f.toNat then w else p.bd i)
  split
  ·exact a
  ·exact h.bd i
 ·refine ⟨h.bd,λi j=>?_⟩
  show Wb k (if i=(s-1).toNat/\j=f.toNat then w else p.cell i j)
  split
  ·exact a
  ·exact h.cell i j
theorem PS.wb.act {k:Int} {p:PS} {a:Ac} (u:0<=k) (h:p.wb k) (c:p.OK) (y:p.steps<=k) (g:Wb (k+1) a.new):(p.act a).1.wb (k+1)/\∀x,(p.act a).2=some x->Wb (k+1) x.word:=by
 have d:p.wb (k+1):=h.mono (by omega)
 have b:Wb (k+1) Wd.zero:=Wb.zero (by omega)
 unfold PS.act
 by_cases t:p.valid a
 ·rw [if_pos t]
  by_cases l:p.right a
  ·rw [if_pos l]
   have q:(PS.wb (k+1) {p with steps:=p.steps+1}):=⟨d.bd,d.cell⟩
   suffices hm:(PS.makes {p with steps:=p.steps+1} a).1.wb (k+1)/\Wb (k+1) (PS.makes {p with steps:=p.steps+1} a).2.word from ⟨hm.1,λx f=>by cases f;exact hm.2⟩
   unfold PS.makes
   split
   ·unfold PS.alloc
    split
    ·exact ⟨q,b⟩
    ·rename_i e
     have m:¬p.nf=0:=e
     have o:=c.nf
     have n:=c.fr (p.nf-1).toNat (by omega)
     have w:=c.gen (p.fr (p.nf-1).toNat-1).toNat
     have s:=c.made
     have r:=c.ns
     refine ⟨⟨d.bd,λi j=>?_⟩,?_⟩
     ·show Wb (k+1) (if i=(p.fr (p.nf-1).toNat-1).toNat/\j<10 then iF a.new.num j else p.cell i j)
      split
      ·unfold iF
       split
       ·exact ⟨b.s,b.g,b.t,g.n⟩
       ·exact b
      ·exact d.cell i j
     ·refine ⟨?_,?_,?_,?_⟩
      all_goals grind
   split
   ·exact ⟨⟨d.bd,d.cell⟩,b⟩
   split
   ·exact ⟨q,q.at _ _⟩
   split
   ·exact ⟨q.put g,b⟩
   split
   ·exact ⟨q.put g,q.at _ _⟩
   ·exact ⟨q,q.at _ _⟩
  ·rw [if_neg l]
   refine ⟨⟨d.bd,d.cell⟩,λx f=>?_⟩
   cases f
   unfold wT
   split
   ·exact ⟨b.s,b.g,b.t,by show -(2000 * (k+1)+3000)<=-1/\(-1:Int)<=2000 * (k+1)+3000;omega⟩
   ·exact b
 all_goals grind
def RT.wb (k:Int):RT->Prop
 | .idle x=>Wb k x.word
 | .one a=>Wb (k+1) a.new
 | .fin a=>Wb (k+1) a.new
 | .gp _ w=>Wb k w
 | .fA _ a=>Wb (k+1) a.new
 | .jo ay=>Wb k ay
 | .ed ay _=>Wb k ay
 | .kQ c=>Wb k c
 | .dQ c _=>Wb k c
 | .ko c=>Wb k c
 | _=>True
structure Lo.wb (k:Int) (l:Lo):Prop where
 h:∀i,Wb k (l.h i)
 lo:-(2000 * k+3000)<=l.s.low/\l.s.low<=2000 * k+3000
 hi:-(2000 * k+3000)<=l.s.high/\l.s.high<=2000 * k+3000
structure yS (k:Int) (q:LR):Prop where
 l:q.1.wb k
 t:q.2.wb k
section
variable {k:Int} {l:Lo}
theorem Lo.wb.mono {k':Int} (h:l.wb k) (a:k<=k'):l.wb k':=⟨λi=>(h.h i).mono a,by have:=h.lo;omega,by have:=h.hi;omega⟩
theorem Lo.wb.hold (h:l.wb k) {w:Wd} (a:Wb k w) (n:Int):(l.hold n w).wb k:=by
 refine ⟨λi=>?_,h.lo,h.hi⟩
 show Wb k (if i=n.toNat then w else l.h i)
 split
 ·exact a
 ·exact h.h i
theorem fO {c:Prop} [Decidable c] {a b:LR} (e:c->yS k a) (d:¬c->yS k b):yS k (if c then a else b):=by
 grind
theorem Tv (c:0<=k) {s:Sp} (a:-(2000 * k+3000)<=s.low/\s.low<=2000 * k+3000) (b:-(2000 * k+3000)<=s.high/\s.high<=2000 * k+3000):Wb k (RS.iZ s):=by
 unfold RS.iZ
 split
 ·refine ⟨?_,?_,b,a⟩
  all_goals grind
 ·exact Wb.zero c
theorem QC (b:0<=k) (h:l.wb k) (n:Int):yS k (RT.leave l n):=by
 have a:∀{k:Int},0<=k->Wb k Wd.zero:=Wb.zero
 unfold RT.leave
 refine fO (λ_=>⟨⟨h.h,by show -(2000 * k+3000)<=0/\0<=2000 * k+3000;omega,by show -(2000 * k+3000)<=0/\0<=2000 * k+3000;omega⟩,?_⟩) λ_=>fO (λ_=>?_) λ_=>⟨h,a b⟩
 ·exact a (by omega)
 ·split
  ·exact ⟨h.hold (a b) _,trivial⟩
  ·exact ⟨h,a b⟩
theorem Tx (a:0<=k) (h:l.wb k):yS k (RT.scan l):=by
 unfold RT.scan
 exact fO (λ_=>⟨h,Wb.zero a⟩) λ_=>fO (λ_=>⟨h,trivial⟩) λ_=>⟨h,Wb.zero a⟩
theorem Hz (a:0<=k) (h:l.wb k):yS k (RT.bQ l):=by
 unfold RT.bQ
 exact fO (λ_=>Tx a h) λ_=>⟨h,Wb.zero a⟩
theorem Yx (b:0<=k) (h:l.wb k) {w:Wd} (a:Wb k w):yS k (RT.fC l w):=by
 unfold RT.fC
 exact fO (λ_=>Hz b ⟨h.h,h.lo,h.hi⟩) λ_=>fO (λ_=>⟨h,a⟩) λ_=>fO (λ_=>⟨h,a⟩) λ_=>⟨h,Wb.zero b⟩
theorem abk (a:0<=k) (h:l.wb k) {c:Ca} (d:Wb (k+1) c.new) (e:Wb k c.ay):yS k (RT.begin l c):=by
 have b:∀{k:Int},0<=k->Wb k Wd.zero:=Wb.zero
 unfold RT.begin
 refine fO (λ_=>fO (λ_=>⟨h,trivial⟩) λ_=>⟨h,b a⟩) λ_=>fO (λ_=>QC a h 0) λ_=>fO (λ_=>⟨h,?_⟩) λ_=>fO (λ_=>⟨h,d⟩) λ_=>fO (λ_=>⟨h,d⟩) λ_=>fO (λ_=>⟨h,trivial⟩) λ_ =>
  fO (λ_=>fO (λ_=>⟨h.hold (h.h _) _,(h.h _).mono (by omega)⟩) λ_=>⟨h,b a⟩) λ_=>fO (λ_=>fO (λ_=>⟨h,trivial⟩) λ_=>⟨h,?_⟩) λ_=>fO (λ_=>⟨h,?_⟩) λ_=>fO (λ_=>Yx a h e) λ_=>Tx a h
 ·exact b (by omega)
 ·exact b (by omega)
 ·exact b (by omega)
theorem Lu (a:0<=k) (h:l.wb k) (r:List Nt):yS k (RT.ek l r):=by
 cases r
 ·exact ⟨h,Wb.zero a⟩
 ·exact ⟨h,trivial⟩
theorem aeQ (q:0<=k) (h:l.wb k) {t:RT} (j:t.wb k) {x:Rp} (g:Wb (k+1) x.word):yS (k+1) (RT.aB l t x):=by
 have e:l.wb (k+1):=h.mono (by omega)
 have p:∀{k:Int},0<=k->Wb k Wd.zero:=Wb.zero
 have m:Wb (k+1) Wd.zero:=p (by omega)
 have f:-(2000 * (k+1)+3000)<=x.word.num/\x.word.num<=2000 * (k+1)+3000:=g.n
 have n:Wb (k+1) (Wd.ig x.word.num):=Wb.num (by omega) f
 cases t with
 | idle y=>exact ⟨e,Wb.mono j (by omega)⟩
 | one a=>exact ⟨e,g⟩
 | fin a=>exact ⟨e,m⟩
 | mW=>exact ⟨⟨e.h,f,f⟩,(Tv (k:=k+1) (s:=⟨true,x.word.num,x.word.num⟩) (by omega) f f).mono (by omega)⟩
 | eD i=>exact QC (by omega) e _
 | bX c =>
  exact fO (λ_=>⟨e,g⟩) λ_=>fO (λ_=>⟨e.hold (g.ref (by omega)) _,(g.ref (by omega):Wb (k+1) _).mono (by omega)⟩) λ_=>⟨e,g⟩
 | gp c w =>
  refine fO (λ_=>⟨e,Wb.mono j (by omega)⟩) λ_=>fO (λ_=>⟨e.hold n _,n.mono (by omega)⟩) λ_=>?_
  have o:-(2000 * (k+1)+3000)<=(if l.s.is=true then l.s.low else x.word.num)/\(if l.s.is=true then l.s.low else x.word.num)<=2000 * (k+1)+3000:=by
   split
   ·exact e.lo
   ·exact f
  exact ⟨⟨e.h,o,f⟩,(Tv (k:=k+1) (s:=⟨true,if l.s.is=true then l.s.low else x.word.num,x.word.num⟩) (by omega) o f).mono (by omega)⟩
 | fA c a=>exact ⟨e,trivial⟩
 | oZ=>exact ⟨e,n.mono (by omega)⟩
 | jo ay=>exact ⟨e,Wb.mono j (by omega)⟩
 | ed ay b=>exact fO (λ_=>⟨⟨e.h,e.lo,e.hi⟩,g⟩) λ_=>Hz (by omega) ⟨e.h,e.lo,e.hi⟩
 | kQ c=>exact Hz (by omega) e
 | o5=>exact ⟨e,g⟩
 | dQ c seen =>
  exact fO (λ_=>⟨e,Wb.mono j (by omega)⟩) λ_=>fO (λ_=>Lu (by omega) e _) λ_=>fO (λ_=>⟨e,Wb.mono j (by omega)⟩) λ_=>⟨e,trivial⟩
 | ko c=>exact ⟨e,trivial⟩
 | gF=>exact Lu (by omega) e _
 | fE d r=>exact Lu (l:={l with notes:=l.notes.erase d,freed:=l.freed+1}) (by omega) ⟨e.h,e.lo,e.hi⟩ r
theorem aiB (j:0<=k) {t:RT} (f:t.wb k) (h:l.wb k):Wb (k+1) (t.acc l).new:=by
 have i:Wb (k+1) Wd.zero:=Wb.zero (by omega)
 have eB:∀{c:Wd},Wb k c->Wb (k+1) ⟨0,0,c.tag+1,c.num+1,false⟩:=λ{c} g=>by
  obtain ⟨a,b,d,e⟩:=g
  refine ⟨⟨by show (-2000:Int)<=0;decide,by show (0:Int)<=2000;decide⟩,?_,?_,?_⟩
  all_goals grind
 cases t with
 | one a=>exact f
 | fin a=>exact f
 | fA c a=>exact f
 | kQ c=>exact eB f
 | ko c=>exact eB f
 | _=>exact i
end
theorem jc {q:Prop} [Decidable q] {l:Lo} {a b:LR} (d:a.1.freed=l.freed) (c:b.1.freed=l.freed):(if q then a else b).1.freed=l.freed:=by
 grind
theorem F3 (l:Lo) (k:Int):(RT.leave l k).1.freed=l.freed:=by
 refine jc rfl (jc ?_ rfl)
 cases RS.first l.h k.toNat (9-k.toNat) <;> rfl
theorem JM (l:Lo):(RT.scan l).1.freed=l.freed:=jc rfl (jc rfl rfl)
theorem yT (l:Lo):(RT.bQ l).1.freed=l.freed:=jc (JM l) rfl
theorem RG (l:Lo) (c:Ca):(RT.begin l c).1.freed=l.freed :=
 jc (jc rfl rfl)<|jc (F3 l 0)<|jc rfl<|jc rfl<|jc rfl<|jc rfl<|jc (jc rfl rfl)<|jc (jc rfl rfl)<|jc rfl<|jc (jc (yT _)<|jc rfl<|jc rfl rfl) (JM l)
theorem BI (l:Lo) (r:List Nt):(RT.ek l r).1.freed=l.freed:=by cases r <;> rfl
theorem VN (l:Lo) (t:RT) (x:Rp):l.freed<=(RT.aB l t x).1.freed/\(RT.aB l t x).1.freed<=l.freed+1:=by
 have e:∀{a:LR},a.1.freed=l.freed->l.freed<=a.1.freed/\a.1.freed<=l.freed+1:=λh=>by omega
 cases t with
 | eD i=>exact e (F3 l _)
 | bX c=>exact e (jc rfl (jc rfl rfl))
 | gp c w=>exact e (jc rfl (jc rfl rfl))
 | ed ay b=>exact e (jc rfl (yT _))
 | kQ _=>exact e (yT l)
 | dQ f seen=>exact e (jc rfl (jc (BI _ _) (jc rfl rfl)))
 | gF=>exact e (BI _ _)
 | fE d r =>
  have:=BI {l with notes:=l.notes.erase d,freed:=l.freed+1} r
  show l.freed<=(RT.ek _ _).1.freed/\(RT.ek _ _).1.freed<=l.freed+1
  all_goals grind
 | _=>exact e rfl
theorem jd {q:Prop} [Decidable q] {n:Nat} {a b:LR} (d:a.1.notes.length<=n) (c:b.1.notes.length<=n):(if q then a else b).1.notes.length<=n:=by
 grind
theorem QD {n:Nat} (l:Lo) (k:Int) (h:l.notes.length<=n):(RT.leave l k).1.notes.length<=n:=by
 refine jd h (jd ?_ h)
 cases RS.first l.h k.toNat (9-k.toNat) <;> exact h
theorem Ty {n:Nat} (l:Lo) (h:l.notes.length<=n):(RT.scan l).1.notes.length<=n:=jd h (jd h h)
theorem HV {n:Nat} (l:Lo) (h:l.notes.length<=n):(RT.bQ l).1.notes.length<=n:=jd (Ty l h) h
theorem Lx {n:Nat} (l:Lo) (w:Wd) (b d:Int) (h:l.notes.length<=n):(RT.note l w b d).notes.length<=n+1:=by
 show (l.notes ++ [_]).length<=n+1
 all_goals grind
theorem abl {n:Nat} (l:Lo) (c:Ca) (h:l.notes.length<=n):(RT.begin l c).1.notes.length<=n+1:=by
 have a:l.notes.length<=n+1:=Nat.le_succ_of_le h
 exact jd (jd a a)<|jd (QD l 0 a)<|jd a<|jd a<|jd a<|jd a<|jd (jd a a)<|jd (jd a a)<|jd a<|jd (jd (HV _ (Lx _ _ _ _ h))<|jd a<|jd a a) (Ty l a)
theorem LA {n:Nat} (l:Lo) (r:List Nt) (h:l.notes.length<=n):(RT.ek l r).1.notes.length<=n:=by cases r <;> exact h
theorem aeR {n:Nat} (l:Lo) (t:RT) (x:Rp) (h:l.notes.length<=n):(RT.aB l t x).1.notes.length<=n+1:=by
 have a:l.notes.length<=n+1:=Nat.le_succ_of_le h
 cases t with
 | eD i=>exact QD l _ a
 | bX c=>exact jd a (jd a a)
 | gp c w=>exact jd a (jd a a)
 | ed ay b=>exact jd (Lx _ _ _ _ h) (HV _ (Lx _ _ _ _ h))
 | kQ _=>exact HV l a
 | dQ e seen=>exact jd a (jd (LA _ _ a) (jd a a))
 | gF=>exact LA _ _ a
 | fE d r=>exact LA (n:=n+1) {l with notes:=l.notes.erase d,freed:=l.freed+1} r (Nat.le_trans (List.length_erase_le ..) a)
 | _=>exact a
def RT.mE (l:Lo):RT->Prop
 | .eD i=>0<=i/\i<=8
 | .bX c=>0<=c.i/\c.i<9
 | .gp c _=>l.bF/\0<=c.i/\c.i<9
 | .fA c _=>0<=c.i/\c.i<9
 | .o5 | .ko _ | .gF=>l.af=4
 | .dQ _ seen=>l.af≠1/\seen.length<=60
 | .fE d r=>(d :: r).Sublist l.notes
 | _=>True
theorem RT.mE.fits {l:Lo} {t:RT} (h:t.mE l):t.fits l:=by
 cases t <;> first | trivial | exact h | exact h.1
theorem fP {c:Prop} [Decidable c] {a b:LR} (e:c->a.2.mE a.1) (d:¬c->b.2.mE b.1):(if c then a else b).2.mE (if c then a else b).1:=by
 grind
theorem JP (l:Lo) (k:Int) (h:0<=k/\k<=9):(RT.leave l k).2.mE (RT.leave l k).1:=by
 refine fP (λ_=>trivial) λ_=>fP (λ_=>?_) λ_=>trivial
 cases a:RS.first l.h k.toNat (9-k.toNat) with
 | none=>trivial
 | some n =>
  have:=FY l.h _ _ _ a
  show (0:Int)<=n/\(n:Int)<=8
  omega
theorem MR (l:Lo):(RT.scan l).2.mE (RT.scan l).1 :=
 fP (λ_=>trivial) λa=>fP (λh=>h) λ_=>⟨a,Nat.zero_le _⟩
theorem BK (l:Lo):(RT.bQ l).2.mE (RT.bQ l).1:=fP (λ_=>MR l) λ_=>trivial
theorem VO {l:Lo} {c:Ca} (a:c.OK):(RT.begin l c).2.mE (RT.begin l c).1 :=
 fP (λ_=>fP (λ_=>trivial) λ_=>trivial) λ_=>fP (λ_=>JP l 0 (by decide)) λ_=>fP (λ_=>trivial) λ_=>fP (λ_=>trivial) λ_=>fP (λ_=>trivial) λ_=>fP (λ_=>⟨a.2.2.1,a.2.2.2.1⟩) λ_=>fP (λ_=>fP (λ_=>trivial) λ_=>trivial) λ_ =>
  fP (λ_=>fP (λ_=>trivial) λ_=>trivial) λ_=>fP (λ_=>trivial) λ_=>fP (λ_=>fP (λ_=>BK _) λ_=>fP (λ_=>trivial) λ_=>fP (λ_=>trivial) λ_=>trivial) λ_=>MR l
theorem Eo (l:Lo) (r:List Nt) (h:r.Sublist l.notes):(RT.ek l r).2.mE (RT.ek l r).1:=by
 cases r with
 | nil=>trivial
 | cons d r=>exact h
theorem Yy {l:Lo} {t:RT} (j:l.OK) (h:t.mE l) (x:Rp):(RT.aB l t x).2.mE (RT.aB l t x).1:=by
 cases t with
 | eD i=>exact JP l _ (by have h:0<=i/\i<=8:=h;omega)
 | bX c=>exact fP (λhd=>⟨hd,h⟩) λ_=>fP (λ_=>h) λ_=>trivial
 | gp c w=>exact fP (λ_=>trivial) λ_=>fP (λ_=>h.2) λ_=>h.2
 | fA c a=>exact h
 | ed ay b=>exact fP (λ_=>trivial) λ_=>BK _
 | kQ c=>exact BK _
 | o5 =>
  have g:l.af=4:=h
  exact ⟨λe=>by
    have e:l.af=1:=e
    omega,Nat.zero_le _⟩
 | dQ m seen =>
  refine fP (λn=>⟨h.1,?_⟩) λ_=>fP (λ_=>Eo _ _ List.filter_sublist) λg=>?_
  ·have k:=j.threads
   have:l.all<=54:=by
    unfold Lo.all
    split <;> omega
   all_goals grind
  ·have f:l.af=4:=by omega
   exact fP (λ_=>f) λ_=>f
 | ko c=>exact h
 | gF=>exact Eo _ _ List.filter_sublist
 | fE d r =>
  refine Eo {l with notes:=l.notes.erase d,freed:=l.freed+1} r ?_
  have:=List.Sublist.erase d (show (d :: r).Sublist l.notes from h)
  rwa [List.erase_cons_head] at this
 | _=>trivial
theorem RT.aeS (l:Lo) (t:RT) (x:Rp):Sm l (RT.aB l t x).1:=by
 cases t with
 | eD i=>exact RT.Qu l _
 | bX c=>exact fK (Sm.refl l) (fK ⟨rfl,rfl,rfl,rfl⟩ (Sm.refl l))
 | gp c w=>exact fK (Sm.refl l) (fK ⟨rfl,rfl,rfl,rfl⟩ ⟨rfl,rfl,rfl,rfl⟩)
 | ed ay b=>exact fK ⟨rfl,rfl,rfl,rfl⟩ (RT.Tn ..)
 | kQ c=>exact RT.Qv l
 | dQ a seen=>exact fK (Sm.refl l) (fK (RT.Lh l _) (fK (Sm.refl l) (Sm.refl l)))
 | gF=>exact RT.Lh l _
 | fE d r =>
  have h:=RT.Lh {l with notes:=l.notes.erase d,freed:=l.freed+1} r
  exact ⟨h.af,h.me,h.threads,h.most⟩
 | mW=>exact ⟨rfl,rfl,rfl,rfl⟩
 | _=>exact Sm.refl l
structure uU (k:Int) (l:Lo) (t:RT) (p:PS):Prop where
 ok:l.OK
 mE:t.mE l
 Tz:p.OK
 lw:l.wb k
 tw:t.wb k
 pw:p.wb k
 fr:0<=l.freed/\l.freed<=k
 nl:(l.notes.length:Int)<=k
 st:p.steps<=k
 k0:0<=k
theorem RT.wb.mono {k k':Int} {t:RT} (h:t.wb k) (a:k<=k'):t.wb k':=by
 revert h
 cases t <;> intro h <;> first | exact trivial | exact Wb.mono h (by omega)
theorem uU.mono {k k':Int} {l:Lo} {t:RT} {p:PS} (h:uU k l t p) (a:k<=k'):uU k' l t p :=
 ⟨h.ok,h.mE,h.Tz,h.lw.mono a,h.tw.mono a,h.pw.mono a,by have:=h.fr;omega,by have:=h.nl;omega,by have:=h.st;omega,by have:=h.k0;omega⟩
theorem Yz {p p':PS} {a:Ac} {x:Rp} (h:p.act a=(p',some x)):p'.steps=p.steps+1:=by
 unfold PS.act at h
 split at h
 ·split at h
  ·simp only [Prod.mk.injEq] at h
   rw [<-h.1]
   unfold PS.makes
   split
   ·unfold PS.alloc
    split <;> rfl
   split
   ·rfl
   all_goals grind [PS.put]
  all_goals grind
 ·simp at h
theorem uU.aB {k:Int} {l:Lo} {t:RT} {p p':PS} {x:Rp} (h:uU k l t p) (d:p.act (t.acc l)=(p',some x)):uU (k+1) (RT.aB l t x).1 (RT.aB l t x).2 p'/\Wb (k+1) x.word:=by
 have b:=h.pw.act h.k0 h.Tz h.st (aiB h.k0 h.tw h.lw)
 have a:=h.Tz.act (t.acc l)
 rw [d] at b a
 have c:=aeQ h.k0 h.lw h.tw (b.2 x rfl)
 have g:=Yz d
 have f:=VN l t x
 have e:((RT.aB l t x).1.notes.length:Int)<=k+1:=by
  have:=aeR (n:=l.notes.length) l t x (Nat.le_refl _)
  have:=h.nl
  omega
 exact ⟨⟨(RT.aeS l t x).ok h.ok,Yy h.ok h.mE x,a,c.l,c.t,b.1,by have:=h.fr;omega,e,by have:=h.st;omega,by have:=h.k0;omega⟩,b.2 x rfl⟩
theorem uU.begin {k:Int} {l:Lo} {y:Rp} {p:PS} {c:Ca} (h:uU k l (.idle y) p) (e:c.OK) (f:Wb (k+1) c.new) (d:Wb k c.ay):uU (k+1) (RT.begin l c).1 (RT.begin l c).2 p:=by
 have b:=abk h.k0 h.lw f d
 have g:=RG l c
 have a:((RT.begin l c).1.notes.length:Int)<=k+1:=by
  have:=abl (n:=l.notes.length) l c (Nat.le_refl _)
  have:=h.nl
  omega
 exact ⟨RT.aaY h.ok,VO e,h.Tz,b.l.mono (by omega),b.t.mono (by omega),h.pw.mono (by omega),by have:=h.fr;omega,a,by have:=h.st;omega,by have:=h.k0;omega⟩
end Go.Proofs.YthomdlajobnmnaaGreatDoor
namespace Go.Proofs.YthomdlajobnmnaaGreatDoor.Gd
open Go.Rex
def bD {α:Type} (f:Nat->α) (i:Nat) (x:α):Nat->α:=λk=>if k=i then x else f k
theorem aG {α:Type} (f:Nat->α) (i:Nat) (x:α):bD f i x i=x:=if_pos rfl
theorem bR {α:Type} (f:Nat->α) {i k:Nat} (x:α) (h:k≠i):bD f i x k=f k:=if_neg h
theorem mY {α:Type} {f:Nat->α} {P:Nat->α->Prop} {i:Nat} {x:α} (b:P i x) (a:∀k,k≠i->P k (f k)):∀k,P k (bD f i x k):=by
 grind [aG,bR]
def ji (c:Int):Wd:=⟨0,0,c-1,c,false⟩
def aF (p:PS):Int:=(p.bd 24).num
def bU (p:PS) (s:Int):Int:=(p.cell (s-1).toNat 9).num
inductive fG where
 | free | hand (i:Nat) | Er | cut (i:Nat) | note (i:Nat) | lost
 deriving DecidableEq
def kv:RT->Option Wd
 | .jo o=>some o
 | .ed o _=>some o
 | _=>none
def jZ (l:Lo):RT->Option Int
 | .eD k=>some (25+9 * l.me+k)
 | .fin a=>if a.kind=2 then some a.field else none
 | .fA _ a=>some a.field
 | _=>none
def Cli (C:Int) (a:Ac):Prop:=(a.kind=1\/((a.kind=2\/a.kind=3)/\(a.slot=0->0<=a.field/\a.field<24)/\(a.slot≠0->0<=a.field/\a.field<9)))\/∃b,a=⟨4,0,0,0,Wd.zero,Wd.ig b⟩/\b<=C
def F4 (e C:Int) (i:Nat) (l:Lo):RT->Prop
 | .idle _=>True
 | .one a=>Cli C a
 | .fin a=>(∃k:Nat,k<9/\(e=2\/e=3)/\a=Ac.store 0 0 (25+9 * i+k) (l.h k))\/((e=4\/e=5)/\a=Ac.store 0 0 (79+i) (RS.iZ l.s))\/∃w,a=⟨5,0,0,0,w,Wd.zero⟩
 | .mW=>e=4\/e=5
 | .eD k=>(e=2\/e=3)/\(0<=k/\k<9)/\l.h k.toNat=Wd.zero
 | .bX c=>0<=c.i/\c.i<9
 | .gp c _=>(e=3\/e=5)/\0<=c.i/\c.i<9
 | .fA c a=>(0<=c.i/\c.i<9)/\(((e=2\/e=3)/\a=Ac.store 0 0 (25+9 * i+c.i) (l.h c.i.toNat))\/(e=5/\l.s.is=true/\a=Ac.store 0 0 (79+i) (RS.iZ l.s)))
 | .oZ=>e=3\/e=5
 | .jo _=>e=3\/e=5
 | .ed _ _=>e=3\/e=4\/e=5
 | .kQ b=>(e=3\/e=5)/\∃c,c<=C/\b=ji c
 | .o5=>e=4
 | .dQ b seen=>e≠1/\(seen.length:Int)<l.all/\(e=4->∃c,c<=C/\b=ji c)
 | .ko b=>e=4/\∃c,c<=C/\b=ji c
 | .gF=>e=4
 | .fE d r=>e≠1/\(∀x∈d :: r,x∈l.notes)/\(d :: r).Nodup
structure dm (e:Int) (n:Nat) (p:PS) (i:Nat) (h:LR):Prop where
 qp:h.1.af=e
 me:h.1.me=i
 QE:h.1.threads=n
 most:1<=h.1.most
 nk:e≠2->e≠3->∀k,k<9->h.1.h k=Wd.zero/\p.bd (25+9 * i+k)=Wd.zero
 ns:e≠4->e≠5->h.1.s=Sp.zero/\p.bd (79+i)=Wd.zero
 h3:e=3->∀k,k<9->(h.1.h k).num<=aF p/\(p.bd (25+9 * i+k)).num<=aF p
 s5:h.1.s=Sp.zero\/∃a b,h.1.s=⟨true,a,b⟩/\a<=b/\b<=aF p
 b5:p.bd (79+i)=Wd.zero\/∃a b,p.bd (79+i)=⟨0,0,b,a,true⟩/\a<=b/\b<=aF p
 kc:∀k:Nat,k<9->jZ h.1 h.2≠some (25+9 * (i:Int)+(k:Int))->p.bd (25+9 * i+k)=h.1.h k
 sc:jZ h.1 h.2≠some (79+(i:Int))->p.bd (79+i)=RS.iZ h.1.s
 sp:∀c a,h.2=.fA c a->e=5->p.bd (79+i)=Wd.zero\/((p.bd (79+i)).num=h.1.s.low/\(p.bd (79+i)).tag<=h.1.s.high)
 qw:F4 e (aF p) i h.1 h.2
structure Kp (e:Int) (w:Wd) (A:Int) (n:Nt):Prop where
 k2:e=2->w.slot=n.ref.slot
 k3:e=3->0<w.num/\n.bU<=w.num/\w.num<=n.iY
 k4:e=4->A<=n.iY
 k5:e=5->w.mark=true/\w.num<=n.iY/\n.bU<=w.tag
structure F5 (e:Int) (w:Wd) (s b:Int):Prop where
 k2:e=2->w.slot=s
 k3:e=3->0<w.num/\b<=w.num
 k4:e=4->w.mark=true
 k5:e=5->w.mark=true/\b<=w.tag
def iR (e:Int) (p:PS) (i k:Nat):Wd:=if e=2\/e=3 then p.bd (25+9 * i+k) else p.bd (79+i)
def su (e:Int) (i k:Nat):Nat:=if e=2\/e=3 then 9 * i+k else i
def NK (e:Int) (p:PS) (i:Nat) (K:List Nat) (A:Int) (h:LR) (s:Int):Prop :=
 ∀m∈h.1.notes,m.ref.slot=s->(∃k,k∈K/\k<9/\Kp e (iR e p i k) A m)/\(∀d r,h.2=.fE d r->m≠d/\m ∉ r) /\
  ∀a seen,h.2=.dQ a seen->e≠4->(∃k x,k<9/\seen[su e i k]?=some x/\Kp e x A m)\/∃k,k∈K/\k<9/\seen.length<=su e i k/\Kp e (iR e p i k) A m
structure anD (e:Int) (p:PS) (T:Nat->LR) (A:Nat->Int) (i:Nat) (K:List Nat) (s:Int):Prop where
 cov:∃k,k∈K/\k<9/\F5 e (iR e p i k) s (bU p s)
 nk:∀j,NK e p i K (A i) (T j) s
def fG.known (o:fG):Prop:=o≠.free/\∀i,o≠.hand i
structure gY (e:Int) (p:PS) (T:Nat->LR) (own:Int->fG) (A:Nat->Int) (i:Nat) (K:List Nat) (s g:Int):Prop where
 kn:(own s).known
 gen:p.gen (s-1).toNat=g
 held:anD e p T A i K s
def lF (C:Int) (i:Nat) (t:RT):Prop :=
 (∀a seen,t=.dQ a seen->a.num=C->∀x,seen[i]?=some x->x.mark=true/\x.num≠C)/\(∀a,t=.ko a->a.num≠C)
def Ep (n:Nat) (p:PS) (T:Nat->LR) (A:Nat->Int) (i:Nat):Prop :=
 (p.bd (79+i)).mark=true->((p.bd (79+i)).num<=A i/\A i<=aF p/\aF p<=A i+1)/\(aF p=A i+1->∀j,j<n->lF (aF p) i (T j).2)
structure VP (e:Int) (p:PS) (own:Int->fG) (i:Nat) (m:Nt):Prop where
 own:own m.ref.slot=.note i
 gen:p.gen (m.ref.slot-1).toNat=m.ref.gen
 bU:e=3\/e=5->m.bU=bU p m.ref.slot
 iY:e≠2->m.iY<=aF p
structure EI (n:Nat) (e:Int) (p:PS) (T:Nat->LR) (own:Int->fG) (A:Nat->Int):Prop where
 ok:p.OK
 nb:p.nb=85
 bP:p.bP=true
 n6:1<=n/\n<=6
 e5:1<=e/\e<=5
 clock:p.bd 24=ji (aF p)/\1<=aF p
 used:∀s,1<=s->s<=p.ns->(p.used (s-1).toNat=true↔own s≠.free)
 out:∀s,own s≠.free->1<=s/\s<=p.ns
 loc:∀i,i<n->dm e n p i (T i)
 rest:∀i,n<=i->(T i).1.notes=[]
 note:∀i,∀m∈(T i).1.notes,VP e p own i m
 zP:∀i,((T i).1.notes.map λm=>m.ref.slot).Nodup
 cut:∀i,i<n->∀o,kv (T i).2=some o->own o.slot=.cut i/\p.gen (o.slot-1).toNat=o.gen
 rb:∀i,i<n->∀o b,(T i).2=.ed o b->e≠4->b=bU p o.slot
 bU:∀s,own s≠.free->bU p s<=aF p
 ep:e=4->∀i,i<n->Ep n p T A i
def Calm (t:RT):Prop:=(∀d r,t≠.fE d r)/\(∀a seen,t=.dQ a seen->seen=[])/\(∀a,t≠.ko a)
section
variable {n:Nat} {e:Int} {p p':PS} {T:Nat->LR} {own V:Int->fG} {A W:Nat->Int} {i j:Nat} {h h':LR} {K:List Nat} {s g:Int}
theorem lF.calm {C:Int} {t:RT} (c:Calm t):lF C i t:=by
 refine ⟨λb seen a _ x d=>?_,λb a=>absurd a (c.2.2 b)⟩
 rw [c.2.1 b seen a] at d
 simp at d
theorem eF {t:RT} (h:t.aH<13\/t.aH=15):Calm t:=by
 cases t with
 | dQ _ _=>exact absurd h (by simp only [RT.aH];omega)
 | ko _=>exact absurd h (by simp only [RT.aH];omega)
 | fE _ _=>exact absurd h (by simp only [RT.aH];omega)
 | _=>exact ⟨λ_ _ h=>(by cases h),λ_ _ h=>(by cases h),λ_ h=>(by cases h)⟩
theorem Calm.new (ck:Wd):Calm (.dQ ck []):=⟨λ_ _ h=>(by cases h),λ_ _ h=>(by cases h;rfl),λ_ h=>(by cases h)⟩
theorem MS {l:Lo}:Calm (RT.scan l).2:=by
 unfold RT.scan
 all_goals grind [eF,RT.aH,Calm.new]
theorem vG {l:Lo}:Calm (RT.bQ l).2:=by
 unfold RT.bQ
 all_goals grind [MS,eF,RT.aH]
theorem dm.bg (L:dm e n p i h):h.1.bg↔(e=2\/e=3):=by unfold Lo.bg;rw [L.qp]
theorem dm.bF (L:dm e n p i h):h.1.bF↔(e=3\/e=5):=by unfold Lo.bF;rw [L.qp]
theorem dm.bJ (L:dm e n p i h):h.1.bJ↔(e=4\/e=5):=by unfold Lo.bJ;rw [L.qp]
theorem F4.le {C d:Int} {l:Lo} {t:RT} (q:C<=d) (H:F4 e C i l t):F4 e d i l t:=by
 cases t with
 | one a=>exact H.imp id λ⟨b,k,o⟩=>⟨b,k,by omega⟩
 | kQ f=>exact ⟨H.1,H.2.imp λc h=>⟨by omega,h.2⟩⟩
 | dQ f seen=>exact ⟨H.1,H.2.1,λm=>(H.2.2 m).imp λc h=>⟨by omega,h.2⟩⟩
 | ko f=>exact ⟨H.1,H.2.imp λc h=>⟨by omega,h.2⟩⟩
 | _=>exact H
theorem dm.other (L:dm e n p i h) (d:∀k,k<9->p'.bd (25+9 * i+k)=p.bd (25+9 * i+k)) (f:p'.bd (79+i)=p.bd (79+i)) (m:aF p<=aF p'):dm e n p' i h:=by
 refine ⟨L.qp,L.me,L.QE,L.most,λa b k c=>by rw [d k c];exact L.nk a b k c,by rw [f];exact L.ns,λl k c=>by rw [d k c];have:=L.h3 l k c;omega,?_,?_,λk c=>by rw [d k c];exact L.kc k c,by rw [f];exact L.sc,by rw [f];exact L.sp,L.qw.le m⟩
 all_goals grind [dm.s5,dm.b5]
theorem dm.go (L:dm e n p i h) (b:h'.1.af=h.1.af/\h'.1.me=h.1.me/\h'.1.threads=h.1.threads/\h'.1.most=h.1.most/\h'.1.h=h.1.h/\h'.1.s=h.1.s) (l:jZ h.1 h.2=none) (t:F4 e (aF p) i h'.1 h'.2) (u:∀c a,h'.2≠.fA c a):dm e n p i h':=by
 obtain ⟨q,m,r,o,f,d⟩:=b
 refine ⟨by rw [q];exact L.qp,by rw [m];exact L.me,by rw [r];exact L.QE,by rw [o];exact L.most,by rw [f];exact L.nk,by rw [d];exact L.ns,by rw [f];exact L.h3,by rw [d];exact L.s5,L.b5,λk b _=>by rw [f];exact L.kc k b (by rw [l];simp),λ_=>by rw [d];exact L.sc (by rw [l];simp),λc a h=>absurd h (u c a),t⟩
theorem F5.of {w:Wd} {b a:Int} (h:F5 e w s b) (c:a=b):F5 e w s a:=c ▸ h
theorem NK.calm (H:NK e p i K (A i) h s) (t:∀m,m∈h'.1.notes->m∈h.1.notes) (l:Calm h'.2):NK e p i K (A i) h' s:=by
 intro m o q
 obtain ⟨k,c,b,f⟩:=(H m (t m o) q).1
 refine ⟨⟨k,c,b,f⟩,λd r a=>absurd a (l.1 d r),λu seen a _=>.inr ⟨k,c,b,?_,f⟩⟩
 rw [l.2.1 u seen a]
 exact Nat.zero_le _
theorem NK.iR (H:NK e p i K (A i) h s) (c:∀k,k∈K->k<9->∀m,Kp e (iR e p i k) (A i) m->Kp e (iR e p' i k) (W i) m) (r:∀w m,Kp e w (A i) m->Kp e w (W i) m):NK e p' i K (W i) h s:=by
 intro m a b
 obtain ⟨⟨k,l,d,q⟩,f,o⟩:=H m a b
 all_goals grind
theorem gY.p8 (S:gY e p T own A j K s g) (d:(own s).known->(V s).known/\p'.gen (s-1).toNat=p.gen (s-1).toNat/\Gd.bU p' s=Gd.bU p s)
  (l:∀k,k∈K->k<9->(∀b,F5 e (iR e p j k) s b->F5 e (iR e p' j k) s b)/\∀m,Kp e (iR e p j k) (A j) m->Kp e (iR e p' j k) (W j) m) (o:∀w m,Kp e w (A j) m->Kp e w (W j) m)
  (f:NK e p j K (A j) (T i) s->(∃k,k∈K/\k<9/\F5 e (iR e p j k) s (Gd.bU p s))->NK e p j K (A j) h' s):gY e p' (bD T i h') V W j K s g:=by
 obtain ⟨r,q,t⟩:=d S.kn
 refine ⟨r,q.trans S.gen,?_,?_⟩
 ·obtain ⟨k,a,b,c⟩:=S.held.cov
  all_goals grind
 ·exact mY (P:=λ_ h=>NK e p' j K (W j) h s) ((f (S.held.nk i) S.held.cov).iR (λk x y=>(l k x y).2) o) λk _=>(S.held.nk k).iR (λk x y=>(l k x y).2) o
theorem gY.mono {f:List Nat} (S:gY e p T own A j K s g) (o:∀k,k∈K->k∈f):gY e p T own A j f s g:=by
 refine ⟨S.kn,S.gen,?_,λi m l q=>?_⟩
 ·obtain ⟨k,a,b⟩:=S.held.cov
  exact ⟨k,o k a,b⟩
 ·obtain ⟨⟨k,a,b⟩,c,d⟩:=S.held.nk i m l q
  all_goals grind
theorem gY.copy {a b:Nat} (S:gY e p T own A j [a] s g) (q:a<=b) (w:b<9) (u:iR e p j b=iR e p j a):gY e p T own A j [b] s g:=by
 refine ⟨S.kn,S.gen,?_,λi m f t=>?_⟩
 ·obtain ⟨k,o,l,r⟩:=S.held.cov
  all_goals grind
 ·obtain ⟨⟨k,o,l,r⟩,c,d⟩:=S.held.nk i m f t
  all_goals grind [Nat.le_trans,su]
theorem EI.safe (H:EI n e p T own A) (a:own s=.Er) (l:p.gen (s-1).toNat=g) {k:Nat} (c:k∈K) (d:k<9) (o:F5 e (iR e p i k) s (Gd.bU p s)):gY e p T own A i K s g:=by
 refine ⟨by rw [a];exact ⟨by simp,by simp⟩,l,⟨k,c,d,o⟩,λj m b f=>?_⟩
 have:=(H.note j m b).own
 rw [f,a] at this
 cases this
theorem EI.p8 (H:EI n e p T own A) (O:i<n) (u:p'.OK) (hd:p'.nb=p.nb/\p'.ns=p.ns/\p'.bP=p.bP) (l:p'.bd 24=ji (aF p')/\aF p<=aF p')
  (y:∀j,j<n->j≠i->(∀k,k<9->p'.bd (25+9 * j+k)=p.bd (25+9 * j+k))/\p'.bd (79+j)=p.bd (79+j)) (I:dm e n p' i h')
  (L:∀s,1<=s->s<=p.ns->(p'.used (s-1).toNat=true↔V s≠.free)) (F:∀s,V s≠.free->1<=s/\s<=p.ns)
  (E:∀s,V s≠.free->(own s≠.free/\p'.gen (s-1).toNat=p.gen (s-1).toNat/\Gd.bU p' s=Gd.bU p s)\/(own s=.free/\Gd.bU p' s<=aF p'))
  (r:∀j,j≠i->∀s,(own s=.note j->V s=.note j)/\(own s=.cut j->V s=.cut j))
  (Q:∀m∈h'.1.notes,VP e p' V i m) (t:(h'.1.notes.map λm=>m.ref.slot).Nodup)
  (S:∀o,kv h'.2=some o->V o.slot=.cut i/\p'.gen (o.slot-1).toNat=o.gen) (J:∀o b,h'.2=.ed o b->e≠4->b=Gd.bU p' o.slot)
  (w:e=4->∀j,j<n->Ep n p' (bD T i h') W j):EI n e p' (bD T i h') V W:=by
 have hold:∀s o,own s=o->o≠.free->V s=o->p'.gen (s-1).toNat=p.gen (s-1).toNat/\Gd.bU p' s=Gd.bU p s:=λs o B D C=>by
  grind
 refine ⟨u,hd.1.trans H.nb,hd.2.2.trans H.bP,H.n6,H.e5,⟨l.1,by have:=H.clock.2;omega⟩,by rw [hd.2.1];exact L,by rw [hd.2.1];exact F,?_,?_,?_,?_,?_,?_,λs N=>?_,w⟩
 ·exact mY (P:=λj h=>j<n->dm e n p' j h) (λ_=>I) λj q f=>(H.loc j f).other (y j f q).1 (y j f q).2 l.2
 ·exact mY (P:=λj (h:LR)=>n<=j->h.1.notes=[]) (λh=>absurd O (Nat.not_lt.2 h)) λj _=>H.rest j
 ·refine mY (P:=λj (h:LR)=>∀m∈h.1.notes,VP e p' V j m) Q λj q m R=>?_
  obtain ⟨a,b,c,d⟩:=H.note j m R
  have z:=(r j q _).1 a
  obtain ⟨G,g2⟩:=hold _ _ a (by simp) z
  exact ⟨z,G.trans b,λh=>(c h).trans g2.symm,λh=>Int.le_trans (d h) l.2⟩
 ·exact mY (P:=λj (h:LR)=>(h.1.notes.map λm=>m.ref.slot).Nodup) t λj _=>H.zP j
 ·refine mY (P:=λj (h:LR)=>j<n->∀o,kv h.2=some o->V o.slot=.cut j/\p'.gen (o.slot-1).toNat=o.gen) (λ_=>S) λj q f o M=>?_
  all_goals grind [EI.cut]
 ·refine mY (P:=λj (h:LR)=>j<n->∀o b,h.2=.ed o b->e≠4->b=Gd.bU p' o.slot) (λ_=>J) λj q f o b x U=>?_
  obtain ⟨a,-⟩:=H.cut j f o (by rw [x];rfl)
  all_goals grind [EI.rb]
 ·rcases E s N with ⟨B,D,C⟩ | h
  ·rw [C];exact Int.le_trans (H.bU s B) l.2
  ·exact h.2
theorem Ep.same (H:e=4->∀j,j<n->Ep n p T A j) (q:∀j,j<n->p'.bd (79+j)=p.bd (79+j)) (r:aF p'=aF p) (u:∀j,j<n->W j=A j)
  (m:∀j,j<n->(p.bd (79+j)).mark=true->aF p=A j+1->(p.bd (79+j)).num<=A j->lF (aF p) j (T i).2->lF (aF p) j h'.2) (t:i<n):e=4->∀j,j<n->Ep n p' (bD T i h') W j:=by
 intro o j d f
 rw [q j d] at f ⊢
 rw [r,u j d]
 obtain ⟨a,b⟩:=H o j d f
 refine ⟨a,λc=>?_⟩
 exact mY (P:=λk (h:LR)=>k<n->lF (aF p) j h.2) (λ_=>m j d f c a.1 (b c i t)) λk _ l=>b c k l
theorem EI.stay (H:EI n e p T own A) (f:i<n) {k:Int} (c:({p with steps:=k}:PS).OK) (t:dm e n p i h') (q:h'.1.notes=(T i).1.notes) (x:∀o,kv h'.2=some o->kv (T i).2=some o)
  (u:∀o b,h'.2=.ed o b->e≠4->b=Gd.bU p o.slot) (d:e=4->∀j,j<n->(p.bd (79+j)).mark=true->aF p=A j+1->(p.bd (79+j)).num<=A j->lF (aF p) j (T i).2->lF (aF p) j h'.2) :
  EI n e {p with steps:=k} (bD T i h') own A :=
 H.p8 f c ⟨rfl,rfl,rfl⟩ ⟨H.clock.1,Int.le_refl _⟩ (λ_ _ _=>⟨λ_ _=>rfl,rfl⟩) (t.other (λ_ _=>rfl) rfl (Int.le_refl _)) H.used H.out (λs w=>.inl ⟨w,rfl,rfl⟩) (λ_ _ _=>⟨id,id⟩) (by rw [q];exact λm a=>⟨(H.note i m a).own,(H.note i m a).gen,(H.note i m a).bU,(H.note i m a).iY⟩) (by rw [q];exact H.zP i) (λo r=>H.cut i f o (x o r)) u
  (λl=>Ep.same (p:=p) (A:=A) (T:=T) H.ep (λ_ _=>rfl) rfl (λ_ _=>rfl) (d l) f l)
theorem EI.calm (H:EI n e p T own A) (m:i<n) {k:Int} (a:({p with steps:=k}:PS).OK) (d:dm e n p i h') (q:h'.1.notes=(T i).1.notes) (l:∀o,kv h'.2=some o->kv (T i).2=some o)
  (f:∀o b,h'.2=.ed o b->e≠4->b=Gd.bU p o.slot) (c:Calm h'.2):EI n e {p with steps:=k} (bD T i h') own A :=
 H.stay m a d q l f λ_ _ _ _ _ _ _=>lF.calm c
theorem gY.calm (S:gY e p T own A j K s g) {k:Int} (b:∀m,m∈h'.1.notes->m∈(T i).1.notes) (a:Calm h'.2):gY e {p with steps:=k} (bD T i h') own A j K s g :=
 S.p8 (λh=>⟨h,rfl,rfl⟩) (λ_ _ _=>⟨λ_ h=>h,λ_ h=>h⟩) (λ_ _ h=>h) λH _=>H.calm b a
end
def gV (p:PS) (k:Int) (b:Nat) (w:Wd):PS:={p with steps:=k,bd:=λa=>if a=b then w else p.bd a}
section
variable {n:Nat} {e:Int} {p p':PS} {T:Nat->LR} {own W:Int->fG} {A X:Nat->Int} {i j:Nat} {l:Lo} {t:RT} {h h':LR} {K:List Nat} {s g:Int} {x:Rp} {c:Ca}
theorem pR {k:Int} {b:Nat} {w:Wd}:(gV p k b w).bd b=w:=by simp [gV]
theorem fw {k:Int} {b c:Nat} {w:Wd} (h:c≠b):(gV p k b w).bd c=p.bd c:=by simp [gV,h]
theorem BL {k:Int} {b:Nat} {w:Wd} (h:b≠24):aF (gV p k b w)=aF p:=by unfold aF;rw [fw (Ne.symm h)]
theorem dm.idle (L:dm e n p i (l,t)) (a:jZ l t=none) (x:Rp):dm e n p i (l,.idle x) :=
 L.go ⟨rfl,rfl,rfl,rfl,rfl,rfl⟩ a trivial (λ_ _ h=>by cases h)
theorem dm.kb (L:dm e n p i (l,.idle x)) {k:Nat} (a:k<9):p.bd (25+9 * i+k)=l.h k:=L.kc k a (by simp [jZ])
theorem dm.sb (L:dm e n p i (l,.idle x)):p.bd (79+i)=RS.iZ l.s:=L.sc (by simp [jZ])
theorem dm.next (L:dm e n p i (l,.idle x)) (b:F4 e (aF p) i l t) (d:∀c a,t≠.fA c a):dm e n p i (l,t):=L.go (h':=(l,t)) ⟨rfl,rfl,rfl,rfl,rfl,rfl⟩ rfl b d
theorem dm.note (L:dm e n p i (l,.idle x)) (o:Wd) (b d:Int):dm e n p i (RT.note l o b d,.idle x):=L.go (h':=(RT.note l o b d,.idle x)) ⟨rfl,rfl,rfl,rfl,rfl,rfl⟩ rfl trivial (λ_ _ h=>by cases h)
theorem TA (L:dm e n p i h):RS.iZ h.1.s=Wd.zero\/∃a b,RS.iZ h.1.s=⟨0,0,b,a,true⟩/\a<=b/\b<=aF p:=by
 rcases L.s5 with d | ⟨a,b,d,f,k⟩
 ·rw [d];exact .inl rfl
 ·rw [d];exact .inr ⟨a,b,rfl,f,k⟩
theorem dm.hold (L:dm e n p i (l,.idle x)) {k:Int} (C:0<=k/\k<9) (o:e=2\/e=3) {w:Wd} (r:e=3->w.num<=aF p) (D:jZ (l.hold k w) t=some (25+9 * (i:Int)+k)) (z:F4 e (aF p) i (l.hold k w) t):dm e n p i (l.hold k w,t):=by
 have q:∀m:Nat,(m:Int)≠k->(l.hold k w).h m=l.h m:=λm d=>iN
 refine ⟨L.qp,L.me,L.QE,L.most,λa b=>absurd o (by omega),L.ns,λf m d=>?_,L.s5,L.b5,λm d u=>?_,λ_=>L.sb,λc a _ B=>absurd o (by omega),z⟩
 ·have:=L.h3 f m d
  refine ⟨?_,this.2⟩
  by_cases y:(m:Int)=k
  ·show (if m=k.toNat then w else l.h m).num<=_
   rw [if_pos (by omega)]
   exact r f
  all_goals grind
 all_goals grind [jZ,dm.kb]
theorem dm.span (L:dm e n p i (l,.idle x)) (k:e=4\/e=5) {z:Sp} (q:z=Sp.zero\/∃a b,z=⟨true,a,b⟩/\a<=b/\b<=aF p) (d:jZ {l with s:=z} t=some (79+(i:Int)))
  (hq:∀c a,t=.fA c a->e=5->p.bd (79+i)=Wd.zero\/((p.bd (79+i)).num=z.low/\(p.bd (79+i)).tag<=z.high)) (o:F4 e (aF p) i {l with s:=z} t):dm e n p i ({l with s:=z},t) :=
 ⟨L.qp,L.me,L.QE,L.most,L.nk,λa b=>absurd k (by omega),L.h3,q,L.b5,λm f _=>L.kb f,λh=>absurd d h,hq,o⟩
theorem JQ (f:Nat->Wd):∀(k m q:Nat),RS.first f m k=some q->m<=q/\q<m+k
 | 0,m,q,h=>by cases h
 | k+1,m,q,h=>by
  unfold RS.first at h
  by_cases a:f m≠Wd.zero
  ·rw [if_pos a] at h;cases h;omega
  ·rw [if_neg a] at h
   have:=JQ f k (m+1) q h
   omega
theorem dm.leave (L:dm e n p i (l,.idle x)) (r:1<=aF p) (k:Int) (q:0<=k):dm e n p i (RT.leave l k):=by
 unfold RT.leave
 by_cases f:l.bJ/\l.s≠Sp.zero
 ·rw [if_pos f]
  have b:=L.bJ.1 f.1
  exact L.span b (.inl rfl) (by simp [jZ,RT.jf,Ac.store,L.me];have:=L.me;simp only at this;omega) (λc a h=>by cases h) (.inr (.inl ⟨b,by unfold RT.jf;have:=L.me;simp only at this;rw [this]⟩))
 rw [if_neg f]
 by_cases d:l.bg
 ·rw [if_pos d]
  have b:=L.bg.1 d
  cases o:RS.first l.h k.toNat (9-k.toNat) with
  | none=>exact L.next trivial (λ_ _ h=>by cases h)
  | some m =>
   have:=JQ l.h _ _ _ o
   refine L.hold (k:=(m:Int)) (by omega) b (λ_=>?_) ?_ ⟨b,by omega,?_⟩
   ·show (0:Int)<=_;omega
   ·have:=L.me;simp only at this
    show some _=some _
    rw [show (l.hold m Wd.zero).me=l.me from rfl,this]
   ·show (if (m:Int).toNat=(m:Int).toNat then _ else _)=_
    rw [if_pos rfl]
 rw [if_neg d]
 exact L.next trivial (λ_ _ h=>by cases h)
theorem F6 (l:Lo) (k:Int):(RT.leave l k).1.notes=l.notes:=by
 unfold RT.leave
 split
 ·rfl
 split
 ·cases RS.first l.h k.toNat (9-k.toNat) <;> rfl
 ·rfl
theorem TB (l:Lo) (k:Int):Calm (RT.leave l k).2/\(∀o,kv (RT.leave l k).2≠some o)/\∀o b,(RT.leave l k).2≠.ed o b:=by
 unfold RT.leave
 split
 ·exact ⟨eF (.inl (by simp only [RT.aH];omega)),λ_ h=>(by cases h),λ_ _ h=>(by cases h)⟩
 split
 ·cases RS.first l.h k.toNat (9-k.toNat) <;> exact ⟨eF (.inl (by simp only [RT.aH];omega)),λ_ h=>(by cases h),λ_ _ h=>(by cases h)⟩
 ·exact ⟨eF (.inl (by simp only [RT.aH];omega)),λ_ h=>(by cases h),λ_ _ h=>(by cases h)⟩
theorem dm.TC (L:dm e n p i h) (a:1<=n/\n<=6):0<h.1.all:=by
 have:=L.QE
 unfold Lo.all
 split <;> omega
theorem dm.scan (L:dm e n p i (l,.idle x)) (f:1<=n/\n<=6):dm e n p i (RT.scan l):=by
 have b:=L.qp
 simp only at b
 unfold RT.scan
 by_cases d:l.af=1
 ·rw [if_pos d];exact L.next trivial (λ_ _ h=>by cases h)
 rw [if_neg d]
 by_cases a:l.af=4
 ·rw [if_pos a];exact L.next (b.symm.trans a) (λ_ _ h=>by cases h)
 ·rw [if_neg a]
  exact L.next ⟨by omega,by have:=L.TC f;simpa using this,λh=>absurd h (by omega)⟩ (λ_ _ h=>by cases h)
theorem dm.bQ (L:dm e n p i (l,.idle x)) (a:1<=n/\n<=6):dm e n p i (RT.bQ l):=by
 unfold RT.bQ
 split
 ·exact L.scan a
 ·exact L.next trivial (λ_ _ h=>by cases h)
theorem VQ (l:Lo):(RT.scan l).1.notes=l.notes:=by unfold RT.scan;split;rfl;split <;> rfl
theorem yZ (l:Lo):(RT.bQ l).1.notes=l.notes:=by unfold RT.bQ;split;exact VQ l;rfl
theorem YA (l:Lo):(∀o,kv (RT.scan l).2≠some o)/\∀o b,(RT.scan l).2≠.ed o b:=by
 unfold RT.scan
 split
 ·exact ⟨λ_ h=>(by cases h),λ_ _ h=>(by cases h)⟩
 split <;> exact ⟨λ_ h=>(by cases h),λ_ _ h=>(by cases h)⟩
theorem vU (l:Lo):(∀o,kv (RT.bQ l).2≠some o)/\∀o b,(RT.bQ l).2≠.ed o b:=by
 unfold RT.bQ
 split
 ·exact YA l
 ·exact ⟨λ_ h=>(by cases h),λ_ _ h=>(by cases h)⟩
theorem EI.vH (H:EI n e p T own A) {s0:Int} {o1:fG} (y:own s0≠.free) (f:∀j,own s0≠.note j) (u:∀j,j<n->∀o,kv (T j).2=some o->o.slot≠s0) (z:o1≠.free) :
  EI n e p T (λs=>if s=s0 then o1 else own s) A:=by
 have k:∀s,(if s=s0 then o1 else own s)≠.free↔own s≠.free:=λs=>by
  grind
 refine ⟨H.ok,H.nb,H.bP,H.n6,H.e5,H.clock,λs a b=>(H.used s a b).trans (k s).symm,λs r=>H.out s ((k s).1 r),H.loc,H.rest,λj m w=>?_,H.zP,λj C o B=>?_,H.rb,λs r=>H.bU s ((k s).1 r),H.ep⟩
 ·obtain ⟨a,b,c,d⟩:=H.note j m w
  exact ⟨(if_neg λq=>f j (by rw [<-q];exact a)).trans a,b,c,d⟩
 all_goals grind [EI.cut]
theorem EI.YB (H:EI n e p T own A) {s0:Int} {o1:fG} (a:own s0=.Er\/∃j,own s0=.hand j) (f:o1≠.free):EI n e p T (λs=>if s=s0 then o1 else own s) A :=
 H.vH (by rcases a with h | ⟨j,h⟩ <;> rw [h] <;> simp) (λj=>by rcases a with h | ⟨j,h⟩ <;> rw [h] <;> simp) (λj d o b q=>by
   have:=(H.cut j d o b).1
   rw [q] at this
   rcases a with h | ⟨j,h⟩ <;> rw [h] at this <;> cases this) f
theorem gY.vH (S:gY e p T own A j K s g) {s0:Int} {o1:fG} (a:o1.known):gY e p T (λs=>if s=s0 then o1 else own s) A j K s g:=by
 refine ⟨?_,S.gen,S.held⟩
 all_goals grind [fG.known,gY.kn]
theorem EI.zQ (H:EI n e p T own A) (w:i<n) {k:Int} (u:({p with steps:=k}:PS).OK) {m:Nt} (B:dm e n p i h') (y:h'.1.notes=(T i).1.notes ++ [m]) (f:VP e p own i m) (I:∀d∈(T i).1.notes,d.ref.slot≠m.ref.slot)
  (F:∀o,kv h'.2≠some o) (C:∀o b,h'.2≠.ed o b) (r:Calm h'.2):EI n e {p with steps:=k} (bD T i h') own A:=by
 refine H.p8 w u ⟨rfl,rfl,rfl⟩ ⟨H.clock.1,Int.le_refl _⟩ (λ_ _ _=>⟨λ_ _=>rfl,rfl⟩) (B.other (λ_ _=>rfl) rfl (Int.le_refl _)) H.used H.out (λs D=>.inl ⟨D,rfl,rfl⟩) (λ_ _ _=>⟨id,id⟩) ?_ ?_ (λo z=>absurd z (F o)) (λo b h=>absurd h (C o b))
  (λE=>Ep.same (p:=p) (A:=A) (T:=T) H.ep (λ_ _=>rfl) rfl (λ_ _=>rfl) (λ_ _ _ _ _ _=>lF.calm r) w E)
 ·rw [y]
  intro d q
  rcases List.mem_append.1 q with h | h
  ·exact ⟨(H.note i d h).own,(H.note i d h).gen,(H.note i d h).bU,(H.note i d h).iY⟩
  ·obtain rfl:=List.mem_singleton.1 h
   exact ⟨f.own,f.gen,f.bU,f.iY⟩
 ·rw [y,List.map_append,List.nodup_append]
  refine ⟨H.zP i,by simp,λa J b G=>?_⟩
  all_goals grind
theorem gY.zQ (H:EI n e p T own A) (G:j<n) (S:gY e p T own A j K s g) {k:Int} {m:Nt} (R:h'.1.notes=(T i).1.notes ++ [m]) (O:e=3\/e=5->m.bU=Gd.bU p m.ref.slot) (hd:e≠2->m.iY=aF p) (q:Calm h'.2) :
  gY e {p with steps:=k} (bD T i h') own A j K s g:=by
 have L:=H.loc j G
 refine S.p8 (p':={p with steps:=k}) (λh=>⟨h,rfl,rfl⟩) (λ_ _ _=>⟨λ_ h=>h,λ_ h=>h⟩) (λ_ _ h=>h) λN ⟨k,M,E,c⟩=>?_
 intro D o w
 have key:∃k,k∈K/\k<9/\Kp e (iR e p j k) (A j) D:=by
  rw [R] at o
  rcases List.mem_append.1 o with h | h
  ·exact (N D h w).1
  ·obtain rfl:=List.mem_singleton.1 h
   refine ⟨k,M,E,λP=>(c.k2 P).trans w.symm,λF=>?_,λI=>?_,λy=>?_⟩
   ·have f:=(L.h3 F k E).2
    have z:=c.k3 F
    all_goals grind [iR]
   ·have f:=c.k4 I
    unfold iR at f
    rw [iN] at f
    rw [hd (by omega)]
    exact (H.ep I j G f).1.2.1
   ·have f:=c.k5 y
    refine ⟨f.1,?_,by rw [O (.inr y),w];exact f.2⟩
    rw [hd (by omega)]
    unfold iR at f ⊢
    rw [iN] at f ⊢
    rcases L.b5 with h | ⟨a,b,z,V,U⟩
    ·rw [h] at f;exact absurd f.1 (by decide)
    ·rw [z];show a<=_;omega
 obtain ⟨k,B,J,C⟩:=key
 refine ⟨⟨k,B,J,C⟩,λd r u=>absurd u (q.1 d r),λQ seen u _=>.inr ⟨k,B,J,?_,C⟩⟩
 rw [q.2.1 Q seen u]
 exact Nat.zero_le _
def On (n:Nat) (e:Int) (p:PS) (T:Nat->LR) (own:Int->fG) (A:Nat->Int) (p':PS) (a:Nat->LR) (W:Int->fG) (X:Nat->Int) (ok:Nat->List Nat->Prop):Prop :=
 EI n e p' a W X/\∀j,j<n->∀K,ok j K->∀s g,gY e p T own A j K s g->gY e p' a W X j K s g
theorem EI.on (H:EI n e p T own A) (u:i<n) {k:Int} (d:({p with steps:=k}:PS).OK) (m:dm e n p i h') (f:h'.1.notes=(T i).1.notes) (r:∀o,kv h'.2=some o->kv (T i).2=some o)
  (q:∀o b,h'.2=.ed o b->e≠4->b=Gd.bU p o.slot) (a:Calm h'.2):On n e p T own A {p with steps:=k} (bD T i h') own A λ_ _=>True :=
 ⟨H.calm u d m f r q a,λj _ K _ s g S=>S.calm (by rw [f];exact λ_ h=>h) a⟩
theorem EI.fQ (H:EI n e p T own A) (C:i<n) (D:T i=(l,.idle x)) (E:c.OK) (y:c.kind≠2/\c.kind≠7/\c.kind≠10) (q:c.kind=4\/c.kind=5->(c.slot=0->0<=c.field/\c.field<24)/\(c.slot≠0->0<=c.field/\c.field<9)) :
  On n e p T own A p (bD T i (RT.begin l c)) own A λ_ _=>True:=by
 have L:=H.loc i C
 rw [D] at L
 have key:(RT.begin l c).1=l/\dm e n p i (RT.begin l c)/\Calm (RT.begin l c).2/\(∀o,kv (RT.begin l c).2≠some o)/\∀o b,(RT.begin l c).2≠.ed o b:=by
  have d:∀t:RT,t.aH<9->F4 e (aF p) i l t->(∀c a,t≠.fA c a)->(l,t).1=l/\dm e n p i (l,t)/\Calm (l,t).2/\(∀o,kv (l,t).2≠some o)/\∀o b,(l,t).2≠.ed o b:=λt G F I =>
   ⟨rfl,L.next F I,eF (.inl (by show t.aH<13;omega)),λo f=>by cases t <;> first | (cases f;done) | (exact absurd G (by simp only [RT.aH];omega)),λo b f=>by
     grind [RT.aH]⟩
  unfold RT.begin
  by_cases u:c.kind=1
  ·rw [if_pos u]
   by_cases g:l.bJ
   ·rw [if_pos g]
    exact d _ (by simp only [RT.aH];omega) (L.bJ.1 g) (λ_ _ h=>by cases h)
   ·rw [if_neg g]
    exact d _ (by simp only [RT.aH];omega) trivial (λ_ _ h=>by cases h)
  rw [if_neg u,if_neg y.1]
  by_cases w:c.kind=3
  ·rw [if_pos w]
   exact d _ (by simp only [RT.aH];omega) (.inl (.inl rfl)) (λ_ _ h=>by cases h)
  rw [if_neg w]
  by_cases r:c.kind=4
  ·rw [if_pos r]
   exact d _ (by simp only [RT.aH];omega) (.inl (.inr ⟨.inl rfl,q (.inl r)⟩)) (λ_ _ h=>by cases h)
  rw [if_neg r]
  by_cases m:c.kind=5
  ·rw [if_pos m]
   exact d _ (by simp only [RT.aH];omega) (.inl (.inr ⟨.inr rfl,q (.inr m)⟩)) (λ_ _ h=>by cases h)
  rw [if_neg m]
  by_cases k6:c.kind=6
  ·rw [if_pos k6]
   exact d _ (by simp only [RT.aH];omega) ⟨E.2.2.1,E.2.2.2.1⟩ (λ_ _ h=>by cases h)
  rw [if_neg k6,if_neg y.2.1]
  by_cases z:c.kind=8
  ·rw [if_pos z]
   by_cases g:l.bF
   ·rw [if_pos g]
    exact d _ (by simp only [RT.aH];omega) (L.bF.1 g) (λ_ _ h=>by cases h)
   ·rw [if_neg g]
    exact d _ (by simp only [RT.aH];omega) (.inr ⟨0,rfl,by have:=H.clock.2;omega⟩) (λ_ _ h=>by cases h)
  rw [if_neg z]
  by_cases B:c.kind=9
  ·rw [if_pos B]
   exact d _ (by simp only [RT.aH];omega) (.inr (.inr ⟨_,rfl⟩)) (λ_ _ h=>by cases h)
  rw [if_neg B,if_neg y.2.2]
  refine ⟨?_,L.scan H.n6,MS,YA l⟩
  unfold RT.scan
  split
  ·rfl
  split <;> rfl
 obtain ⟨u,J,w,r,m⟩:=key
 exact H.on C (k:=p.steps) H.ok J (by rw [u,D]) (λo f=>absurd f (r o)) (λo b f=>absurd f (m o b)) w
theorem EI.abm (H:EI n e p T own A) (m:i<n) (q:T i=(l,.idle x)) (r:c.kind=2):On n e p T own A p (bD T i (RT.begin l c)) own A λ_ _=>True:=by
 have L:=H.loc i m
 rw [q] at L
 have u:RT.begin l c=RT.leave l 0:=by
  unfold RT.begin
  rw [iN,if_pos r]
 rw [u]
 obtain ⟨a,b,d⟩:=TB l 0
 exact H.on m (k:=p.steps) H.ok (L.leave H.clock.2 0 (by decide)) (by rw [F6,q]) (λo f=>absurd f (b o)) (λo b f=>absurd f (d o b)) a
theorem EI.aeT (H:EI n e p T own A) (w:i<n) (z:T i=(l,.idle x)) (I:c.kind=7) (G:c.OK) (B:c.i≠c.j) :
  On n e p T own A p (bD T i (RT.begin l c)) own A (λ_ _=>True)/\((∃y,RT.begin l c=(l,.idle y))\/∃E a,RT.begin l c=(E,.fin a))/\(e=2\/e=3->(RT.begin l c).1.h c.i.toNat=(RT.begin l c).1.h c.j.toNat):=by
 have L:=H.loc i w
 rw [z] at L
 obtain ⟨-,-,c1,c2,c3,c4⟩:=G
 have C:RT.begin l c=if l.bg/\l.h c.i.toNat≠l.h c.j.toNat then (l.hold c.i (l.h c.j.toNat),.fin (Ac.store 0 0 (25+l.me * 9+c.i) (l.h c.j.toNat))) else (l,.idle Rp.yes):=by
  unfold RT.begin
  all_goals grind
 rw [C]
 have f:=L.me
 simp only at f
 by_cases g:l.bg/\l.h c.i.toNat≠l.h c.j.toNat
 ·rw [if_pos g]
  have m:=L.bg.1 g.1
  have u:(l.hold c.i (l.h c.j.toNat)).h c.i.toNat=l.h c.j.toNat:=if_pos rfl
  have r:(l.hold c.i (l.h c.j.toNat)).h c.j.toNat=l.h c.j.toNat:=iN
  have F:Ac.store 0 0 (25+l.me * 9+c.i) (l.h c.j.toNat)=Ac.store 0 0 (25+9 * i+c.i) (l.h c.j.toNat):=by rw [f];congr 1;omega
  refine ⟨H.on w (k:=p.steps) H.ok ?_ (by rw [z];rfl) (λo d=>by cases d) (λo b d=>by cases d) (eF (.inl (by simp only [RT.aH];omega))),.inr ⟨_,_,rfl⟩,λ_=>u.trans r.symm⟩
  refine L.hold ⟨c1,c2⟩ m (λD=>(L.h3 D c.j.toNat (by omega)).1) ?_ (.inl ⟨c.i.toNat,by omega,m,?_⟩)
  ·rw [F];rfl
  all_goals grind
 ·rw [if_neg g]
  refine ⟨H.on w (k:=p.steps) H.ok (L.next trivial (λ_ _ h=>by cases h)) (by rw [z]) (λo d=>by cases d) (λo b d=>by cases d) (eF (.inl (by simp only [RT.aH];omega))),.inl ⟨_,rfl⟩,λm=>?_⟩
  by_cases q:l.h c.i.toNat=l.h c.j.toNat
  ·exact q
  ·exact absurd ⟨L.bg.2 m,q⟩ g
theorem EI.YC (H:EI n e p T own A) (d:i<n) (a:T i=(l,.idle x)) (O:c.kind=10) (E:own c.ay.slot=.Er) (y:p.gen (c.ay.slot-1).toNat=c.ay.gen) :
  ∃o1,(o1=.cut i\/o1=.note i\/o1=.lost)/\On n e p T own A p (bD T i (RT.begin l c)) (λs=>if s=c.ay.slot then o1 else own s) A λ_ _=>True:=by
 have L:=H.loc i d
 rw [a] at L
 have I:=L.qp
 simp only at I
 have P:=H.e5
 have N:RT.begin l c=RT.fC l c.ay:=by
  unfold RT.begin
  all_goals grind
 rw [N]
 have r:∀o1:fG,o1≠.free->EI n e p T (λs=>if s=c.ay.slot then o1 else own s) A:=λo1 J=>H.YB (.inl E) J
 unfold RT.fC
 by_cases D:l.af=2
 ·rw [if_pos D]
  have H1:=r (.note i) (by simp)
  have F:(RT.bQ (RT.note l c.ay 0 0)).1.notes=(T i).1.notes ++ [⟨c.ay.bN,0,0⟩]:=by rw [yZ,a];rfl
  have M:∀C∈(T i).1.notes,C.ref.slot≠c.ay.slot:=λC w q=>by
   have:=(H.note i C w).own
   rw [q,E] at this
   cases this
  refine ⟨.note i,.inr (.inl rfl),H1.zQ d (k:=p.steps) H.ok ((L.note c.ay 0 0).bQ H.n6) F ⟨if_pos rfl,y,λh=>by omega,λh=>by omega⟩ M (vU _).1 (vU _).2 vG,λj u K _ s g S=>?_⟩
  exact gY.zQ H1 u (S.vH ⟨by simp,by simp⟩) (k:=p.steps) F (λh=>by omega) (λh=>by omega) vG
 rw [if_neg D]
 by_cases z:l.af=4
 ·rw [if_pos z]
  have H1:=r (.cut i) (by simp)
  refine ⟨.cut i,.inl rfl,?_⟩
  have f:Calm (RT.ed c.ay 0):=by grind [eF,RT.aH]
  refine ⟨H1.p8 d H.ok ⟨rfl,rfl,rfl⟩ ⟨H.clock.1,Int.le_refl _⟩ (λ_ _ _=>⟨λ_ _=>rfl,rfl⟩) (L.next (t:=.ed c.ay 0) (by show e=3\/e=4\/e=5;omega) (λ_ _ h=>by cases h)) H1.used H1.out (λs B=>.inl ⟨B,rfl,rfl⟩) (λ_ _ _=>⟨id,id⟩) (by have:=H1.note i;rw [a] at this;exact this) (by have:=H1.zP i;rw [a] at this;exact this) (λo q=>?_) (λo b q m=>absurd (I.symm.trans z) m)
    (λm=>Ep.same (p:=p) (A:=A) (T:=T) H.ep (λ_ _=>rfl) rfl (λ_ _=>rfl) (λ_ _ _ _ _ _=>lF.calm f) d m),λj u K _ s g S=>(S.vH (s0:=c.ay.slot) (o1:=.cut i) ⟨by simp,by simp⟩).calm (k:=p.steps) (by rw [a];exact λ_ h=>h) f⟩
  cases q
  exact ⟨if_pos rfl,y⟩
 rw [if_neg z]
 by_cases G:l.af=3\/l.af=5
 ·rw [if_pos G]
  have H1:=r (.cut i) (by simp)
  refine ⟨.cut i,.inl rfl,?_⟩
  have f:Calm (RT.jo c.ay):=by grind [eF,RT.aH]
  refine ⟨H1.p8 d H.ok ⟨rfl,rfl,rfl⟩ ⟨H.clock.1,Int.le_refl _⟩ (λ_ _ _=>⟨λ_ _=>rfl,rfl⟩) (L.next (t:=.jo c.ay) (by show e=3\/e=5;omega) (λ_ _ h=>by cases h)) H1.used H1.out (λs B=>.inl ⟨B,rfl,rfl⟩) (λ_ _ _=>⟨id,id⟩) (by have:=H1.note i;rw [a] at this;exact this) (by have:=H1.zP i;rw [a] at this;exact this) (λo q=>?_) (λo b q=>by cases q)
    (λm=>Ep.same (p:=p) (A:=A) (T:=T) H.ep (λ_ _=>rfl) rfl (λ_ _=>rfl) (λ_ _ _ _ _ _=>lF.calm f) d m),λj u K _ s g S=>(S.vH (s0:=c.ay.slot) (o1:=.cut i) ⟨by simp,by simp⟩).calm (k:=p.steps) (by rw [a];exact λ_ h=>h) f⟩
  cases q
  exact ⟨if_pos rfl,y⟩
 rw [if_neg G]
 have H1:=r .lost (by simp)
 refine ⟨.lost,.inr (.inr rfl),H1.calm d (k:=p.steps) H.ok (L.next trivial (λ_ _ h=>by cases h)) (by rw [a]) (λo q=>by cases q) (λo b q=>by cases q) (eF (.inl (by simp only [RT.aH];omega))),λj u K _ s g S=>(S.vH ⟨by simp,by simp⟩).calm (k:=p.steps) (by rw [a];exact λ_ h=>h) (eF (.inl (by simp only [RT.aH];omega)))⟩
end
end Go.Proofs.YthomdlajobnmnaaGreatDoor.Gd
