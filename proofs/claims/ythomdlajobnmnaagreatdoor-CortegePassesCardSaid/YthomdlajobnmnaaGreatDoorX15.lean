/- part 15 of the proof -/
import Derived.Shelf.RegionOpenPlain
import Derived.WalkKit
import Derived.Deep.LoopGhost
import Derived.Deep.RegionLaw
import Derived.Lib.Walk
import Derived.Lib.SliceRun
import Derived.Lib.LazyBuf
import Derived.Deep.OwnRows
import Derived.Test.YthomdlajobnmnaaGreatDoorX11
import Derived.Test.YthomdlajobnmnaaGreatDoorX14
set_option linter.unusedSimpArgs false
set_option linter.unusedVariables false
namespace Go.Proofs.YthomdlajobnmnaaGreatDoor
open Go.Rex Go.Lib Go.RowKit
noncomputable def VK:Ex:={sched:=sched,loops:=[adA],fin:=jL}
def EP:Out :=
 .ob (.or (.not (.var 0)) (.aA (.var 1) y0)) <|
 .ob (.ai y0 (.var 1)) <|
 .loop 11 {lo:=11,ah:=2,iv:=[yz 11]} <|
 .br (.bO (.var 11) (.var 1))
 (.ob (.not (.var 0)) <|
  .ob (.ai y0 (.var 11)) <|
  .br (.and (.and (.aA (.var 4) (.cell 3 (.var 11) y0 0)) (.and (.aA (.var 5) (.cell 3 (.var 11) y0 1)) (.and (.aA (.var 6) (.cell 3 (.var 11) y0 2)) (.and (.aA (.var 7) (.cell 3 (.var 11) y0 3)) (.beq (.var 8) (.cell 3 (.var 11) y0 4)))))) (.and (.aA (.var 9) (.cell 3 (.var 11) y0 5)) (.aA (.var 10) (.cell 3 (.var 11) y0 6))))
  (.fin {lo:=11,ah:=1,iv:=[(11,yv 11)]})
  (.ob (.inr .i64 (.add (.var 11) y1)) <|
   .back 0 {lo:=11,ah:=2,iv:=[(11,.add (.var 11) y1)]}))
 (.fin {lo:=11,ah:=1,iv:=[(11,.lit (-1))]})
theorem VL:exec tab VK 8000 [] (fE jL.f jL.nv [] jL.gl jL.hp jL.args)=EP:=by kernel_rfl
def zx (ρ:Env) (v:Nat):Nt:=⟨az ρ v,ρ.iv (v+5),ρ.iv (v+6)⟩
def uz (ρ:Env):Prop:=(bz ρ 0∧ρ.iv 1≤1000000)∧zx ρ 4∈aT ρ 3 (ρ.iv 1)
def vD (ρ:Env):Prop:=(0≤ρ.iv 11∧ρ.iv 11<ρ.iv 1)∧(aT ρ 3 (ρ.iv 1)).erase (zx ρ 4)=(aT ρ 3 (ρ.iv 1)).take (ρ.iv 11).toNat ++ (aT ρ 3 (ρ.iv 1)).drop ((ρ.iv 11).toNat+1)
def ND (ρ:Env):Prop:=uz ρ∧(0≤ρ.iv 11∧ρ.iv 11≤ρ.iv 1)∧∀j:Nat,(j:Int)<ρ.iv 11→bN ρ 3 j≠zx ρ 4
theorem VM {a b:Nt}:a=b↔(a.ref.slot=b.ref.slot∧a.ref.gen=b.ref.gen∧a.ref.tag=b.ref.tag∧a.ref.num=b.ref.num∧a.ref.mark=b.ref.mark)∧a.kZ=b.kZ∧a.lS=b.lS:=by
 obtain ⟨⟨a1,a2,a3,a4,a5⟩,a6,a7⟩:=a
 obtain ⟨⟨b1,b2,b3,b4,b5⟩,b6,b7⟩:=b
 simp only [Nt.mk.injEq,Wd.mk.injEq]
theorem NF {α:Type} [DecidableEq α] {x:α}:∀{l:List α} {i:Nat},l[i]?=some x→(∀j,j<i→l[j]?≠some x)→l.erase x=l.take i ++ l.drop (i+1)
 | [],i,h,_=>by simp at h
 | a :: l,0,h,_=>by
  simp at h
  subst h
  simp
 | a :: l,i+1,h,hn=>by
  have h0:=hn 0 (by omega)
  simp only [List.getElem?_cons_zero,ne_eq,Option.some.injEq] at h0
  rw [List.erase_cons_tail (by simpa using h0),NF (l:=l) (i:=i) (by simpa using h) (fun j hj=>by simpa using hn (j+1) (by omega))]
  rfl
theorem rF {ρ:Env} {r:Nat} {n:Int} {i:Nat} (h:(i:Int)<n):(aT ρ r n)[i]?=some (bN ρ r i):=by
 unfold aT
 rw [List.getElem?_map,List.getElem?_range (by omega)]
 rfl
theorem VN (ρ:Env) (hpre:uz ρ.num):Sat vD [] [] ρ EP:=by
 replace hpre:uz ρ:=hpre
 have hpre':=hpre
 obtain ⟨⟨o1,h2⟩,-⟩:=hpre
 unfold EP
 refine Sat.ob (df o1) (Sat.ob (decide_eq_true o1.2.1) (Sat.zb ND (fun r=>(r.iv 1-r.iv 11).toNat) (fun _=>True) ⟨hpre',⟨Int.le_refl 0,o1.2.1⟩,fun j hj=>?_⟩ (fun _=>trivial) fun q _ hI=>?_))
 ·exfalso
  replace hj:(j:Int)<0:=hj
  omega
 replace hI:ND q:=hI
 obtain ⟨⟨⟨o1,h2⟩,hx⟩,⟨i1,i2⟩,hI⟩:=hI
 refine Sat.br (fun c=>?_) (fun c=>?_)
 ·simp only [Da] at c
  refine Sat.ob (ve o1 (by simp only [Nat.reduceAdd];omega)) (Sat.ob (decide_eq_true i1) (Sat.br (fun c2=>?_) (fun c2=>?_)))
  ·simp only [Da] at c2
   refine Sat.fin ⟨⟨i1,c⟩,?_⟩
   show (aT q 3 (q.iv 1)).erase (zx q 4)=(aT q 3 (q.iv 1)).take (q.iv 11).toNat ++ (aT q 3 (q.iv 1)).drop ((q.iv 11).toNat+1)
   refine NF ?_ fun j hj=>?_
   ·rw [rF (by omega)]
    refine congrArg some (VM.2 ?_)
    simp only [bN,zx,aO,az]
    simp only [and_assoc] at c2 ⊢
    obtain ⟨a1,a2,a3,a4,a5,a6,a7⟩:=c2
    exact ⟨a1.symm,a2.symm,a3.symm,a4.symm,a5.symm,a6.symm,a7.symm⟩
   ·rw [rF (by omega)]
    intro h
    exact hI j (by omega) (Option.some.inj h)
  ·simp only [Da] at c2
   have hne:bN q 3 (q.iv 11).toNat≠zx q 4:=fun h=>by
    have h':=VM.1 h
    simp only [bN,zx,aO,az] at h'
    obtain ⟨⟨a1,a2,a3,a4,a5⟩,a6,a7⟩:=h'
    simp_all
   refine Sat.ob (by simp only [Da];omega) (Sat.back rfl ⟨⟨⟨⟨o1,h2⟩,hx⟩,⟨?_,?_⟩,fun j hj=>?_⟩,?_⟩)
   ·show 0≤q.iv 11+1;omega
   ·show q.iv 11+1≤q.iv 1;omega
   ·replace hj:(j:Int)<q.iv 11+1:=hj
    show bN q 3 j≠zx q 4
    by_cases h:j=(q.iv 11).toNat
    ·subst h;exact hne
    ·exact hI j (by omega)
   ·show (q.iv 1-(q.iv 11+1)).toNat<(q.iv 1-q.iv 11).toNat
    omega
 ·simp only [Da] at c
  exfalso
  unfold aT at hx
  obtain ⟨j,hj,he⟩:=List.mem_map.1 hx
  have:=List.mem_range.1 hj
  exact hI j (by omega) he
theorem VO:bg Tryz.prog jL uz vD :=
 dA dO (E:=VK) (cs:=[]) rfl (fun k pre post h=>by cases h) bX rfl VL (by kernel_rfl) (fun ρ _ p hp=>by cases hp) VN
def nX:List Value:=[.int .i64 0,.int .i64 0,.int .i64 0,.int .i64 0,.bool false,.int .i64 0,.int .i64 0]
theorem VP:(Tryz.prog.info? 207).map (·.size)=some 7:=by kernel_rfl
theorem Td (w:World) (ty:TypeId) (b o c:Nat) (hc:∀j,j<7→(w.cell? ⟨b,o+j,none⟩).isSome=true) (hf:∀j,j<7→w.frozen? ⟨b,o+j,none⟩=false) :
  (Builtin.clear_ #[144] ty #[.slice (some ⟨b,o,none⟩) 1 c]).run Tryz.prog w=.ok (.tuple #[]) (w.setCells b o nX):=by
 have hst:=run_storeCells_cells (P:=Tryz.prog) b o nX 0 w (by simpa [nX] using hc) (by simpa [nX] using hf) (by intro v hv;simp [nX] at hv;rcases hv with rfl | rfl | rfl <;> rfl)
 simp only [Nat.add_zero] at hst
 have hz:(Builtin.zeroCells (Value.agg #[Value.int IntKind.i64 0,Value.int IntKind.i64 0,Value.int IntKind.i64 0,Value.int IntKind.i64 0,Value.bool false,Value.int IntKind.i64 0,Value.int IntKind.i64 0]).cells 1).toList=nX:=by kernel_rfl
 simp [Builtin.clear_,run_underlying Tryz.underlying144,Tryz.zeroValue207,hz,hst]
set_option maxHeartbeats 4000000 in
set_option maxRecDepth 1000000 in
theorem YY (b n cap i j:Nat) (hje:j=i+1) (f:Nat→Value) (w:World) (hr:w.rowIs b 207 (cap * 7) f) (hj:j≤n) (hn:n≤cap) (hm:cap≤9223372036854775807) (h1:∀p,p<n * 7→(f p).oneCell'=true) :
  Calls Tryz.prog 123 #[.slice (some ⟨b,0,none⟩) n cap,.int .i64 i,.int .i64 j] w fun e w'=>e=.returned (.slice (some ⟨b,0,none⟩) (n-1) cap) ∧
   w'=(w.drew.setCells b (i * 7) ((List.range ((n-j) * 7)).map fun t=>f (j * 7+t))).setCells b ((n-1) * 7) nX:=by
 have mixed:Tryz.prog.follows .mixedOrders=true:=dO.mixed
 obtain ⟨i0,hi0,hz1⟩:∃i0,Tryz.prog.info? 207=some i0∧i0.size=7:=by
  have:=VP
  simpa using this
 have hij:i<j:=by omega
 obtain ⟨news,hnews⟩:∃news,news=(List.range ((n-j) * 7)).map fun t=>f (j * 7+t):=⟨_,rfl⟩
 have hlen:news.length=(n-j) * 7:=by rw [hnews];simp
 have hget:∀t,t<(n-j) * 7→news[t]?=some (f (j * 7+t)):=by
  intro t ht
  rw [hnews,List.getElem?_map,List.getElem?_range ht]
  rfl
 have hcell:∀p,p<cap * 7→w.drew.cell? ⟨b,p,none⟩=some (f p):=fun p hp=>hr.cell hp
 have aao:∀p,p<cap * 7→w.drew.frozen? ⟨b,p,none⟩=false:=fun p hp=>hr.frozen p
 obtain ⟨A,hA,hsrc⟩:∃A:Addr,(if cap=j then some (⟨b,0,none⟩:Addr) else some ⟨b,j * 7,none⟩)=some A∧Hid (∀t u,news[t]?=some u→w.drew.cell? (A.add t)=some u):=by
  by_cases h:cap=j
  ·refine ⟨⟨b,0,none⟩,by simp [h],fun t u hu=>?_⟩
   have h0:news.length=0:=by rw [hlen];omega
   rw [List.length_eq_zero_iff.1 h0] at hu
   simp at hu
  ·refine ⟨⟨b,j * 7,none⟩,by simp [h],fun t u hu=>?_⟩
   have ht:t<(n-j) * 7:=by
    have:=(List.getElem?_eq_some_iff.1 hu).1
    rwa [hlen] at this
   rw [hget t ht] at hu
   rw [Addr.add_lit]
   exact (hcell _ (by omega)).trans hu
 have s1:Hid (news.length=(n-j) * 7):=hlen
 have s2:Hid (∀u∈news,u.oneCell'=true):=by
  intro u hu
  rw [hnews] at hu
  obtain ⟨x,hx,rfl⟩:=List.mem_map.1 hu
  have:=List.mem_range.1 hx
  exact h1 _ (by omega)
 have s3:Hid (∀t,t<news.length→(w.drew.cell? ⟨b,0+i * 7+t,none⟩).isSome=true∧w.drew.frozen? ⟨b,0+i * 7+t,none⟩=false):=by
  intro t ht
  rw [hlen] at ht
  rw [Nat.zero_add]
  exact ⟨by rw [hcell _ (by omega)];rfl,aao _ (by omega)⟩
 obtain ⟨W1,hW1⟩:∃W1,W1=w.drew.setCells b (0+i * 7) news:=⟨_,rfl⟩
 have hr1:=rowIs_setCells news (0+i * 7) w.drew f hr.drew
 rw [←hW1] at hr1
 have hcl:∀ty,(Builtin.clear_ #[144] ty #[.slice (some ⟨b,(i+(n-j)) * 7,none⟩) (n-(i+(n-j))) (cap-(i+(n-j)))]).run Tryz.prog W1=.ok (.tuple #[]) (W1.setCells b ((n-1) * 7) nX):=by
  intro ty
  rw [show n-(i+(n-j))=1 by omega,show i+(n-j)=n-1 by omega]
  exact Td W1 ty b ((n-1) * 7) _ (fun t ht=>by rw [hr1.cell (by omega)];rfl) (fun t ht=>hr1.frozen _)
 have hW:Hid (W1=w.drew.setCells b (0+i * 7) news):=hW1
 have X:Hid (W1=w.drew.setCells b (i * 7) ((List.range ((n-j) * 7)).map fun t=>f (j * 7+t))):=by
  show W1=_
  rw [←hnews,hW1,Nat.zero_add]
 have hic:i≤cap:=by omega
 have hjc:j≤cap:=by omega
 have Y:Hid (j=i+1):=hje
 clear hW1 hr1 hget hnews hlen hcell aao hr h1 hje
 go_enter Tryz.func123,Tryz.ntmps123
 go_wp2_with fail
 go_region_law_o (refine step_append_room rfl (.tmp 22) (.tmp 25) 144 rfl 207 i0 7 Tryz.underlying144 hi0 hz1 b 0 i cap (by simp [Act.eval,Act.put]) A (n-j) (cap-j) news (by simp [Act.eval,Act.put]) s1.out hsrc.out s2.out (by omega) s3.out ?_;rw [←hW.out])
 go_wp2
 go_ret
 refine ⟨?_,?_⟩
 ·have:=Y.out
  rw [show n-1=i+(n-j) by omega]
  rfl
 ·rw [←X.out]
theorem uA (b:Nat):∀(vs:List Value) (o:Nat) (w:World),(w.setCells b o vs).os=w.os∧(w.setCells b o vs).tape=w.tape∧(w.setCells b o vs).output=w.output∧(w.setCells b o vs).heap.size=w.heap.size∧∀k,k≠b→(w.setCells b o vs).heap[k]?=w.heap[k]?
 | [],_,_=>⟨rfl,rfl,rfl,rfl,fun _ _=>rfl⟩
 | v :: r,o,w=>by
  obtain ⟨h1,h2,h3,h4,h5⟩:=uA b r (o+1) (w.setCell ⟨b,o,none⟩ v)
  refine ⟨h1,h2,h3,h4.trans (by simp [World.setCell]),fun k hk=>(h5 k hk).trans ?_⟩
  simp only [World.setCell]
  rw [Array.getElem?_modify,if_neg (fun h=>hk h.symm)]
def vE (ρ:Env):Prop:=bz ρ 0∧(0≤ρ.iv 4∧ρ.iv 4<ρ.iv 1)∧ρ.iv 5=ρ.iv 4+1
def sG (ρ:Env):Prop:=aT ρ 6 (ρ.iv 1-1)=(aT ρ 3 (ρ.iv 1)).take (ρ.iv 4).toNat ++ (aT ρ 3 (ρ.iv 1)).drop ((ρ.iv 4).toNat+1)
def jA (ρ:Env):Env where
 iv:=ρ.iv
 bv:=ρ.bv
 vv:=ρ.vv
 ic:=fun r=>if r=6 then fun a _ c=>if a<(ρ.iv 4).toNat then ρ.ic 3 a 0 c else ρ.ic 3 (a+1) 0 c else ρ.ic r
 bc:=fun r=>if r=6 then fun a _ c=>if a<(ρ.iv 4).toNat then ρ.bc 3 a 0 c else ρ.bc 3 (a+1) 0 c else ρ.bc r
 vc:=ρ.vc
theorem Pb {ρ:Env} (h:vE ρ):sG (jA ρ):=by
 obtain ⟨o,⟨i1,i2⟩,i3⟩:=h
 show aT (jA ρ) 6 (ρ.iv 1-1)=(aT (jA ρ) 3 (ρ.iv 1)).take (ρ.iv 4).toNat ++ (aT (jA ρ) 3 (ρ.iv 1)).drop ((ρ.iv 4).toNat+1)
 have e3:∀i,bN (jA ρ) 3 i=bN ρ 3 i:=fun i=>rfl
 have e6:∀i,bN (jA ρ) 6 i=if i<(ρ.iv 4).toNat then bN ρ 3 i else bN ρ 3 (i+1):=fun i=>by
  by_cases h:i<(ρ.iv 4).toNat
  ·simp only [bN,aO,jA,if_true,if_pos h]
  ·simp only [bN,aO,jA,if_true,if_neg h]
 refine List.ext_getElem? fun k=>?_
 by_cases hk:(k:Int)<ρ.iv 1-1
 ·rw [rF hk,e6]
  by_cases h:k<(ρ.iv 4).toNat
  ·rw [if_pos h,List.getElem?_append_left (by rw [List.length_take,kC];omega),List.getElem?_take,if_pos h,rF (by omega),e3]
  ·have hl:((aT (jA ρ) 3 (ρ.iv 1)).take (ρ.iv 4).toNat).length=(ρ.iv 4).toNat:=by rw [List.length_take,kC];omega
   rw [if_neg h,List.getElem?_append_right (by rw [hl];omega),hl,List.getElem?_drop,show (ρ.iv 4).toNat+1+(k-(ρ.iv 4).toNat)=k+1 by omega,rF (by omega),e3]
 ·rw [List.getElem?_eq_none (by rw [kC];omega),List.getElem?_eq_none (by rw [List.length_append,List.length_take,List.length_drop,kC];omega)]
theorem aeG (ρ:Env) (r a c:Nat) (i1 i2 j:Nat) (g:ae) (hg:g.ks=kN) (hj:j<7):(g.base ρ i1 i2 j).oneCell'=true:=by
 unfold ae.base
 rw [hg]
 match j,hj with
 | 0,_=>rfl
 | 1,_=>rfl
 | 2,_=>rfl
 | 3,_=>rfl
 | 4,_=>rfl
 | 5,_=>rfl
 | 6,_=>rfl
set_option maxRecDepth 4000 in
set_option maxHeartbeats 400000 in
theorem Te:bg Tryz.prog eZ vE sG:=by
 refine ⟨⟨_,Tryz.func123,by kernel_rfl,by kernel_rfl⟩,fun ρ ν w iw _ hpre=>?_⟩
 replace hpre:vE ρ:=hpre
 have hpre':=hpre
 obtain ⟨⟨n0,n1,n2,n3⟩,⟨i1,i2⟩,i3⟩:=hpre
 replace n0:ρ.bv 0=true→ρ.iv 1=0:=n0
 replace n1:0≤ρ.iv 1:=n1
 replace n2:ρ.iv 1≤ρ.iv 2:=n2
 replace n3:ρ.iv 2≤9223372036854775807:=n3
 have hb:ρ.bv 0=false:=by
  cases h:ρ.bv 0
  ·rfl
  ·have:=n0 h;omega
 obtain ⟨lu,cs,ML,hhas⟩:=iw.aC 0 _ rfl (by simp [uk,SB.dead,BE.den,hb]) rfl
 replace ML:=ML.cells rfl
 obtain ⟨-,hsz⟩:=hhas.cap (.var 2) 7 rfl
 replace hsz:cs.size=(ρ.iv 2).toNat * 7:=hsz
 have hsg:=hhas.sg 0 _ rfl
 generalize hbk:(ν 0).block=b at *
 have hcell:∀a c:Nat,(a:Int)<ρ.iv 1→c<7→cs[a * 7+c]?=some (({r:=3,n1:=.var 1,s1:=7,ks:=kN}:ae).base ρ a 0 c):=fun a c ha hc=>by
  have:=hsg a 0 c ha (by decide) hc
  rw [show a * 7+c=a * 7+0 * 0+0+c by omega]
  exact this
 have hrow:w.rowIs b 207 ((ρ.iv 2).toNat * 7) (fun p=>cs[p]?.getD default):=⟨cs,ML,hsz,fun p hp=>by
   show cs[p]?=some (cs[p]?.getD default)
   rw [Array.getElem?_eq_getElem (by omega)]
   rfl⟩
 have aap:=YY b (ρ.iv 1).toNat (ρ.iv 2).toNat (ρ.iv 4).toNat (ρ.iv 5).toNat (by omega) _ w hrow (by omega) (by omega) (by omega) (fun p hp=>by
   have h7:=Nat.div_add_mod p 7
   have hm7:=Nat.mod_lt p (show 0<7 by decide)
   have:=hcell (p / 7) (p % 7) (by omega) hm7
   rw [show p / 7 * 7+p % 7=p by omega] at this
   simp only [this,Option.getD_some]
   exact aeG ρ 0 0 0 _ _ _ _ rfl hm7)
 have hargs:(eZ.args.map (·.den ρ ν)).toArray=#[.slice (some ⟨b,0,none⟩) (ρ.iv 1).toNat (ρ.iv 2).toNat,.int .i64 (ρ.iv 4).toNat,.int .i64 (ρ.iv 5).toNat]:=by
  have e4:((ρ.iv 4).toNat:Int)=ρ.iv 4:=Int.toNat_of_nonneg i1
  have e5:((ρ.iv 5).toNat:Int)=ρ.iv 5:=Int.toNat_of_nonneg (by omega)
  rw [e4,e5]
  simp [eZ,lV,Z8,SW.den,SC.den,SA.den,SA.off,IE.den,BE.den,hb,iv,lu,Addr.add]
 rw [hargs]
 have hf:eZ.f=123:=rfl
 rw [hf]
 refine aap.mono ?_
 clear aap hargs hf
 intro e w' hw
 obtain ⟨he,hw⟩:=hw
 have hr1:=rowIs_setCells ((List.range (((ρ.iv 1).toNat-(ρ.iv 5).toNat) * 7)).map fun t=>(fun p=>cs[p]?.getD default) ((ρ.iv 5).toNat * 7+t)) ((ρ.iv 4).toNat * 7) w.drew _ hrow.drew
 have hr2:=rowIs_setCells nX (((ρ.iv 1).toNat-1) * 7) _ _ hr1
 rw [←hw] at hr2
 obtain ⟨cs',hc1,hc2,hc3⟩:=hr2
 have hA:dF eZ.nv eZ.hp.length ρ (jA ρ) ν ν:=by
  refine ⟨fun i hi=>rfl,fun i hi=>rfl,fun i hi=>rfl,fun i hi=>?_,fun i hi=>?_,fun i hi=>rfl,fun i hi=>rfl⟩
  ·exact if_neg (fun h:i=6=>absurd hi (by rw [h];decide))
  ·exact if_neg (fun h:i=6=>absurd hi (by rw [h];decide))
 have hw1:=uA b ((List.range (((ρ.iv 1).toNat-(ρ.iv 5).toNat) * 7)).map fun t=>(fun p=>cs[p]?.getD default) ((ρ.iv 5).toNat * 7+t)) ((ρ.iv 4).toNat * 7) w.drew
 have hw2:=uA b nX (((ρ.iv 1).toNat-1) * 7) (w.drew.setCells b ((ρ.iv 4).toNat * 7) ((List.range (((ρ.iv 1).toNat-(ρ.iv 5).toNat) * 7)).map fun t=>(fun p=>cs[p]?.getD default) ((ρ.iv 5).toNat * 7+t)))
 rw [←hw] at hw2
 obtain ⟨a1,a2,a3,a4,a5⟩:=hw1
 obtain ⟨b1,b2,b3,b4,b5⟩:=hw2
 have hown:jm ρ ν eZ.hp b:=⟨0,_,rfl,rfl,by simp [uk,SB.dead,BE.den,hb],hbk.symm⟩
 refine ⟨jA ρ,ν,hA,?_,⟨fun i j x y hi hj dx dy rx he'=>?_,fun k sb hk hd hro=>?_,fun k sb hk hd hro=>?_⟩,⟨b1.trans a1,b2.trans a2,b3.trans a3,by rw [b4,a4];exact Nat.le_refl _,fun k hk hn=>?_⟩,fun k sb hk ho hd=>?_,Pb hpre'⟩
 ·rw [he]
  have e1:(ρ.iv 1-1).toNat=(ρ.iv 1).toNat-1:=by omega
  simp [eZ,SV.den,SW.den,SC.den,SA.den,SA.off,IE.den,BE.den,jA,hb,lu,Addr.add,-Int.pred_toNat,e1]
 ·have ht:i=0∧j=0:=by
   have l1:=(List.getElem?_eq_some_iff.1 hi).1
   have l2:=(List.getElem?_eq_some_iff.1 hj).1
   simp [eZ] at l1 l2
   omega
  rw [ht.1,ht.2]
 ·have ht:k=0:=by
   have l1:=(List.getElem?_eq_some_iff.1 hk).1
   simp [eZ] at l1
   exact l1
  subst ht
  simp [eZ] at hk
  subst hk
  refine ⟨by rw [hbk];exact lu,cs',by rw [hbk,hc1];exact fC.mH rfl,⟨fun u hu=>(by cases hu),fun h=>(by cases h),fun e n h=>?_,fun p c h=>(by simp at h),fun gi g hg x1 x2 j h1 h2 h3=>?_⟩⟩
  ·cases h
   exact ⟨by show 0≤ρ.iv 2;omega,hc2⟩
  ·have hgi:gi=0:=by
    have l1:=(List.getElem?_eq_some_iff.1 hg).1
    simpa using l1
   subst hgi
   simp at hg
   subst hg
   replace h1:(x1:Int)<ρ.iv 1-1:=h1
   replace h2:x2<1:=h2
   replace h3:j<7:=h3
   obtain rfl:x2=0:=by omega
   show cs'[x1 * 7+0 * 0+0+j]?=some (ae.base (jA ρ) {r:=6,n1:=.sub (.var 1) (.lit 1),s1:=7,ks:=kN} x1 0 j)
   rw [show x1 * 7+0 * 0+0+j=x1 * 7+j by omega,hc3 _ (by omega)]
   dsimp only
   have eb:∀y:Nat,y=(if x1<(ρ.iv 4).toNat then x1 else x1+1)→ae.base (jA ρ) {r:=6,n1:=.sub (.var 1) (.lit 1),s1:=7,ks:=kN} x1 0 j=ae.base ρ {r:=3,n1:=.var 1,s1:=7,ks:=kN} y 0 j:=by
    intro y hy
    subst hy
    by_cases h:x1<(ρ.iv 4).toNat
    ·rw [if_pos h]
     match j,h3 with
     | 0,_ | 1,_ | 2,_ | 3,_ | 4,_ | 5,_ | 6,_=>simp [ae.base,jA,kN,-Int.lt_toNat,h]
    ·rw [if_neg h]
     match j,h3 with
     | 0,_ | 1,_ | 2,_ | 3,_ | 4,_ | 5,_ | 6,_=>simp [ae.base,jA,kN,-Int.lt_toNat,h]
   rw [if_neg (by omega)]
   by_cases h:x1<(ρ.iv 4).toNat
   ·rw [if_neg (by omega)]
    show some (cs[x1 * 7+j]?.getD default)=_
    rw [hcell x1 j (by omega) h3,eb x1 (if_pos h).symm]
    rfl
   ·rw [if_pos (by simp only [List.length_map,List.length_range];omega),List.getElem?_map,List.getElem?_range (by omega)]
    show some (cs[(ρ.iv 5).toNat * 7+(x1 * 7+j-(ρ.iv 4).toNat * 7)]?.getD default)=_
    rw [show (ρ.iv 5).toNat * 7+(x1 * 7+j-(ρ.iv 4).toNat * 7)=(x1+1) * 7+j by omega,hcell (x1+1) j (by omega) h3,eb (x1+1) (if_neg h).symm]
    rfl
 ·have ht:k=0:=by
   have l1:=(List.getElem?_eq_some_iff.1 hk).1
   simp [eZ] at l1
   exact l1
  subst ht
  simp [eZ] at hk
  subst hk
  cases hro
 ·have hkb:k≠b:=fun h=>hn (h ▸ hown)
  rw [b5 k hkb,a5 k hkb]
  rfl
 ·have ht:k=0:=by
   have l1:=(List.getElem?_eq_some_iff.1 hk).1
   simp [eZ] at l1
   exact l1
  subst ht
  rw [hbk]
  exact .inr hown
end Go.Proofs.YthomdlajobnmnaaGreatDoor
namespace Go.Proofs.YthomdlajobnmnaaGreatDoor
open Go.Rex
theorem aeH {P:Program} {k:dQ} {pre NG NH post:Env→Prop} (h1:bg P k NG post) (h2:bg P k NH post) (hp:∀ρ,pre ρ→NG ρ∨NH ρ):bg P k pre post :=
 ⟨h1.fn,fun ρ ν w a b c=>(hp _ c).elim (h1.run ρ ν w a b) (h2.run ρ ν w a b)⟩
def vF:mO:=[(ji,sW,uy),(gP,Nn,zi),(jZ,sZ,EO),(mV,BS,Df),(jL,uz,vD),(eZ,vE,sG)]
theorem NI:∀k pre post,(k,pre,post)∈vF→ku k=true∧bg Tryz.prog k pre post:=by
 intro k pre post h
 simp only [vF,List.mem_cons,List.not_mem_nil,or_false,Prod.mk.injEq] at h
 rcases h with ⟨rfl,rfl,rfl⟩ | ⟨rfl,rfl,rfl⟩ | ⟨rfl,rfl,rfl⟩ | ⟨rfl,rfl,rfl⟩ | ⟨rfl,rfl,rfl⟩ | ⟨rfl,rfl,rfl⟩
 ·exact ⟨by kernel_rfl,Nq⟩
 ·exact ⟨by kernel_rfl,Np⟩
 ·exact ⟨by kernel_rfl,YX⟩
 ·exact ⟨by kernel_rfl,abV⟩
 ·exact ⟨by kernel_rfl,VO⟩
 ·exact ⟨by kernel_rfl,Te⟩
def oZ (ρ:Env):Prop:=bH ρ 77∧aa ρ 0 77=(aa ρ 0 4).bM (aI ρ 71)
noncomputable def VQ:Ex:={sched:=sched,loops:=[],cons:=[ji,gP,jZ,mV,jL,eZ],fin:=fP}
abbrev aaq:List (Nat × BE):=[(67,yw 67),(66,yw 66),(58,yw 58),(55,yw 55),(51,yw 51),(48,yw 48),(46,yw 46),(41,yw 41),(36,yw 36),(31,yw 31),(17,yw 17),(12,yw 12)]
abbrev aar:List (Nat × CV):=[(70,.up {r:=78,n1:=.sub (.var 59) y1,s1:=7,ks:=yN} 0 [] y0),(69,yu 69 70 7 yN 0),(68,yu 68 49 5 yW 0),(54,yl 54 9 5 50 yW 0)]
abbrev aas:List (Nat × IE):=yo [(143,yv 145)]<|yr 138 140 7<|yo [(130,yv 132),(129,yv 131),(126,yv 128),(125,yv 127),(142,yv 144),(123,yv 125),(122,yv 124),(120,yv 122)]<|yr 118 120 4<|yr 113 115 4<|yr 108 110 4<|yr 103 105 13<|yr 89 91 4<|yr 84 86 8 []
abbrev aat:List (Nat × BE):=[(140,yw 142),(139,yw 141),(131,yw 133),(128,yw 130),(124,yw 126),(121,yw 123),(119,yw 121),(114,yw 116),(109,yw 111),(104,yw 106),(90,yw 92),(85,yw 87)]
abbrev aau:List (Nat × CV):=[(143,yu 145 134 7 yN 0),(142,yu 144 145 7 yN 0),(141,yu 143 124 5 yW 0),(127,yl 129 9 5 50 yW 0)]
def ES:Out :=
 .ob (.not (.var 51)) <|
 .ob (.bO y0 (.var 52)) <|
 .ob (.ai y0 (.var 69)) <|
 .ob (.bO (.var 69) (.var 70)) <|
 .call 4 {lo:=0,ah:=0,iv:=[(10,.cell 69 (.var 69) y0 6),(9,.cell 69 (.var 69) y0 5),(7,.cell 69 (.var 69) y0 3),(6,.cell 69 (.var 69) y0 2),(5,.cell 69 (.var 69) y0 1),(4,.cell 69 (.var 69) y0 0),(2,yv 60),(1,yv 59)],bv:=[(8,.cell 69 (.var 69) y0 4),(0,yw 58)],ct:=[(3,yu 70 59 7 yN 0)],bk:=[(0,yc 3 7)]} 77 <|
 .ob (.inr .i64 (.add (.var 77) y1)) <|
 .call 5 {lo:=0,ah:=0,iv:=[(5,.add (.var 77) y1),(4,yv 77),(2,yv 60),(1,yv 59)],bv:=[(0,yw 58)],ct:=[(3,yu 70 59 7 yN 0)],bk:=[(0,yc 3 7)]} 78 <|
 .ob (.inr .i64 (.add (.var 61) y1)) <|
 .br (.aA y1 (.var 53))
 (.ob (.ai y1 (.var 52)) <|
  .ob (.ai (.var 52) (.var 53)) <|
  .ob (.ai y0 (.var 52)) <|
  .call 1 {lo:=0,ah:=0,iv:=yo [(70,yv 70)]<|yr 65 65 4<|yo [(61,.add (.var 61) y1),(60,yv 60),(59,.sub (.var 59) y1),(57,yv 57),(56,yv 56)]<|yr 3 3 4<|yo [(53,.sub (.var 53) y1),(52,.sub (.var 52) y1),(69,yv 69),(50,yv 50),(49,yv 49),(47,yv 47)]<|yr 45 45 4<|yr 40 40 4<|yr 35 35 4<|yr 30 30 13<|yr 16 16 4<|yr 11 11 8 [],bv:=aaq,ct:=aar,bk:=[(3,yc 3 7),(2,yc 2 7),(1,yc 1 5),(0,yb 0)]} 79 <|
  .fin {lo:=77,ah:=4,iv:=aas,bv:=aat,ct:=aau,bk:=[(6,yc 7 7),(5,yc 6 7),(4,yc 5 5)]})
 (.ob (.ai y1 (.var 52)) <|
  .ob (.ai (.var 52) (.var 53)) <|
  .ob (.ai y0 (.var 52)) <|
  .call 1 {lo:=0,ah:=0,iv:=yo [(70,yv 70)]<|yr 65 65 4<|yo [(61,.add (.var 61) y1),(60,yv 60),(59,.sub (.var 59) y1),(57,yv 57),(56,yv 56)]<|yr 3 3 4<|yo [(53,.sub (.var 53) y1),(52,.sub (.var 52) y1),(69,.add (.var 69) y1),(50,yv 50),(49,yv 49),(47,yv 47)]<|yr 45 45 4<|yr 40 40 4<|yr 35 35 4<|yr 30 30 13<|yr 16 16 4<|yr 11 11 8 [],bv:=aaq,ct:=aar,bk:=[(3,yc 3 7),(2,yc 2 7),(1,yc 1 5),(0,yb 0)]} 79 <|
  .fin {lo:=77,ah:=4,iv:=aas,bv:=aat,ct:=aau,bk:=[(6,yc 7 7),(5,yc 6 7),(4,yc 5 5)]})
theorem VR:exec tab VQ 8000 [] (fE fP.f fP.nv [(.aA (.var 22) (.lit 16),true)] fP.gl fP.hp fP.args)=ES:=by kernel_rfl
def ET (ρ:Env):Prop:=bH ρ 4∧(ρ.iv 22=16∧ρ.iv 59≤1000000∧-1000000000000≤ρ.iv 61∧ρ.iv 61≤1000000000000)∧∃d l,(aa ρ 0 4).bD=d :: l∧d∈(aa ρ 0 4).notes
set_option maxHeartbeats 4000000 in
theorem VS (ρ:Env) (hpre:ET ρ.num):Sat oZ vF [] ρ ES:=by
 replace hpre:ET ρ:=hpre
 obtain ⟨⟨o1,o2,o3⟩,⟨hst,hf,f1,f2⟩,d,l,hd,hmem⟩:=hpre
 have p2:=o2.1.2
 have p3:=o2.2
 have Qx:=o3
 obtain ⟨q1,q2,q3,q4⟩:=Qx
 simp only [Nat.reduceAdd] at p2 p3 q2 q3 q4
 have hpos:0<ρ.iv 52:=by
  rcases Int.lt_or_eq_of_le p2.1 with h | h
  ·exact h
  ·rw [show (aa ρ 0 4).bD=[] from oV h.symm] at hd
   cases hd
 have hd2:(aa ρ 0 4).bD=bN ρ 69 (ρ.iv 69).toNat :: gX ρ 69 (ρ.iv 69+1) (ρ.iv 52-1):=GV hpos p3.1
 rw [hd2] at hd
 obtain ⟨rfl,rfl⟩:=List.cons.inj hd
 have hm:(aa ρ 0 4).bM (aI ρ 71)=({aa ρ 0 4 with notes:=(aa ρ 0 4).notes.erase (bN ρ 69 (ρ.iv 69).toNat),freed:=ρ.iv 61+1,bD:=gX ρ 69 (ρ.iv 69+1) (ρ.iv 52-1)}:RS).dz:=by
  unfold RS.bM
  have hs:(aa ρ 0 4).step=16:=hst
  rw [if_neg (by rw [hs];decide),if_neg (by rw [hs];decide),if_neg (by rw [hs];decide),if_neg (by rw [hs];decide),if_pos hs,hd2]
  rfl
 replace hmem:bN ρ 69 (ρ.iv 69).toNat∈aT ρ 70 (ρ.iv 59):=hmem
 unfold ES
 refine Sat.ob (ve o2.1 (by simp only [Nat.reduceAdd];omega)) (Sat.ob (by simp only [Da];omega) (Sat.ob (by simp only [Da];omega) (Sat.ob (by simp only [Da];omega) ?_)))
 refine Sat.jk (c:=jL) rfl ⟨⟨o3,hf⟩,?_⟩ (fun q=>bH q 4∧((-1000000000000≤q.iv 61∧q.iv 61≤1000000000000)∧q.iv 59≤1000000∧0<q.iv 52)∧(0≤q.iv 77∧q.iv 77<q.iv 59) ∧
     (aT q 70 (q.iv 59)).erase (bN q 69 (q.iv 69).toNat)=(aT q 70 (q.iv 59)).take (q.iv 77).toNat ++ (aT q 70 (q.iv 59)).drop ((q.iv 77).toNat+1) ∧
     (aa q 0 4).bM (aI q 71)=({aa q 0 4 with notes:=(aa q 0 4).notes.erase (bN q 69 (q.iv 69).toNat),freed:=q.iv 61+1,bD:=gX q 69 (q.iv 69+1) (q.iv 52-1)}:RS).dz) (fun e hq=>?_) fun q hq=>?_
 ·refine cast (congr (congrArg (fun (l:List Nt) (d:Nt)=>d∈l) ?_) ?_) hmem
  ·exact gp rfl fun i=>by simp [bN,aO,-Int.pred_toNat,Sub.ag,assoc,CV.I,CV.B,aj,ak,ae.I,ae.B,SC.I,SC.B,IE.den,BE.den]
  ·simp [bN,zx,az,aO,-Int.pred_toNat,Sub.ag,assoc,CV.I,CV.B,aj,ak,ae.I,ae.B,SC.I,SC.B,IE.den,BE.den]
 ·replace hq:vD (bf _ 11 77 ρ (ρ.join 77 e)):=hq
  obtain ⟨⟨x1,x2⟩,x3⟩:=hq
  rw [show (bf _ 11 77 ρ (ρ.join 77 e)).iv 11=(ρ.join 77 e).iv 77 from rD 11 0] at x1 x2 x3
  refine ⟨⟨o1,o2,o3⟩,⟨⟨f1,f2⟩,hf,hpos⟩,⟨x1,x2⟩,?_,hm⟩
  refine Eq.trans (congr (congrArg List.erase (gp rfl fun i=>?_)) ?_) (x3.trans (congrArg (fun l:List Nt=>l.take ((ρ.join 77 e).iv 77).toNat ++ l.drop (((ρ.join 77 e).iv 77).toNat+1)) (gp rfl fun i=>?_)))
  ·simp [bN,aO,bf,Env.join,-Int.pred_toNat,Sub.ag,assoc,CV.I,CV.B,aj,ak,ae.I,ae.B,SC.I,SC.B,IE.den,BE.den]
  ·rfl
  ·simp [bN,aO,bf,Env.join,-Int.pred_toNat,Sub.ag,assoc,CV.I,CV.B,aj,ak,ae.I,ae.B,SC.I,SC.B,IE.den,BE.den]
 obtain ⟨⟨o1,o2,o3⟩,⟨⟨f1,f2⟩,hf,hpos⟩,⟨x1,x2⟩,hx,hm⟩:=hq
 refine Sat.ob (by simp only [Da];omega) ?_
 refine Sat.jk (c:=eZ) rfl ⟨o3,⟨x1,x2⟩,rfl⟩ (fun u=>bH u 4∧((-1000000000000≤u.iv 61∧u.iv 61≤1000000000000)∧u.iv 59≤1000000∧0<u.iv 52)∧0<u.iv 59∧aT u 78 (u.iv 59-1)=(aa u 0 4).notes.erase (bN u 69 (u.iv 69).toNat) ∧
     (aa u 0 4).bM (aI u 71)=({aa u 0 4 with notes:=(aa u 0 4).notes.erase (bN u 69 (u.iv 69).toNat),freed:=u.iv 61+1,bD:=gX u 69 (u.iv 69+1) (u.iv 52-1)}:RS).dz) (fun e hq=>?_) fun u hu=>?_
 ·replace hq:sG (bf _ 6 78 q (q.join 78 e)):=hq
  refine ⟨⟨o1,o2,o3⟩,⟨⟨f1,f2⟩,hf,hpos⟩,by show 0<q.iv 59;omega,?_,hm⟩
  refine Eq.trans (gp rfl fun i=>?_) (Eq.trans hq (Eq.trans (congrArg (fun l:List Nt=>l.take (q.iv 77).toNat ++ l.drop ((q.iv 77).toNat+1)) (gp rfl fun i=>?_)) hx.symm))
  ·simp [bN,aO,bf,Env.join,-Int.pred_toNat,Sub.ag,assoc,CV.I,CV.B,aj,ak,ae.I,ae.B,SC.I,SC.B,IE.den,BE.den]
  ·simp [bN,aO,bf,Env.join,-Int.pred_toNat,Sub.ag,assoc,CV.I,CV.B,aj,ak,ae.I,ae.B,SC.I,SC.B,IE.den,BE.den]
 obtain ⟨⟨o1,o2,o3⟩,⟨⟨f1,f2⟩,hf,hpos⟩,hn,hx,hm⟩:=hu
 have p2:=o2.1.2
 have p3:=o2.2
 have Qx:=o3
 obtain ⟨q1,q2,q3,q4⟩:=Qx
 simp only [Nat.reduceAdd] at p2 p3 q1 q2 q3 q4
 have hnn:u.bv 58=false:=by
  cases h:u.bv 58
  ·rfl
  ·have:=q1 h;omega
 have ho3:∀v:Env,v.bv 58=u.bv 58→v.iv 59=u.iv 59-1→v.iv 60=u.iv 60→bz v 58:=fun v h1 h2 h3=>⟨fun h=>(by rw [h1,hnn] at h;cases h),by simp only [Nat.reduceAdd];omega,by simp only [Nat.reduceAdd];omega,by simp only [Nat.reduceAdd];omega⟩
 have ho2:∀v:Env,v.bv 51=u.bv 51→v.iv 52=u.iv 52-1→v.iv 53=u.iv 53-1→bz v 51:=fun v h1 h2 h3=>by
  have hnn:u.bv 51=false:=by
   cases h:u.bv 51
   ·rfl
   ·have:=o2.1.1 h
    simp only [Nat.reduceAdd] at this
    omega
  exact ⟨fun h=>(by rw [h1,hnn] at h;cases h),by simp only [Nat.reduceAdd];omega,by simp only [Nat.reduceAdd];omega,by simp only [Nat.reduceAdd];omega⟩
 refine Sat.ob (by simp only [Da];omega) (Sat.br (fun c=>?_) (fun c=>?_))
 ·simp only [Da] at c
  refine Sat.ob (by simp only [Da];omega) (Sat.ob (by simp only [Da];omega) (Sat.ob (by simp only [Da];omega) ?_))
  refine eU (c:=gP) rfl ({aa u 0 4 with notes:=(aa u 0 4).notes.erase (bN u 69 (u.iv 69).toNat),freed:=u.iv 61+1,bD:=gX u 69 (u.iv 69+1) (u.iv 52-1)}:RS) _ (by decide) (by decide) (jQ rfl rfl rfl rfl) ⟨o1,⟨ho2 _ rfl rfl rfl,p3.1,.inl (by show u.iv 52-1=0;omega)⟩,ho3 _ rfl rfl rfl⟩ (RS.ext' rfl rfl rfl rfl rfl rfl vk ?_ rfl rfl rfl rfl DN rfl ?_ rfl rfl) (fun e hq hr=>⟨hq.1,hq.2.trans (congrArg RS.dz hr)⟩) (fun v=>bH v 79∧aa v 0 79=(aa v 0 4).bM (aI v 71)) (fun e h1 h2=>⟨h1,h2.trans hm.symm⟩) fun v hv=>?_
  ·exact (oV (show u.iv 52-1=0 by omega)).trans (oV (show u.iv 52-1=0 by omega)).symm
  ·exact Eq.trans (gp rfl fun i=>by simp [bN,aO,-Int.pred_toNat,Sub.ag,assoc,CV.I,CV.B,aj,ak,ae.I,ae.B,SC.I,SC.B,IE.den,BE.den]) hx
  obtain ⟨⟨o1,o2,o3⟩,hm⟩:=hv
  exact Sat.fin ⟨cu,Eq.trans (b:=(aa v 0 79)) aF (Eq.symm hm.symm)⟩
 ·simp only [Da] at c
  refine Sat.ob (by simp only [Da];omega) (Sat.ob (by simp only [Da];omega) (Sat.ob (by simp only [Da];omega) ?_))
  refine eU (c:=gP) rfl ({aa u 0 4 with notes:=(aa u 0 4).notes.erase (bN u 69 (u.iv 69).toNat),freed:=u.iv 61+1,bD:=gX u 69 (u.iv 69+1) (u.iv 52-1)}:RS) _ (by decide) (by decide) (jQ rfl rfl rfl rfl) ⟨o1,⟨ho2 _ rfl rfl rfl,by show 0≤u.iv 69+1;omega,.inr (by show u.iv 69+1+(u.iv 52-1)≤u.iv 70;omega)⟩,ho3 _ rfl rfl rfl⟩ (RS.ext' rfl rfl rfl rfl rfl rfl vk ?_ rfl rfl rfl rfl DN rfl ?_ rfl rfl) (fun e hq hr=>⟨hq.1,hq.2.trans (congrArg RS.dz hr)⟩) (fun v=>bH v 79∧aa v 0 79=(aa v 0 4).bM (aI v 71)) (fun e h1 h2=>⟨h1,h2.trans hm.symm⟩) fun v hv=>?_
  ·exact zf rfl rfl fun i=>by simp [bN,aO,-Int.pred_toNat,Sub.ag,assoc,CV.I,CV.B,aj,ak,ae.I,ae.B,SC.I,SC.B,IE.den,BE.den]
  ·exact Eq.trans (gp rfl fun i=>by simp [bN,aO,-Int.pred_toNat,Sub.ag,assoc,CV.I,CV.B,aj,ak,ae.I,ae.B,SC.I,SC.B,IE.den,BE.den]) hx
  obtain ⟨⟨o1,o2,o3⟩,hm⟩:=hv
  exact Sat.fin ⟨cu,Eq.trans (b:=(aa v 0 79)) aF (Eq.symm hm.symm)⟩
theorem VT:bg Tryz.prog fP ET oZ :=
 dA dO (E:=VQ) (cs:=vF) rfl NI bX rfl VR (by kernel_rfl) (fun ρ h p hp=>by
   obtain ⟨-,⟨h,-⟩,-⟩:=h
   simp only [List.mem_cons,List.not_mem_nil,or_false] at hp
   subst hp
   exact beq_iff_eq.2 h) VS
noncomputable def VU:Ex:={sched:=sched,loops:=[Vd],cons:=[ji,gP,jZ,mV,jL,eZ],fin:=fP}
abbrev aeI:List (Nat × BE):=[(67,yw 67),(66,yw 66),(58,yw 58),(55,yw 55),(51,yw 51),(48,yw 48),(46,yw 75),(41,yw 41),(36,yw 36),(31,yw 31),(17,yw 17),(12,yw 12)]
abbrev aeJ:List (Nat × CV):=[(70,yu 70 59 7 yN 0),(69,yu 69 70 7 yN 0),(68,yu 68 49 5 yW 0),(54,yl 54 9 5 50 yW 0)]
abbrev aeK:List (Nat × IE):=yo [(143,yv 143)]<|yr 138 138 7<|yo [(130,yv 130),(129,yv 129),(126,yv 126),(125,yv 125),(142,yv 142),(123,yv 123),(122,yv 122),(120,yv 120)]<|yr 118 118 4<|yr 113 113 4<|yr 108 108 4<|yr 103 103 13<|yr 89 89 4<|yr 84 84 8 []
abbrev aeL:List (Nat × BE):=[(140,yw 140),(139,yw 139),(131,yw 131),(128,yw 128),(124,yw 124),(121,yw 121),(119,yw 119),(114,yw 114),(109,yw 109),(104,yw 104),(90,yw 90),(85,yw 85)]
abbrev aeM:List (Nat × CV):=[(143,yu 143 132 7 yN 0),(142,yu 142 143 7 yN 0),(141,yu 141 122 5 yW 0),(127,yl 127 9 5 50 yW 0)]
abbrev YZ:List (Nat × CV):=[(143,yu 144 133 7 yN 0),(142,yu 143 144 7 yN 0),(141,yu 142 123 5 yW 0),(127,yl 128 9 5 50 yW 0)]
abbrev Y0:List (Nat × SA):=[(6,yc 9 7),(5,yc 8 7),(4,yc 7 5)]
abbrev aav:List (Nat × IE):=[(150,.add (.var 150) y1),(148,yv 151),(147,.add (.var 147) y1)]
abbrev aaw:List (Nat × CV):=[(143,yu 70 59 7 yN 0),(142,yu 69 70 7 yN 0),(141,yu 68 49 5 yW 0),(127,yl 54 9 5 50 yW 0)]
def EU:Out :=
 .br (.aA (.var 22) (.lit 12))
 (.call 0 {lo:=0,ah:=0,iv:=yo [(70,yv 70)]<|yr 65 65 7<|yo [(57,yv 57),(56,yv 56)]<|yr 3 3 4<|yo [(53,yv 53),(52,yv 52),(69,yv 69),(50,yv 50),(49,yv 49),(47,yv 47)]<|yr 45 74 4<|yr 40 40 4<|yr 35 35 4<|yr 30 30 13<|yr 16 16 4<|yr 11 11 8<|[yz 71],bv:=aeI,ct:=aeJ,bk:=[(3,yc 3 7),(2,yc 2 7),(1,yc 1 5),(0,yb 0)]} 77 <|
  .fin {lo:=77,ah:=4,iv:=aeK,bv:=aeL,ct:=aeM,bk:=[(6,yc 7 7),(5,yc 6 7),(4,yc 5 5)]})
 (.br (.aA (.var 22) (.lit 13))
  (.ob (.ai (.mul (.add (.var 49) y1) (.lit 40)) (.lit 140737488355328)) <|
   .ob (.ai y0 (.var 49)) <|
   .ob (.ai (.var 49) (.var 50)) <|
   .ob (.ai (.var 50) (.lit 9223372036854775807)) <|
   .ob (.or (.not (.var 48)) (.aA (.var 49) y0)) <|
   .new 77 [.be (.and (.ai (.add (.var 49) y1) (.var 77)) (.ai (.var 77) (.lit 9223372036854775807)))] <|
   .ob (.inr .i64 (.add (.var 47) y1)) <|
   .call 0 {lo:=0,ah:=0,iv:=yo [(70,yv 70)]<|yr 65 65 7<|yo [(57,yv 57),(56,yv 56)]<|yr 3 3 4<|yo [(53,yv 53),(52,yv 52),(69,yv 69),(50,yv 77),(49,.add (.var 49) y1),(47,yv 47)]<|yr 45 45 4<|yr 40 40 4<|yr 35 35 4<|yr 30 30 13<|yr 16 16 4<|yr 11 11 8<|[(71,.add (.var 47) y1)],bv:=[(67,yw 67),(66,yw 66),(58,yw 58),(55,yw 55),(51,yw 51),(48,.lit false),(46,yw 46),(41,yw 41),(36,yw 36),(31,yw 31),(17,yw 17),(12,yw 12)],ct:=[(70,yu 70 59 7 yN 0),(69,yu 69 70 7 yN 0),(68,.up {r:=68,n1:=.add (.var 49) y1,s1:=5,ks:=yW} 0 [⟨0,(.var 49),y0,0,.int .i64 (.var 71)⟩,⟨0,(.var 49),y0,1,.int .i64 (.var 72)⟩,⟨0,(.var 49),y0,2,.int .i64 (.var 73)⟩,⟨0,(.var 49),y0,3,.int .i64 (.var 74)⟩,⟨0,(.var 49),y0,4,.bool (.var 75)⟩] y0),(54,yl 54 9 5 50 yW 0)],bk:=[(3,yc 3 7),(2,yc 2 7),(1,yc 6 5),(0,yb 0)]} 78 <|
   .br (.var 145)
   (.fin {lo:=77,ah:=4,iv:=yo [(143,yv 144)]<|yr 138 139 7<|yo [(130,yv 131),(129,yv 130),(126,yv 127),(125,yv 126),(142,yv 143),(123,yv 124),(122,yv 123),(120,yv 121)]<|yr 118 119 4<|yr 113 114 4<|yr 108 109 4<|yr 103 104 13<|yr 89 90 4<|yr 84 85 8 [],bv:=[(140,yw 141),(139,yw 140),(131,yw 132),(128,yw 129),(124,yw 125),(121,yw 122),(119,yw 120),(114,yw 115),(109,yw 110),(104,yw 105),(90,yw 91),(85,yw 86)],ct:=YZ,bk:=Y0})
   (.br (.not (.aA (.var 0) (.lit 4)))
    (.call 2 {lo:=0,ah:=0,iv:=yo [(70,yv 144)]<|yr 65 139 7<|yo [(57,yv 131),(56,yv 130)]<|yr 3 3 4<|yo [(53,yv 127),(52,yv 126),(69,yv 143),(50,yv 124),(49,yv 123),(47,yv 121)]<|yr 45 119 4<|yr 40 114 4<|yr 35 109 4<|yr 30 104 13<|yr 16 90 4<|yr 11 85 8 [],bv:=[(67,yw 141),(66,yw 140),(58,yw 132),(55,yw 129),(51,yw 125),(48,yw 122),(46,yw 120),(41,yw 115),(36,yw 110),(31,yw 105),(17,yw 91),(12,yw 86)],ct:=[(70,yu 144 133 7 yN 0),(69,yu 143 144 7 yN 0),(68,yu 142 123 5 yW 0),(54,yl 128 9 5 50 yW 0)],bk:=[(3,yc 9 7),(2,yc 8 7),(1,yc 7 5),(0,yb 0)]} 146 <|
     .fin {lo:=77,ah:=4,iv:=yo [(143,yv 212)]<|yr 138 207 7<|yo [(130,yv 199),(129,yv 198),(126,yv 195),(125,yv 194),(142,yv 211),(123,yv 192),(122,yv 191),(120,yv 189)]<|yr 118 187 4<|yr 113 182 4<|yr 108 177 4<|yr 103 172 13<|yr 89 158 4<|yr 84 153 8 [],bv:=[(140,yw 209),(139,yw 208),(131,yw 200),(128,yw 197),(124,yw 193),(121,yw 190),(119,yw 188),(114,yw 183),(109,yw 178),(104,yw 173),(90,yw 159),(85,yw 154)],ct:=[(143,yu 212 201 7 yN 0),(142,yu 211 212 7 yN 0),(141,yu 210 191 5 yW 0),(127,yl 196 9 5 50 yW 0)],bk:=[(6,yc 12 7),(5,yc 11 7),(4,yc 10 5)]})
    (.ob (.or (.not (.var 122)) (.aA (.var 123) y0)) <|
     .ob (.ai y0 (.var 123)) <|
     .loop 146 {lo:=146,ah:=10,iv:=[yz 150,yz 148,yz 147],bv:=[(146,.lit true)],nb:=[10]} <|
     .br (.bO (.var 150) (.var 123))
     (.ob (.not (.var 122)) <|
      .ob (.ai y0 (.var 150)) <|
      .br (.not (.cell 142 (.var 150) y0 4))
      (.ob (.ai (.mul (.add (.var 147) y1) (.lit 24)) (.lit 140737488355328)) <|
       .ob (.ai y0 (.var 147)) <|
       .ob (.ai (.var 147) (.var 148)) <|
       .ob (.ai (.var 148) (.lit 9223372036854775807)) <|
       .ob (.or (.not (.var 146)) (.aA (.var 147) y0)) <|
       .new 151 [.be (.and (.ai (.add (.var 147) y1) (.var 151)) (.ai (.var 151) (.lit 9223372036854775807)))] <|
       .ob (.inr .i64 (.add (.var 150) y1)) <|
       .back 0 {lo:=146,ah:=10,iv:=aav,bv:=[(146,.lit false)],ct:=[(149,.up {r:=149,n1:=.add (.var 147) y1,s1:=3,ks:=[.bool,.int .i64,.int .i64]} 0 [⟨0,(.var 147),y0,0,.bool (.lit false)⟩,⟨0,(.var 147),y0,1,.int .i64 y0⟩,⟨0,(.var 147),y0,2,.int .i64 y0⟩] y0)],bk:=[(10,yc 15 3)]})
      (.ob (.ai (.mul (.add (.var 147) y1) (.lit 24)) (.lit 140737488355328)) <|
       .ob (.ai y0 (.var 147)) <|
       .ob (.ai (.var 147) (.var 148)) <|
       .ob (.ai (.var 148) (.lit 9223372036854775807)) <|
       .ob (.or (.not (.var 146)) (.aA (.var 147) y0)) <|
       .new 151 [.be (.and (.ai (.add (.var 147) y1) (.var 151)) (.ai (.var 151) (.lit 9223372036854775807)))] <|
       .ob (.inr .i64 (.add (.var 150) y1)) <|
       .back 0 {lo:=146,ah:=10,iv:=aav,bv:=[(146,.lit false)],ct:=[(149,.up {r:=149,n1:=.add (.var 147) y1,s1:=3,ks:=[.bool,.int .i64,.int .i64]} 0 [⟨0,(.var 147),y0,0,.bool (.lit true)⟩,⟨0,(.var 147),y0,1,.int .i64 (.cell 142 (.var 150) y0 3)⟩,⟨0,(.var 147),y0,2,.int .i64 (.cell 142 (.var 150) y0 2)⟩] y0)],bk:=[(10,yc 15 3)]}))
     (.call 3 {lo:=0,ah:=0,iv:=[(3,yv 148),(2,yv 147),(0,yv 119)],bv:=[(1,yw 146)],ct:=[(4,.up {r:=149,n1:=.var 147,s1:=3,ks:=[.bool,.int .i64,.int .i64]} 0 [] y0)],bk:=[(0,yc 10 3)]} 151 <|
      .br (.var 151)
      (.ob (.inr .i64 (.add (.var 118) y1)) <|
       .ob (.inr .i64 (.add (.var 119) y1)) <|
       .fin {lo:=77,ah:=4,iv:=yo [(143,yv 144)]<|yr 138 139 7<|yo [(130,yv 131),(129,yv 130),(126,yv 127),(125,yv 126),(142,yv 143),(123,yv 124),(122,yv 123),(120,yv 121)]<|yr 118 119 4<|yr 113 114 4<|yo [(108,.add (.var 119) y1),(107,.add (.var 118) y1),yz 106,yz 105]<|yr 103 119 4<|yo [(99,.lit 24),yz 98,yz 97,(96,.lit 3),(95,.lit 14)]<|yr 94 95 4<|yr 89 90 4<|yr 84 85 8 [],bv:=[(140,yw 141),(139,yw 140),(131,yw 132),(128,yw 129),(124,yw 125),(121,yw 122),(119,yw 120),(114,yw 115),(109,.lit false),(104,yw 120),(90,yw 91),(85,yw 86)],ct:=YZ,bk:=Y0})
      (.fin {lo:=77,ah:=4,iv:=yo [(143,yv 144)]<|yr 138 139 7<|yo [(130,yv 131),(129,yv 130),(126,yv 127),(125,yv 126),(142,yv 143),(123,yv 124),(122,yv 123),(120,yv 121)]<|yr 118 119 4<|yr 113 114 4<|yo [yz 108,yz 107,yz 106,yz 105,yz 103,yz 102,yz 101,yz 100,(99,.lit 24),yz 98,yz 97,(96,.lit 1),(95,.lit 15)]<|yr 94 95 4<|yr 89 90 4<|yr 84 85 8 [],bv:=[(140,yw 141),(139,yw 140),(131,yw 132),(128,yw 129),(124,yw 125),(121,yw 122),(119,yw 120),(114,yw 115),(109,.lit false),(104,.lit false),(90,yw 91),(85,yw 86)],ct:=YZ,bk:=Y0})))))
  (.br (.aA (.var 22) (.lit 14))
   (.fin {lo:=77,ah:=4,iv:=yo [(143,yv 70)]<|yr 138 65 7<|yo [(130,yv 57),(129,yv 56),(126,yv 53),(125,yv 52),(142,yv 69),(123,yv 50),(122,yv 49),(120,yv 47)]<|yr 118 45 4<|yr 113 40 4<|yo [yz 108,yz 107,yz 106,yz 105,yz 103,yz 102,yz 101,yz 100,(99,.lit 24),yz 98,yz 97,(96,.lit 1),(95,.lit 15)]<|yr 94 21 4<|yr 89 16 4<|yr 84 11 8 [],bv:=[(140,yw 67),(139,yw 66),(131,yw 58),(128,yw 55),(124,yw 51),(121,yw 48),(119,yw 46),(114,yw 41),(109,.lit false),(104,.lit false),(90,yw 17),(85,yw 12)],ct:=aaw,bk:=[(6,yc 3 7),(5,yc 2 7),(4,yc 1 5)]})
   (.br (.aA (.var 22) (.lit 15))
    (.call 2 {lo:=0,ah:=0,iv:=yo [(70,yv 70)]<|yr 65 65 7<|yo [(57,yv 57),(56,yv 56)]<|yr 3 3 4<|yo [(53,yv 53),(52,yv 52),(69,yv 69),(50,yv 50),(49,yv 49),(47,yv 47)]<|yr 45 74 4<|yr 40 40 4<|yr 35 35 4<|yr 30 30 13<|yr 16 16 4<|yr 11 11 8 [],bv:=aeI,ct:=aeJ,bk:=[(3,yc 3 7),(2,yc 2 7),(1,yc 1 5),(0,yb 0)]} 77 <|
     .fin {lo:=77,ah:=4,iv:=aeK,bv:=aeL,ct:=aeM,bk:=[(6,yc 7 7),(5,yc 6 7),(4,yc 5 5)]})
    (.fin {lo:=77,ah:=4,iv:=yo [(143,yv 70)]<|yr 138 65 7<|yo [(130,yv 57),(129,yv 56),(126,yv 53),(125,yv 52),(142,yv 69),(123,yv 50),(122,yv 49),(120,yv 47)]<|yr 118 45 4<|yr 113 40 4<|yr 108 35 4<|yr 103 30 13<|yr 89 16 4<|yr 84 11 8 [],bv:=[(140,yw 67),(139,yw 66),(131,yw 58),(128,yw 55),(124,yw 51),(121,yw 48),(119,yw 46),(114,yw 41),(109,yw 36),(104,yw 31),(90,yw 17),(85,yw 12)],ct:=aaw,bk:=[(6,yc 3 7),(5,yc 2 7),(4,yc 1 5)]}))))
theorem VV:exec tab VU 8000 [] (fE fP.f fP.nv [(.aA (.var 22) (.lit 16),false)] fP.gl fP.hp fP.args)=EU:=by kernel_rfl
def ScB (ρ:Env):Prop:=(ρ.iv 59≤1000000∧(ρ.iv 22=13→ρ.iv 49≤99999))∧(ρ.iv 22=13→ρ.iv 0=4→GZ ρ 42)∧(ρ.iv 22=13→0≤ρ.iv 47∧ρ.iv 47≤99999)∧(ρ.iv 22=15→ρ.iv 0=4)
def BU (ρ:Env):Prop:=bH ρ 4∧xz ρ∧ScB ρ∧GZ ρ 71∧¬ρ.iv 22=16
def RS.behind (s:RS):RS:=if s.af≠4 then s.gM else if RS.may s.clock.num (s.seen.map RS.kR)=true then s.advance 14 else s.era 15
theorem Tf {r:RS} {x:Rp} (h:r.step=13):r.bM x=match ({r with seen:=r.seen ++ [x.word]}:RS).look (r.index+1) with | some t=>t | none=>({r with seen:=r.seen ++ [x.word]}:RS).behind:=by
 unfold RS.bM
 rw [if_neg (by omega),if_pos h]
 rfl
theorem Kk {post:Env→Prop} {Γ:List (Env→Prop)} {ρ:Env} {nv:Nat} {σ:Sub} {k:Out} (r:RS) (n:Int) (h4:4≤nv) (hst:∀i,i<4→(σ.ag ρ).iv i=ρ.iv i) (hpre:sW (σ.ag ρ)) (hr:aa (σ.ag ρ) 0 4=r) (hn:(σ.ag ρ).iv 71=n) (K:Env→Prop)
  (hK:∀e,bH (ρ.join nv e) nv→(ρ.join nv e).bv (nv+67)=(r.look n).isSome→aa (ρ.join nv e) 0 nv=(r.look n).getD r→K (ρ.join nv e)) (h:∀q,K q→Sat post vF Γ q k):Sat post vF Γ ρ (.call 0 σ nv k):=by
 refine Sat.jk (c:=ji) rfl hpre K (fun e hq=>?_) h
 have hs:∀i,i<4→(σ.ag ρ).iv i=(ρ.join nv e).iv i:=fun i hi=>by
  rw [hst i hi]
  exact (if_pos (show i<nv by omega)).symm
 replace hq:uy (bf σ 72 nv ρ (ρ.join nv e)):=hq
 obtain ⟨q1,q2,q3⟩:=hq
 have e0:aa (bf σ 72 nv ρ (ρ.join nv e)) 0 4=r:=(Qu (by decide)).trans hr
 have e1:(bf σ 72 nv ρ (ρ.join nv e)).iv 71=n:=hn
 have e2:(bf σ 72 nv ρ (ρ.join nv e)).bv 139=(ρ.join nv e).bv (nv+67):=BG 72 67
 rw [Nh] at q1
 rw [e0,e1,e2] at q2
 rw [e0,e1,Qv (by decide) hs] at q3
 exact hK e q1 q2 q3
def G6 (ρ:Env):Prop:=(bH ρ 78∧ρ.iv 123≤100000∧GZ ρ 116)∧((aa ρ 0 78).af=4∧(aa ρ 0 4).bM (aI ρ 71)=(aa ρ 0 78).behind)∧(0≤ρ.iv 150∧ρ.iv 150≤ρ.iv 123)∧(bz ρ 146∧ρ.iv 147=ρ.iv 150)∧iB ρ 149 (ρ.iv 147)=((dJ ρ 142 (ρ.iv 123)).take (ρ.iv 150).toNat).map RS.kR
set_option maxHeartbeats 4000000 in
theorem VX (ρ:Env) (hpre:BU ρ.num):Sat oZ vF [] ρ EU:=by
 replace hpre:BU ρ:=hpre
 obtain ⟨⟨o1,o2,o3⟩,hs,hsb,hx,hne⟩:=hpre
 have ahW:=hsb
 obtain ⟨⟨f1,f2⟩,hw,hj,Qr⟩:=ahW
 have hx':=hx
 obtain ⟨⟨x1,x2⟩,x3,x4⟩:=hx'
 have o1':=o1
 obtain ⟨p1,p2,p3,p4⟩:=o1'
 simp only [Nat.reduceAdd] at x1 x2 x3 x4 p1 p2 p3 p4
 unfold EU
 refine Sat.br (fun c=>?_) (fun c=>?_)
 ·simp only [Da] at c
  have hm:(aa ρ 0 4).bM (aI ρ 71)=(({aa ρ 0 4 with clock:=az ρ 71}:RS).look 0).getD ({aa ρ 0 4 with clock:=az ρ 71}:RS):=by unfold RS.bM;exact if_pos c
  refine Kk ({aa ρ 0 4 with clock:=az ρ 71}:RS) 0 (by decide) (jQ rfl rfl rfl rfl) ⟨⟨o1,o2,o3⟩,hs,Int.le_refl 0,(show (0:Int)≤1000000 by decide)⟩ aF rfl (fun u=>bH u 77∧aa u 0 77=(aa u 0 4).bM (aI u 71)) (fun e h1 _ h2=>⟨h1,h2.trans hm.symm⟩) fun u hu=>?_
  obtain ⟨⟨o1,o2,o3⟩,hm⟩:=hu
  exact Sat.fin ⟨cu,Eq.trans (b:=(aa u 0 77)) aF (Eq.symm hm.symm)⟩
 simp only [Da] at c
 refine Sat.br (fun c2=>?_) (fun c2=>?_)
 ·simp only [Da] at c2
  replace f2:=f2 c2
  refine Sat.ob (by simp only [Da];omega) (Sat.ob (decide_eq_true p2) (Sat.ob (decide_eq_true p3) (Sat.ob (decide_eq_true p4) (Sat.ob (df o1) (Sat.BF (fun q=>(bH q 4∧xz q∧ScB q)∧q.iv 22=13) (fun e=>⟨⟨⟨o1,o2,o3⟩,hs,hsb⟩,c2⟩) fun q hq hb=>?_)))))
  obtain ⟨⟨⟨o1,o2,o3⟩,hs,⟨f1,f2⟩,hw,hj,Qr⟩,c2⟩:=hq
  replace f2:=f2 c2
  replace hw:=hw c2
  obtain ⟨j1,j2⟩:=hj c2
  simp only [Da] at hb
  have o1':=o1
  obtain ⟨p1,p2,p3,p4⟩:=o1'
  simp only [Nat.reduceAdd] at p1 p2 p3 p4
  have hm:=Tf (r:=aa q 0 4) (x:=aI q 71) c2
  have af4:∀v:Env,v.iv 49=q.iv 49+1→(∀i:Nat,(i:Int)<q.iv 49→aO (v.ic 68 i 0) (v.bc 68 i 0)=aO (q.ic 68 i 0) (q.bc 68 i 0))→aO (v.ic 68 (q.iv 49).toNat 0) (v.bc 68 (q.iv 49).toNat 0)=az q 71→dJ v 68 (v.iv 49)=(aa q 0 4).seen ++ [(aI q 71).word]:=fun v h1 h2 h3=>Sa p2 h1 h2 h3
  refine Sat.ob (by simp only [Da];omega) ?_
  refine Kk ({aa q 0 4 with seen:=(aa q 0 4).seen ++ [(aI q 71).word]}:RS) ((aa q 0 4).index+1) (by decide) (jQ rfl rfl rfl rfl) ⟨⟨⟨fun h=>(by cases h),by show 0≤q.iv 49+1;omega,hb.1,hb.2⟩,o2,o3⟩,hs,(by show 0≤q.iv 47+1;omega),(by show q.iv 47+1≤1000000;omega)⟩
   (RS.ext' rfl rfl rfl rfl rfl rfl (af4 _ rfl (fun i hi=>(by have hn:¬(q.iv 49).toNat=i:=fun h=>(by omega);simp [aO,-Int.pred_toNat,Sub.ag,assoc,CV.I,CV.B,aj,ak,ae.I,ae.B,SC.I,SC.B,IE.den,BE.den,hn])) (by simp [aO,az,-Int.pred_toNat,Sub.ag,assoc,CV.I,CV.B,aj,ak,ae.I,ae.B,SC.I,SC.B,IE.den,BE.den])) GU rfl rfl rfl rfl DN rfl zX rfl rfl) rfl
   (fun u=>bH u 78∧(u.iv 119=u.iv 45∧u.iv 118=u.iv 44∧u.iv 123=u.iv 49+1∧u.iv 126=u.iv 52∧u.iv 133=u.iv 59∨u.bv 145=true)∧((u.iv 0=4→GZ u 42)∧u.iv 59≤1000000∧u.iv 49≤99999)∧(u.bv 145=true→aa u 0 78=(aa u 0 4).bM (aI u 71))∧(u.bv 145=false→(aa u 0 4).bM (aI u 71)=(aa u 0 78).behind)) (fun e h1 h2 h3=>?_) fun u hu=>?_
  ·cases hl:({aa q 0 4 with seen:=(aa q 0 4).seen ++ [(aI q 71).word]}:RS).look ((aa q 0 4).index+1) with
   | some t =>
    rw [hl] at h2 h3 hm
    refine ⟨h1,.inr h2,⟨hw,f1,f2⟩,fun _=>h3.trans hm.symm,fun hf=>?_⟩
    replace hf:(q.join 78 e).bv 145=false:=hf
    rw [show (q.join 78 e).bv 145=true from h2] at hf
    cases hf
   | none =>
    rw [hl] at h2 h3 hm
    have h3':aa (q.join 78 e) 0 78=({aa q 0 4 with seen:=(aa q 0 4).seen ++ [(aI q 71).word]}:RS):=h3
    have k1:(dJ (q.join 78 e) 142 ((q.join 78 e).iv 123)).length=((aa q 0 4).seen ++ [(aI q 71).word]).length:=congrArg (fun r:RS=>r.seen.length) h3'
    have k2:(aT (q.join 78 e) 144 ((q.join 78 e).iv 133)).length=(aT q 70 (q.iv 59)).length:=congrArg (fun r:RS=>r.notes.length) h3'
    have k3:(gX (q.join 78 e) 143 ((q.join 78 e).iv 143) ((q.join 78 e).iv 126)).length=(gX q 69 (q.iv 69) (q.iv 52)).length:=congrArg (fun r:RS=>r.bD.length) h3'
    have k4:(q.join 78 e).iv 119=q.iv 45:=congrArg (fun r:RS=>r.clock.num) h3'
    have k5:(q.join 78 e).iv 118=q.iv 44:=congrArg (fun r:RS=>r.clock.tag) h3'
    have z1:=h1.1.2.1
    have z2:=h1.2.1.1.2.1
    have z3:=h1.2.2.2.1
    have y2:=o2.1.2.1
    have y3:=o3.2.1
    rw [vo,List.length_append,List.length_singleton] at k1
    rw [show (aa q 0 4).seen.length=(q.iv 49).toNat from vo] at k1
    rw [kC,kC] at k2
    simp only [gX,List.length_map,List.length_range] at k3
    simp only [Nat.reduceAdd] at z1 z2 z3 y2 y3
    refine ⟨h1,.inl ⟨k4,k5,?_,?_,?_⟩,⟨hw,f1,f2⟩,fun hf=>?_,fun _=>?_⟩
    ·show (q.join 78 e).iv 123=q.iv 49+1;omega
    ·show (q.join 78 e).iv 126=q.iv 52;omega
    ·show (q.join 78 e).iv 133=q.iv 59;omega
    ·replace hf:(q.join 78 e).bv 145=true:=hf
     rw [show (q.join 78 e).bv 145=false from h2] at hf
     cases hf
    ·exact hm.trans (congrArg RS.behind h3'.symm)
  obtain ⟨⟨o1,o2,o3⟩,hk,⟨hw,f1,f2⟩,hy,hn⟩:=hu
  refine Sat.br (fun cb=>?_) (fun cb=>?_)
  ·have hm:=hy cb
   exact Sat.fin ⟨cu,Eq.trans (b:=(aa u 0 78)) aF (Eq.symm hm.symm)⟩
  ·have hm:=hn cb
   obtain ⟨k1,k2,k3,k4,k5⟩:=hk.resolve_right (fun h=>by rw [show u.bv 145=false from cb] at h;cases h)
   refine Sat.br (fun c4=>?_) (fun c4=>?_)
   ·simp only [Da] at c4
    have hm2:(aa u 0 4).bM (aI u 71)=(aa u 0 78).gM:=hm.trans (if_pos c4)
    refine eU (c:=jZ) rfl (aa u 0 78) (aa u 0 78).gM (by decide) (by decide) (jQ rfl rfl rfl rfl) ⟨⟨o1,o2,o3⟩,⟨by show u.iv 133≤1000000;omega,.inr (by show u.iv 123≤100000;omega)⟩,fun h=>absurd h c4⟩ aF (fun e hq hr=>⟨hq.1,by rw [←hr];exact hq.2⟩) (fun v=>bH v 146∧aa v 0 146=(aa v 0 4).bM (aI v 71)) (fun e h1 h2=>⟨h1,h2.trans hm2.symm⟩) fun v hv=>?_
    obtain ⟨⟨o1,o2,o3⟩,hm⟩:=hv
    exact Sat.fin ⟨cu,Eq.trans (b:=(aa v 0 146)) aF (Eq.symm hm.symm)⟩
   ·simp only [Da] at c4
    obtain ⟨⟨w1,w2⟩,w3,w4⟩:=hw c4
    simp only [Nat.reduceAdd] at w1 w2 w3 w4
    have z1:=o1.2.1
    simp only [Nat.reduceAdd] at z1
    refine Sat.ob (df o1) (Sat.ob (decide_eq_true z1) (Sat.zb G6 (fun r=>(r.iv 123-r.iv 150).toNat) (fun _=>True) ⟨⟨⟨o1,o2,o3⟩,by show u.iv 123≤100000;omega,⟨by show -1000000000000≤u.iv 118;omega,by show u.iv 118≤1000000000000;omega⟩,by show -1000000000000≤u.iv 119;omega,by show u.iv 119≤1000000000000;omega⟩,⟨c4,hm⟩,⟨Int.le_refl 0,z1⟩,⟨qQ rfl rfl,rfl⟩,rfl⟩ (fun _=>trivial) fun q _ hI=>?_))
    replace hI:G6 q:=hI
    have hI':=hI
    obtain ⟨⟨⟨o1,o2,o3⟩,hl1,⟨w1,w2⟩,w3,w4⟩,⟨he,hm⟩,⟨i1,i2⟩,⟨os,hl⟩,hrow⟩:=hI
    simp only [Nat.reduceAdd] at w1 w2 w3 w4
    refine Sat.br (fun c=>?_) (fun c=>?_)
    ·simp only [Da] at c
     refine Sat.ob (ve o1 (by simp only [Nat.reduceAdd];omega)) (Sat.ob (decide_eq_true i1) ?_)
     obtain ⟨p1,p2,p3,p4⟩:=id os
     refine Sat.br (fun c2=>?_) (fun c2=>?_)
     ·simp only [Da] at c2
      refine Sat.ob (by simp only [Da];omega) (Sat.ob (decide_eq_true p2) (Sat.ob (decide_eq_true p3) (Sat.ob (decide_eq_true p4) (Sat.ob (df os) (Sat.BF (fun u=>G6 u∧u.iv 150<u.iv 123∧(u.iv 123-(u.iv 150+1)).toNat<(q.iv 123-q.iv 150).toNat∧u.bc 142 (u.iv 150).toNat 0 4=false) (fun e=>⟨hI',c,by show (q.iv 123-(q.iv 150+1)).toNat<(q.iv 123-q.iv 150).toNat;omega,c2⟩) fun u hu hb=>?_)))))
      obtain ⟨⟨hA,hB,⟨i1,i2⟩,⟨os,hl⟩,hrow⟩,c,hd,hc⟩:=hu
      simp only [Da] at hb
      obtain ⟨p1,p2,p3,p4⟩:=id os
      replace p2:0≤u.iv 147:=p2
      have hf2:=hA.2.1
      refine Sat.ob (by simp only [Da];omega) (Sat.back rfl ⟨⟨hA,hB,⟨?_,?_⟩,⟨⟨fun h=>(by cases h),?_,hb.1,hb.2⟩,?_⟩,?_⟩,hd⟩)
      ·show 0≤u.iv 150+1;omega
      ·show u.iv 150+1≤u.iv 123;omega
      ·show 0≤u.iv 147+1;omega
      ·show u.iv 147+1=u.iv 150+1;omega
      ·refine (sF (ρ:=u) (r:=149) (n:=u.iv 147) (w:=RS.kR (aO (u.ic 142 (u.iv 150).toNat 0) (u.bc 142 (u.iv 150).toNat 0))) p2 rfl (fun i hi=>?_) ?_).trans ?_
       ·have hn:¬(u.iv 147).toNat=i:=fun h=>by omega
        simp [lG,aO,-Int.pred_toNat,Sub.ag,assoc,CV.I,CV.B,aj,ak,ae.I,ae.B,SC.I,SC.B,IE.den,BE.den,hn]
       ·simp [lG,aO,RS.kR,Sp.zero,-Int.pred_toNat,Sub.ag,assoc,CV.I,CV.B,aj,ak,ae.I,ae.B,SC.I,SC.B,IE.den,BE.den,hl,hc]
       ·show iB u 149 (u.iv 147) ++ _=((dJ u 142 (u.iv 123)).take (u.iv 150+1).toNat).map RS.kR
        rw [hrow,show (u.iv 150+1).toNat=(u.iv 150).toNat+1 by omega,p8 (by omega),List.map_append]
        rfl
     ·simp only [Da] at c2
      refine Sat.ob (by simp only [Da];omega) (Sat.ob (decide_eq_true p2) (Sat.ob (decide_eq_true p3) (Sat.ob (decide_eq_true p4) (Sat.ob (df os) (Sat.BF (fun u=>G6 u∧u.iv 150<u.iv 123∧(u.iv 123-(u.iv 150+1)).toNat<(q.iv 123-q.iv 150).toNat∧u.bc 142 (u.iv 150).toNat 0 4=true) (fun e=>⟨hI',c,by show (q.iv 123-(q.iv 150+1)).toNat<(q.iv 123-q.iv 150).toNat;omega,c2⟩) fun u hu hb=>?_)))))
      obtain ⟨⟨hA,hB,⟨i1,i2⟩,⟨os,hl⟩,hrow⟩,c,hd,hc⟩:=hu
      simp only [Da] at hb
      obtain ⟨p1,p2,p3,p4⟩:=id os
      replace p2:0≤u.iv 147:=p2
      have hf2:=hA.2.1
      refine Sat.ob (by simp only [Da];omega) (Sat.back rfl ⟨⟨hA,hB,⟨?_,?_⟩,⟨⟨fun h=>(by cases h),?_,hb.1,hb.2⟩,?_⟩,?_⟩,hd⟩)
      ·show 0≤u.iv 150+1;omega
      ·show u.iv 150+1≤u.iv 123;omega
      ·show 0≤u.iv 147+1;omega
      ·show u.iv 147+1=u.iv 150+1;omega
      ·refine (sF (ρ:=u) (r:=149) (n:=u.iv 147) (w:=RS.kR (aO (u.ic 142 (u.iv 150).toNat 0) (u.bc 142 (u.iv 150).toNat 0))) p2 rfl (fun i hi=>?_) ?_).trans ?_
       ·have hn:¬(u.iv 147).toNat=i:=fun h=>by omega
        simp [lG,aO,-Int.pred_toNat,Sub.ag,assoc,CV.I,CV.B,aj,ak,ae.I,ae.B,SC.I,SC.B,IE.den,BE.den,hn]
       ·simp [lG,aO,RS.kR,-Int.pred_toNat,Sub.ag,assoc,CV.I,CV.B,aj,ak,ae.I,ae.B,SC.I,SC.B,IE.den,BE.den,hl,hc]
       ·show iB u 149 (u.iv 147) ++ _=((dJ u 142 (u.iv 123)).take (u.iv 150+1).toNat).map RS.kR
        rw [hrow,show (u.iv 150+1).toNat=(u.iv 150).toNat+1 by omega,p8 (by omega),List.map_append]
        rfl
    ·simp only [Da] at c
     rw [zw (by omega)] at hrow
     refine Sat.jk (c:=mV) rfl ⟨os,by show q.iv 147≤1000000;omega⟩ (fun u=>(bH u 78∧GZ u 116)∧(aa u 0 4).bM (aI u 71)=if u.bv 151=true then (aa u 0 78).advance 14 else (aa u 0 78).era 15) (fun e hq=>?_) fun u hu=>?_
     ·replace hq:Df (bf _ 5 151 q (q.join 151 e)):=hq
      refine ⟨⟨⟨o1,o2,o3⟩,⟨w1,w2⟩,w3,w4⟩,hm.trans ?_⟩
      have hq2:(q.join 151 e).bv 151=RS.may (q.iv 119) (iB q 149 (q.iv 147)):=by
       refine Eq.trans (BG (σ:=_) (ρ:=q) (ρ':=q.join 151 e) (N:=151) 5 0).symm (hq.trans ?_)
       exact congrArg (RS.may (q.iv 119)) (G5 rfl fun i=>by simp [lG,bf,Env.join,-Int.pred_toNat,Sub.ag,assoc,CV.I,CV.B,aj,ak,ae.I,ae.B,SC.I,SC.B,IE.den,BE.den])
      rw [hrow] at hq2
      unfold RS.behind
      rw [if_neg (show ¬(aa q 0 78).af≠4 from fun h=>h he)]
      show (if RS.may (q.iv 119) ((dJ q 142 (q.iv 123)).map RS.kR)=true then (aa q 0 78).advance 14 else (aa q 0 78).era 15)=_
      rw [←hq2]
      rfl
     obtain ⟨⟨⟨o1,o2,o3⟩,⟨w1,w2⟩,w3,w4⟩,hm⟩:=hu
     simp only [Nat.reduceAdd] at w1 w2 w3 w4
     refine Sat.br (fun cb=>?_) (fun cb=>?_)
     ·rw [if_pos (show u.bv 151=true from cb)] at hm
      exact Sat.ob (by simp only [Da];omega) (Sat.ob (by simp only [Da];omega) (Sat.fin ⟨cu,Eq.trans (b:=(aa u 0 78).advance 14) aF (Eq.symm hm)⟩))
     ·rw [if_neg (show ¬u.bv 151=true from fun h=>by rw [show u.bv 151=false from cb] at h;cases h)] at hm
      exact Sat.fin ⟨cu,Eq.trans (b:=(aa u 0 78).era 15) aF (Eq.symm hm)⟩
 simp only [Da] at c2
 refine Sat.br (fun c3=>?_) (fun c3=>?_)
 ·simp only [Da] at c3
  have hm:(aa ρ 0 4).bM (aI ρ 71)=(aa ρ 0 4).era 15:=by unfold RS.bM;exact (if_neg c).trans ((if_neg c2).trans (if_pos c3))
  exact Sat.fin ⟨cu,Eq.trans (b:=(aa ρ 0 4).era 15) aF (Eq.symm hm)⟩
 simp only [Da] at c3
 refine Sat.br (fun c4=>?_) (fun c4=>?_)
 ·simp only [Da] at c4
  have hm:(aa ρ 0 4).bM (aI ρ 71)=({aa ρ 0 4 with clock:=az ρ 71}:RS).gM:=by unfold RS.bM;exact (if_neg c).trans ((if_neg c2).trans ((if_neg c3).trans (if_pos c4)))
  refine eU (c:=jZ) rfl ({aa ρ 0 4 with clock:=az ρ 71}:RS) ({aa ρ 0 4 with clock:=az ρ 71}:RS).gM (by decide) (by decide) (jQ rfl rfl rfl rfl) ⟨⟨o1,o2,o3⟩,⟨f1,.inl (Qr c4)⟩,fun _=>hx⟩ aF (fun e hq hr=>⟨hq.1,by rw [←hr];exact hq.2⟩) (fun v=>bH v 77∧aa v 0 77=(aa v 0 4).bM (aI v 71)) (fun e h1 h2=>⟨h1,h2.trans hm.symm⟩) fun v hv=>?_
  obtain ⟨⟨o1,o2,o3⟩,hm⟩:=hv
  exact Sat.fin ⟨cu,Eq.trans (b:=(aa v 0 77)) aF (Eq.symm hm.symm)⟩
 ·simp only [Da] at c4
  have hm:(aa ρ 0 4).bM (aI ρ 71)=aa ρ 0 4:=by unfold RS.bM;exact (if_neg c).trans ((if_neg c2).trans ((if_neg c3).trans ((if_neg c4).trans (if_neg hne))))
  exact Sat.fin ⟨cu,Eq.trans (b:=(aa ρ 0 4)) aF (Eq.symm hm)⟩
theorem Tg:bg Tryz.prog fP BU oZ :=
 dA dO (E:=VU) (cs:=vF) rfl NI bX rfl VV (by kernel_rfl) (fun ρ h p hp=>by
   obtain ⟨-,-,-,-,h⟩:=h
   simp only [List.mem_cons,List.not_mem_nil,or_false] at hp
   subst hp
   exact beq_eq_false_iff_ne.2 h) VX
def zy (ρ:Env):Prop:=bH ρ 4∧xz ρ∧ScB ρ∧GZ ρ 71∧(-1000000000000≤ρ.iv 61∧ρ.iv 61≤1000000000000)∧(ρ.iv 22=16→∃d l,(aa ρ 0 4).bD=d :: l∧d∈(aa ρ 0 4).notes)
theorem VY:bg Tryz.prog fP zy oZ:=aeH Tg VT fun ρ h=>by
 obtain ⟨h1,h2,h3,h4,h5,h6⟩:=h
 by_cases hs:ρ.iv 22=16
 ·exact .inr ⟨h1,⟨hs,h3.1.1,h5⟩,h6 hs⟩
 ·exact .inl ⟨h1,h2,h3,h4,hs⟩
def K4:mO:=[(iU,oD,vz),(gY,xy,nO),(jq,zn,BQ),(jY,Dc,EK),(fP,zy,oZ)]
theorem Y1:∀k pre post,(k,pre,post)∈K4→ku k=true∧bg Tryz.prog k pre post:=by
 intro k pre post h
 simp only [K4,List.mem_cons,List.not_mem_nil,or_false,Prod.mk.injEq] at h
 rcases h with ⟨rfl,rfl,rfl⟩ | ⟨rfl,rfl,rfl⟩ | ⟨rfl,rfl,rfl⟩ | ⟨rfl,rfl,rfl⟩ | ⟨rfl,rfl,rfl⟩
 ·exact ⟨by kernel_rfl,Ki⟩
 ·exact ⟨by kernel_rfl,Nl⟩
 ·exact ⟨by kernel_rfl,VD⟩
 ·exact ⟨by kernel_rfl,YE⟩
 ·exact ⟨by kernel_rfl,VY⟩
noncomputable def aax:Ex:={sched:=sched,loops:=[],cons:=[iU,gY,jq,jY,fP],fin:=nJ}
abbrev aay:List (Nat × CV):=[(143,yu 70 59 7 yN 0),(142,yu 69 70 7 yN 0),(141,yu 68 49 5 yW 0),(127,yl 54 9 5 50 yW 0)]
abbrev vG:List (Nat × CV):=[(70,yu 70 59 7 yN 0),(69,yu 69 70 7 yN 0),(68,yu 68 49 5 yW 0),(54,yl 54 9 5 50 yW 0)]
abbrev vH:List (Nat × SA):=[(3,yc 3 7),(2,yc 2 7),(1,yc 1 5),(0,yb 0)]
abbrev vI:List (Nat × IE):=yo [(143,yv 143)]<|yr 138 138 7<|yo [(130,yv 130),(129,yv 129),(126,yv 126),(125,yv 125),(142,yv 142),(123,yv 123),(122,yv 122),(120,yv 120)]<|yr 118 118 4<|yr 113 113 4<|yr 108 108 4<|yr 103 103 13<|yr 89 89 4<|yr 84 84 8 []
abbrev vJ:List (Nat × BE):=[(140,yw 140),(139,yw 139),(131,yw 131),(128,yw 128),(124,yw 124),(121,yw 121),(119,yw 119),(114,yw 114),(109,yw 109),(104,yw 104),(90,yw 90),(85,yw 85)]
abbrev vK:List (Nat × CV):=[(143,yu 143 132 7 yN 0),(142,yu 142 143 7 yN 0),(141,yu 141 122 5 yW 0),(127,yl 127 9 5 50 yW 0)]
abbrev vL:List (Nat × SA):=[(6,yc 7 7),(5,yc 6 7),(4,yc 5 5)]
abbrev zz:List (Nat × IE):=yo [(70,yv 70)]<|yr 65 65 7<|yo [(57,yv 57),(56,yv 56)]<|yr 3 3 4<|yo [(53,yv 53),(52,yv 52),(69,yv 69),(50,yv 50),(49,yv 49),(47,yv 47)]<|yr 45 45 4<|yr 40 40 4<|yr 35 35 4<|yr 30 30 13<|yr 16 16 4<|yr 11 11 8<|yr 74 74 4 []
abbrev zA:List (Nat × BE):=[(67,yw 67),(66,yw 66),(58,yw 58),(55,yw 55),(51,yw 51),(48,yw 48),(46,yw 46),(41,yw 41),(36,yw 36),(31,yw 31),(17,yw 17),(12,yw 12),(76,yw 76),(75,yw 75)]
def I8:Out :=
 .br (.aA (.var 22) y1)
 (.fin {lo:=77,ah:=4,iv:=yr 138 74 4<|yr 134 61 3<|[(130,yv 57),(129,yv 56),yz 126,yz 125,yz 123,yz 122,yz 120,yz 118,yz 117,yz 116,yz 115,yz 113,yz 112,yz 111,yz 110,yz 108,yz 107,yz 106,yz 105,yz 103,yz 102,yz 101,yz 100,yz 99,yz 98,yz 97,yz 96,yz 95,yz 94,yz 93,yz 92,yz 91,yz 89,yz 88,yz 87,yz 86,yz 84,yz 83,yz 82,yz 81,yz 80,yz 79,yz 78,yz 77],bv:=[(140,yw 76),(139,yw 75),(131,yw 58),(128,yw 55),(124,.lit true),(121,.lit true),(119,.lit false),(114,.lit false),(109,.lit false),(104,.lit false),(90,.lit false),(85,.lit false)],ct:=[(143,yu 70 59 7 yN 0),(127,yl 54 9 5 50 yW 0)],bk:=[(6,yc 3 7)],nb:=[5,4,5,4]})
 (.br (.aA (.var 22) (.lit 2))
  (.fin {lo:=77,ah:=4,iv:=yo [yz 138,yz 137,yz 136,yz 135]<|yr 134 61 3<|[(130,yv 57),(129,yv 56),yz 126,yz 125,yz 123,yz 122,yz 120,yz 118,yz 117,yz 116,yz 115,yz 113,yz 112,yz 111,yz 110,yz 108,yz 107,yz 106,yz 105,yz 103,yz 102,yz 101,yz 100,yz 99,yz 98,yz 97,yz 96,yz 95,yz 94,yz 93,yz 92,yz 91,yz 89,yz 88,yz 87,yz 86,yz 84,yz 83,yz 82,yz 81,yz 80,yz 79,yz 78,yz 77],bv:=[(140,.lit true),(139,.lit false),(131,yw 58),(128,yw 55),(124,.lit true),(121,.lit true),(119,.lit false),(114,.lit false),(109,.lit false),(104,.lit false),(90,.lit false),(85,.lit false)],ct:=[(143,yu 70 59 7 yN 0),(127,yl 54 9 5 50 yW 0)],bk:=[(6,yc 3 7)],nb:=[5,4,5,4]})
  (.br (.aA (.var 22) (.lit 3))
   (.call 1 {lo:=0,ah:=0,iv:=[(0,yv 1)]} 77 <|
    .fin {lo:=77,ah:=4,iv:=yo [(143,yv 70)]<|yr 138 65 7<|yo [(130,yv 74),(129,yv 74),(126,yv 53),(125,yv 52),(142,yv 69),(123,yv 50),(122,yv 49),(120,yv 47)]<|yr 118 45 4<|yr 113 40 4<|yo [(108,yv 74),(107,yv 74),yz 106,yz 105,yz 103,yz 102,yz 101,yz 100,(99,.add (.lit 79) (.var 1)),yz 98,yz 97,(96,.lit 2),(95,.lit 2)]<|yr 94 21 4<|yr 89 16 4<|yr 84 11 8 [],bv:=[(140,yw 67),(139,yw 66),(131,yw 58),(128,.lit true),(124,yw 51),(121,yw 48),(119,yw 46),(114,yw 41),(109,.lit true),(104,.lit false),(90,yw 17),(85,yw 12)],ct:=aay,bk:=[(6,yc 3 7),(5,yc 2 7),(4,yc 1 5)]})
   (.br (.aA (.var 22) (.lit 4))
    (.ob (.inr .i64 (.add (.var 47) y1)) <|
     .call 0 {lo:=0,ah:=0,iv:=yo [(70,yv 70)]<|yr 65 65 7<|yo [(57,yv 57),(56,yv 56)]<|yr 3 3 4<|yo [(53,yv 53),(52,yv 52),(69,yv 69),(50,yv 50),(49,yv 49),(47,yv 47)]<|yr 45 45 4<|yr 40 40 4<|yr 35 35 4<|yr 30 30 13<|yr 16 16 4<|yr 11 11 8<|[(71,.add (.var 47) y1)],bv:=[(67,yw 67),(66,yw 66),(58,yw 58),(55,yw 55),(51,yw 51),(48,yw 48),(46,yw 46),(41,yw 41),(36,yw 36),(31,yw 31),(17,yw 17),(12,yw 12)],ct:=vG,bk:=vH} 77 <|
     .fin {lo:=77,ah:=4,iv:=vI,bv:=vJ,ct:=vK,bk:=vL})
    (.br (.aA (.var 22) (.lit 8))
     (.fin {lo:=77,ah:=4,iv:=yo [(143,yv 70)]<|yr 138 65 7<|yo [(130,yv 57),(129,yv 56),(126,yv 53),(125,yv 52),(142,yv 69),(123,yv 50),(122,yv 49),(120,yv 47)]<|yr 118 45 4<|yr 113 40 4<|yo [(108,yv 74),yz 107,yz 106,yz 105,yz 103,yz 102,yz 101,yz 100,yz 99,yz 98,yz 97,(96,.lit 4),(95,.lit 1)]<|yr 94 21 4<|yr 89 16 4<|yr 84 11 8 [],bv:=[(140,yw 67),(139,yw 66),(131,yw 58),(128,yw 55),(124,yw 51),(121,yw 48),(119,yw 46),(114,yw 41),(109,.lit false),(104,.lit false),(90,yw 17),(85,yw 12)],ct:=aay,bk:=[(6,yc 3 7),(5,yc 2 7),(4,yc 1 5)]})
     (.br (.aA (.var 22) (.lit 5))
      (.call 2 {lo:=0,ah:=0,iv:=zz,bv:=zA,ct:=vG,bk:=vH} 77 <|
       .fin {lo:=77,ah:=4,iv:=vI,bv:=vJ,ct:=vK,bk:=vL})
      (.br (.aA (.var 22) (.lit 6))
       (.call 2 {lo:=0,ah:=0,iv:=zz,bv:=zA,ct:=vG,bk:=vH} 77 <|
        .fin {lo:=77,ah:=4,iv:=vI,bv:=vJ,ct:=vK,bk:=vL})
       (.br (.aA (.var 22) (.lit 7))
        (.call 2 {lo:=0,ah:=0,iv:=zz,bv:=zA,ct:=vG,bk:=vH} 77 <|
         .fin {lo:=77,ah:=4,iv:=vI,bv:=vJ,ct:=vK,bk:=vL})
        (.br (.aA (.var 22) (.lit 9))
         (.call 3 {lo:=0,ah:=0,iv:=zz,bv:=zA,ct:=vG,bk:=vH} 77 <|
          .fin {lo:=77,ah:=4,iv:=vI,bv:=vJ,ct:=vK,bk:=vL})
         (.br (.aA (.var 22) (.lit 10))
          (.call 3 {lo:=0,ah:=0,iv:=zz,bv:=zA,ct:=vG,bk:=vH} 77 <|
           .fin {lo:=77,ah:=4,iv:=vI,bv:=vJ,ct:=vK,bk:=vL})
          (.br (.aA (.var 22) (.lit 11))
           (.call 3 {lo:=0,ah:=0,iv:=zz,bv:=zA,ct:=vG,bk:=vH} 77 <|
            .fin {lo:=77,ah:=4,iv:=vI,bv:=vJ,ct:=vK,bk:=vL})
           (.call 4 {lo:=0,ah:=0,iv:=zz,bv:=zA,ct:=vG,bk:=vH} 77 <|
            .fin {lo:=77,ah:=4,iv:=vI,bv:=vJ,ct:=vK,bk:=vL})))))))))))
def knT:Kn:=[(.aA (.var 22) (.lit 0),false)]
theorem Y2:exec tab aax 8000 [] (fE nJ.f nJ.nv knT nJ.gl nJ.hp nJ.args)=I8:=by kernel_rfl
def xA (ρ:Env):Prop:=zy ρ∧¬ρ.iv 22=0∧(ρ.iv 22=4→0≤ρ.iv 47∧ρ.iv 47≤8)∧(ρ.iv 22=5∨ρ.iv 22=6∨ρ.iv 22=7→0≤ρ.iv 18∧ρ.iv 18<9)
def NJ (ρ:Env):Prop:=bH ρ 77∧aa ρ 0 77=((aa ρ 0 4).aG (aI ρ 71)).1
set_option maxHeartbeats 4000000 in
theorem Y3 (ρ:Env) (hpre:xA ρ.num):Sat NJ K4 [] ρ I8:=by
 replace hpre:xA ρ:=hpre
 obtain ⟨⟨⟨o1,o2,o3⟩,hs,hb,hx,hf,hfree⟩,h0,h4,Y4⟩:=hpre
 have hsp:zy ρ:=⟨⟨o1,o2,o3⟩,hs,hb,hx,hf,hfree⟩
 have hE:∀X:RS × Bool,(if ρ.iv 22=1 then ((aa ρ 0 4).finish (aI ρ 71),true)
     else if ρ.iv 22=2 then ((aa ρ 0 4).done,true)
     else if ρ.iv 22=3 then ((aa ρ 0 4).eF 2 ⟨true,ρ.iv 74,ρ.iv 74⟩,true)
     else if ρ.iv 22=4 then ((aa ρ 0 4).leave (ρ.iv 47+1),true)
     else if ρ.iv 22=8 then ((aa ρ 0 4).ask 1 ⟨4,0,0,0,Wd.zero,Wd.dM (ρ.iv 74)⟩,true)
     else if ρ.iv 22=5∨ρ.iv 22=6∨ρ.iv 22=7 then ((aa ρ 0 4).bB (aI ρ 71),true)
     else if ρ.iv 22=9∨ρ.iv 22=10∨ρ.iv 22=11 then ((aa ρ 0 4).ek (aI ρ 71),true)
     else ((aa ρ 0 4).bM (aI ρ 71),true):RS × Bool)=X→((aa ρ 0 4).aG (aI ρ 71)).1=X.1:=fun X h=>congrArg Prod.fst ((if_neg h0).trans h)
 unfold I8
 refine Sat.br (fun c1=>?_) (fun c1=>?_)
 ·simp only [Da] at c1
  have hm:=hE _ (if_pos c1)
  exact Sat.fin ⟨cu,Eq.trans (b:=(aa ρ 0 4).finish (aI ρ 71)) aF (Eq.symm hm)⟩
 simp only [Da] at c1
 refine Sat.br (fun c2=>?_) (fun c2=>?_)
 ·simp only [Da] at c2
  have hm:=hE _ ((if_neg c1).trans (if_pos c2))
  exact Sat.fin ⟨cu,Eq.trans (b:=(aa ρ 0 4).done) aF (Eq.symm hm)⟩
 simp only [Da] at c2
 refine Sat.br (fun c3=>?_) (fun c3=>?_)
 ·simp only [Da] at c3
  have hm:=hE _ ((if_neg c1).trans ((if_neg c2).trans (if_pos c3)))
  refine Sat.jk (c:=gY) rfl ⟨hs.1,hs.2.1⟩ (fun q=>bH q 4∧((aa q 0 4).aG (aI q 71)).1=(aa q 0 4).eF 2 ⟨true,q.iv 74,q.iv 74⟩) (fun e _=>⟨⟨o1,o2,o3⟩,hm⟩) fun q hq=>?_
  obtain ⟨⟨o1,o2,o3⟩,hm⟩:=hq
  exact Sat.fin ⟨cu,Eq.trans (b:=(aa q 0 4).eF 2 ⟨true,q.iv 74,q.iv 74⟩) aF (Eq.symm hm)⟩
 simp only [Da] at c3
 refine Sat.br (fun c4=>?_) (fun c4=>?_)
 ·simp only [Da] at c4
  have hm:=hE _ ((if_neg c1).trans ((if_neg c2).trans ((if_neg c3).trans (if_pos c4))))
  obtain ⟨h9,h8⟩:=h4 c4
  refine Sat.ob (by simp only [Da];omega) ?_
  refine eU (c:=iU) rfl (aa ρ 0 4) ((aa ρ 0 4).leave (ρ.iv 47+1)) (by decide) (by decide) (jQ rfl rfl rfl rfl) ⟨⟨o1,o2,o3⟩,hs,(by show 0≤ρ.iv 47+1;omega),(by show ρ.iv 47+1≤9;omega)⟩ aF (fun e hq hr=>⟨hq.1,by rw [←hr];exact hq.2⟩) (fun u=>bH u 77∧aa u 0 77=((aa u 0 4).aG (aI u 71)).1) (fun e h1 h2=>⟨h1,h2.trans hm.symm⟩) fun u hu=>?_
  obtain ⟨⟨o1,o2,o3⟩,hm⟩:=hu
  exact Sat.fin ⟨cu,Eq.trans (b:=(aa u 0 77)) aF (Eq.symm hm.symm)⟩
 simp only [Da] at c4
 refine Sat.br (fun c8=>?_) (fun c8=>?_)
 ·simp only [Da] at c8
  have hm:=hE _ ((if_neg c1).trans ((if_neg c2).trans ((if_neg c3).trans ((if_neg c4).trans (if_pos c8)))))
  exact Sat.fin ⟨cu,Eq.trans (b:=(aa ρ 0 4).ask 1 ⟨4,0,0,0,Wd.zero,Wd.dM (ρ.iv 74)⟩) aF (Eq.symm hm)⟩
 simp only [Da] at c8
 have hE2:∀X:RS × Bool,(if ρ.iv 22=5∨ρ.iv 22=6∨ρ.iv 22=7 then ((aa ρ 0 4).bB (aI ρ 71),true)
     else if ρ.iv 22=9∨ρ.iv 22=10∨ρ.iv 22=11 then ((aa ρ 0 4).ek (aI ρ 71),true)
     else ((aa ρ 0 4).bM (aI ρ 71),true):RS × Bool)=X→((aa ρ 0 4).aG (aI ρ 71)).1=X.1:=fun X h=>hE X ((if_neg c1).trans ((if_neg c2).trans ((if_neg c3).trans ((if_neg c4).trans ((if_neg c8).trans h)))))
 refine Sat.br (fun c5=>?_) (fun c5=>?_)
 ·simp only [Da] at c5
  have hm:=hE2 _ (if_pos (.inl c5))
  refine eU (c:=jq) rfl (aa ρ 0 4) ((aa ρ 0 4).bB (aI ρ 71)) (by decide) (by decide) (jQ rfl rfl rfl rfl) ⟨⟨o1,o2,o3⟩,hs,Y4 (.inl c5)⟩ aF (fun e hq hr=>⟨hq.1,by rw [←hr];exact hq.2⟩) (fun u=>bH u 77∧aa u 0 77=((aa u 0 4).aG (aI u 71)).1) (fun e h1 h2=>⟨h1,h2.trans hm.symm⟩) fun u hu=>?_
  obtain ⟨⟨o1,o2,o3⟩,hm⟩:=hu
  exact Sat.fin ⟨cu,Eq.trans (b:=(aa u 0 77)) aF (Eq.symm hm.symm)⟩
 simp only [Da] at c5
 refine Sat.br (fun c6=>?_) (fun c6=>?_)
 ·simp only [Da] at c6
  have hm:=hE2 _ (if_pos (.inr (.inl c6)))
  refine eU (c:=jq) rfl (aa ρ 0 4) ((aa ρ 0 4).bB (aI ρ 71)) (by decide) (by decide) (jQ rfl rfl rfl rfl) ⟨⟨o1,o2,o3⟩,hs,Y4 (.inr (.inl c6))⟩ aF (fun e hq hr=>⟨hq.1,by rw [←hr];exact hq.2⟩) (fun u=>bH u 77∧aa u 0 77=((aa u 0 4).aG (aI u 71)).1) (fun e h1 h2=>⟨h1,h2.trans hm.symm⟩) fun u hu=>?_
  obtain ⟨⟨o1,o2,o3⟩,hm⟩:=hu
  exact Sat.fin ⟨cu,Eq.trans (b:=(aa u 0 77)) aF (Eq.symm hm.symm)⟩
 simp only [Da] at c6
 refine Sat.br (fun c7=>?_) (fun c7=>?_)
 ·simp only [Da] at c7
  have hm:=hE2 _ (if_pos (.inr (.inr c7)))
  refine eU (c:=jq) rfl (aa ρ 0 4) ((aa ρ 0 4).bB (aI ρ 71)) (by decide) (by decide) (jQ rfl rfl rfl rfl) ⟨⟨o1,o2,o3⟩,hs,Y4 (.inr (.inr c7))⟩ aF (fun e hq hr=>⟨hq.1,by rw [←hr];exact hq.2⟩) (fun u=>bH u 77∧aa u 0 77=((aa u 0 4).aG (aI u 71)).1) (fun e h1 h2=>⟨h1,h2.trans hm.symm⟩) fun u hu=>?_
  obtain ⟨⟨o1,o2,o3⟩,hm⟩:=hu
  exact Sat.fin ⟨cu,Eq.trans (b:=(aa u 0 77)) aF (Eq.symm hm.symm)⟩
 simp only [Da] at c7
 have Ti:¬(ρ.iv 22=5∨ρ.iv 22=6∨ρ.iv 22=7):=fun h=>h.elim c5 fun h=>h.elim c6 c7
 refine Sat.br (fun c9=>?_) (fun c9=>?_)
 ·simp only [Da] at c9
  have hm:=hE2 _ ((if_neg Ti).trans (if_pos (.inl c9)))
  refine eU (c:=jY) rfl (aa ρ 0 4) ((aa ρ 0 4).ek (aI ρ 71)) (by decide) (by decide) (jQ rfl rfl rfl rfl) ⟨⟨o1,o2,o3⟩,hs,hb.1.1,hx⟩ aF (fun e hq hr=>⟨hq.1,by rw [←hr];exact hq.2⟩) (fun u=>bH u 77∧aa u 0 77=((aa u 0 4).aG (aI u 71)).1) (fun e h1 h2=>⟨h1,h2.trans hm.symm⟩) fun u hu=>?_
  obtain ⟨⟨o1,o2,o3⟩,hm⟩:=hu
  exact Sat.fin ⟨cu,Eq.trans (b:=(aa u 0 77)) aF (Eq.symm hm.symm)⟩
 simp only [Da] at c9
 refine Sat.br (fun c10=>?_) (fun c10=>?_)
 ·simp only [Da] at c10
  have hm:=hE2 _ ((if_neg Ti).trans (if_pos (.inr (.inl c10))))
  refine eU (c:=jY) rfl (aa ρ 0 4) ((aa ρ 0 4).ek (aI ρ 71)) (by decide) (by decide) (jQ rfl rfl rfl rfl) ⟨⟨o1,o2,o3⟩,hs,hb.1.1,hx⟩ aF (fun e hq hr=>⟨hq.1,by rw [←hr];exact hq.2⟩) (fun u=>bH u 77∧aa u 0 77=((aa u 0 4).aG (aI u 71)).1) (fun e h1 h2=>⟨h1,h2.trans hm.symm⟩) fun u hu=>?_
  obtain ⟨⟨o1,o2,o3⟩,hm⟩:=hu
  exact Sat.fin ⟨cu,Eq.trans (b:=(aa u 0 77)) aF (Eq.symm hm.symm)⟩
 simp only [Da] at c10
 refine Sat.br (fun c11=>?_) (fun c11=>?_)
 ·simp only [Da] at c11
  have hm:=hE2 _ ((if_neg Ti).trans (if_pos (.inr (.inr c11))))
  refine eU (c:=jY) rfl (aa ρ 0 4) ((aa ρ 0 4).ek (aI ρ 71)) (by decide) (by decide) (jQ rfl rfl rfl rfl) ⟨⟨o1,o2,o3⟩,hs,hb.1.1,hx⟩ aF (fun e hq hr=>⟨hq.1,by rw [←hr];exact hq.2⟩) (fun u=>bH u 77∧aa u 0 77=((aa u 0 4).aG (aI u 71)).1) (fun e h1 h2=>⟨h1,h2.trans hm.symm⟩) fun u hu=>?_
  obtain ⟨⟨o1,o2,o3⟩,hm⟩:=hu
  exact Sat.fin ⟨cu,Eq.trans (b:=(aa u 0 77)) aF (Eq.symm hm.symm)⟩
 simp only [Da] at c11
 have hm:=hE2 _ ((if_neg Ti).trans (if_neg (fun h=>h.elim c9 fun h=>h.elim c10 c11)))
 refine eU (c:=fP) rfl (aa ρ 0 4) ((aa ρ 0 4).bM (aI ρ 71)) (by decide) (by decide) (jQ rfl rfl rfl rfl) ⟨⟨o1,o2,o3⟩,hs,hb,hx,hf,fun h=>?_⟩ aF (fun e hq hr=>⟨hq.1,by rw [←hr];exact hq.2⟩) (fun u=>bH u 77∧aa u 0 77=((aa u 0 4).aG (aI u 71)).1) (fun e h1 h2=>⟨h1,h2.trans hm.symm⟩) fun u hu=>?_
 ·obtain ⟨d,l,h1,h2⟩:=hfree h
  refine ⟨d,l,Eq.trans ?_ h1,cast (congrArg (fun l:List Nt=>d∈l) (Eq.symm ?_)) h2⟩
  ·exact zf rfl rfl fun i=>by simp [bN,aO,-Int.pred_toNat,Sub.ag,assoc,CV.I,CV.B,aj,ak,ae.I,ae.B,SC.I,SC.B,IE.den,BE.den]
  ·exact gp rfl fun i=>by simp [bN,aO,-Int.pred_toNat,Sub.ag,assoc,CV.I,CV.B,aj,ak,ae.I,ae.B,SC.I,SC.B,IE.den,BE.den]
 obtain ⟨⟨o1,o2,o3⟩,hm⟩:=hu
 exact Sat.fin ⟨cu,Eq.trans (b:=(aa u 0 77)) aF (Eq.symm hm.symm)⟩
theorem Y5:bg Tryz.prog nJ xA NJ :=
 dA dO (E:=aax) (cs:=K4) rfl Y1 bX rfl Y2 (by kernel_rfl) (fun ρ h p hp=>by
   obtain ⟨-,h,-⟩:=h
   simp only [knT,List.mem_cons,List.not_mem_nil,or_false] at hp
   subst hp
   exact beq_eq_false_iff_ne.2 h) Y3
def VZ:SC→Bool
 | .int _ (.lit 0)=>true
 | .bool (.lit false)=>true
 | .bG=>true
 | .hole=>true
 | _=>false
theorem aeP {ρ:Env} {c:SC} (h:VZ c=true):c.I ρ=0∧c.B ρ=false:=by
 unfold VZ at h
 split at h
 ·exact ⟨rfl,rfl⟩
 ·exact ⟨rfl,rfl⟩
 ·exact ⟨rfl,rfl⟩
 ·exact ⟨rfl,rfl⟩
 ·cases h
theorem Kl {ρ:Env}:∀{cs:List SC},cs.all VZ=true→∀p,VZ (cs.getD p .hole)=true
 | [],_,p=>rfl
 | c :: r,h,p=>by
  simp only [List.all_cons,Bool.and_eq_true] at h
  cases p with
  | zero=>exact h.1
  | succ p=>exact Kl (ρ:=ρ) h.2 p
theorem xB {ρ:Env} {cs:List SC} {lo p:Nat} (h:(cs.drop lo).all VZ=true) (hp:lo≤p):(cs.getD p .hole).I ρ=0∧(cs.getD p .hole).B ρ=false:=by
 have:=Kl (ρ:=ρ) h (p-lo)
 rw [show (cs.drop lo).getD (p-lo) .hole=cs.getD p .hole by simp [List.getD_eq_getElem?_getD,List.getElem?_drop,show lo+(p-lo)=p by omega]] at this
 exact aeP this
def knN:Kn:=[(.bO (.var 0) (.lit 1),false),(.bO (.lit 5) (.var 0),false),(.bO (.var 2) (.lit 1),false),(.bO (.lit 6) (.var 2),false),(.bO (.var 1) (.lit 0),false),(.ai (.var 2) (.var 1),false),(.bO (.var 3) (.lit 1),false),(.bO (.lit 64) (.var 3),false)]
noncomputable def aaz:Ex:={sched:=sched,loops:=[],fin:=oQ}
def I9:Out :=
 .fin {lo:=4,ah:=0,iv:=[yz 65,yz 64,yz 63,yz 62,yz 61,yz 60,yz 59,yz 57,yz 56,yz 53,yz 52,yz 50,yz 49,yz 47,yz 45,yz 44,yz 43,yz 42,yz 40,yz 39,yz 38,yz 37,yz 35,yz 34,yz 33,yz 32,yz 30,yz 29,yz 28,yz 27,yz 26,yz 25,yz 24,yz 23,yz 22,yz 21,yz 20,yz 19,yz 18,yz 16,yz 15,yz 14,yz 13,yz 11,yz 10,yz 9,yz 8,yz 7,yz 6,yz 5,yz 4],bv:=[(67,.lit false),(66,.lit false),(58,.lit true),(55,.lit false),(51,.lit true),(48,.lit true),(46,.lit false),(41,.lit false),(36,.lit false),(31,.lit false),(17,.lit false),(12,.lit false)],ct:=[(54,.ex [.int .i64 y0,.int .i64 y0,.int .i64 y0,.int .i64 y0,.int .i64 y0,.int .i64 y0,.int .i64 y0,.int .i64 y0,.bool (.lit false),.int .i64 y0,.int .i64 y0,.int .i64 y0,.int .i64 y0,.bool (.lit false),.int .i64 y0,.int .i64 y0,.int .i64 y0,.int .i64 y0,.int .i64 y0,.int .i64 y0,.int .i64 y0,.int .i64 y0,.int .i64 y0,.int .i64 y0,.int .i64 y0,.int .i64 y0,.int .i64 y0,.bool (.lit false),.int .i64 y0,.int .i64 y0,.int .i64 y0,.int .i64 y0,.bool (.lit false),.int .i64 y0,.int .i64 y0,.int .i64 y0,.int .i64 y0,.bool (.lit false),.int .i64 y0,.int .i64 y0,.int .i64 y0,.int .i64 y0,.bool (.lit false),.int .i64 y0,.bG,.bG,.int .i64 (.var 0),.int .i64 (.var 1),.int .i64 (.var 2),.int .i64 (.var 3),.int .i64 y0,.int .i64 y0,.int .i64 y0,.int .i64 y0,.bool (.lit false),.int .i64 y0,.int .i64 y0,.int .i64 y0,.int .i64 y0,.bool (.lit false),.int .i64 y0,.int .i64 y0,.int .i64 y0,.int .i64 y0,.bool (.lit false),.int .i64 y0,.int .i64 y0,.int .i64 y0,.int .i64 y0,.bool (.lit false),.int .i64 y0,.int .i64 y0,.int .i64 y0,.int .i64 y0,.bool (.lit false),.int .i64 y0,.int .i64 y0,.int .i64 y0,.int .i64 y0,.bool (.lit false),.int .i64 y0,.int .i64 y0,.int .i64 y0,.int .i64 y0,.bool (.lit false),.int .i64 y0,.int .i64 y0,.int .i64 y0,.int .i64 y0,.bool (.lit false),.int .i64 y0,.int .i64 y0,.int .i64 y0,.int .i64 y0,.bool (.lit false),.bool (.lit false),.int .i64 y0,.int .i64 y0,.bG,.int .i64 y0,.int .i64 y0,.int .i64 y0,.int .i64 y0,.int .i64 y0,.bool (.lit false),.bool (.lit false)] 5 0 50)],bk:=[(0,yb 0)],nb:=[3,2,1,3,2,1]}
theorem Y6:exec tab aaz 8000 [] (fE oQ.f oQ.nv knN oQ.gl oQ.hp oQ.args)=I9:=by kernel_rfl
def QA (ρ:Env):Prop:=(1≤ρ.iv 0∧ρ.iv 0≤5)∧(0≤ρ.iv 1∧ρ.iv 1<ρ.iv 2)∧(1≤ρ.iv 2∧ρ.iv 2≤6)∧1≤ρ.iv 3∧ρ.iv 3≤64
def NK (ρ:Env):Prop:=bH ρ 4∧aa ρ 0 4=RS.new (ρ.iv 0) (ρ.iv 1) (ρ.iv 2) (ρ.iv 3)
theorem Y7 (ρ:Env) (hpre:QA ρ.num):Sat NK [] [] ρ I9:=by
 unfold I9
 have o1:=True.intro
 refine Sat.fin ⟨⟨qQ rfl rfl,⟨qQ rfl rfl,Int.le_refl 0,.inl rfl⟩,qQ rfl rfl⟩,RS.ext' rfl rfl rfl rfl rfl rfl (J9 rfl) (oV rfl) rfl rfl rfl rfl (fun i=>?_) rfl (Ka rfl) rfl rfl⟩
 refine pX.2 ⟨?_,?_,?_,?_,?_⟩
 ·show ((_:List SC).getD (i * 5+0 * 0+50+0) .hole).I ρ=0
  exact (xB (lo:=50) (by rfl) (by omega)).1
 ·show ((_:List SC).getD (i * 5+0 * 0+50+1) .hole).I ρ=0
  exact (xB (lo:=50) (by rfl) (by omega)).1
 ·show ((_:List SC).getD (i * 5+0 * 0+50+2) .hole).I ρ=0
  exact (xB (lo:=50) (by rfl) (by omega)).1
 ·show ((_:List SC).getD (i * 5+0 * 0+50+3) .hole).I ρ=0
  exact (xB (lo:=50) (by rfl) (by omega)).1
 ·show ((_:List SC).getD (i * 5+0 * 0+50+4) .hole).B ρ=false
  exact (xB (lo:=50) (by rfl) (by omega)).2
theorem Y8:bg Tryz.prog oQ QA NK :=
 dA dO (E:=aaz) (cs:=[]) rfl (fun k pre post h=>by cases h) bX rfl Y6 (by kernel_rfl) (fun ρ h p hp=>by
   obtain ⟨⟨a1,a2⟩,⟨b1,b2⟩,⟨c1,c2⟩,d1,d2⟩:=h
   simp only [knN,List.mem_cons,List.not_mem_nil,or_false] at hp
   rcases hp with rfl | rfl | rfl | rfl | rfl | rfl | rfl | rfl
   · exact decide_eq_false (show ¬ρ.num.iv 0<1 by omega)
   · exact decide_eq_false (show ¬5<ρ.num.iv 0 by omega)
   · exact decide_eq_false (show ¬ρ.num.iv 2<1 by omega)
   · exact decide_eq_false (show ¬6<ρ.num.iv 2 by omega)
   · exact decide_eq_false (show ¬ρ.num.iv 1<0 by omega)
   · exact decide_eq_false (show ¬ρ.num.iv 2≤ρ.num.iv 1 by omega)
   · exact decide_eq_false (show ¬ρ.num.iv 3<1 by omega)
   · exact decide_eq_false (show ¬64<ρ.num.iv 3 by omega)) Y7
def lY:dQ:={nN 39 0 [] (.iF [.agg (IJ 138),.one (.bool (.var 152))]) with jf:=153}
def kE:dQ:={nN 38 0 [] (.w (.agg (xq 138))) with jf:=144}
def knX:Kn:=[(.aA (.var 22) (.lit 0),false)]
noncomputable def V3:Ex:={sched:=sched,loops:=[],fin:=lY}
abbrev aaA:List (Nat × CV):=[(137,yu 70 59 7 yN 0),(136,yu 69 70 7 yN 0),(135,yu 68 49 5 yW 0),(121,yl 54 9 5 50 yW 0)]
def EW:Out :=
 .fin {lo:=71,ah:=4,iv:=yo [(137,yv 70)]<|yr 132 65 7<|yo [(124,yv 57),(123,yv 56),(120,yv 53),(119,yv 52),(136,yv 69),(117,yv 50),(116,yv 49),(114,yv 47)]<|yr 112 45 4<|yr 107 40 4<|yr 102 35 4<|yr 97 30 13<|yr 83 16 4<|yr 78 11 8<|yr 150 35 4<|yr 145 30 8 [],bv:=[(134,yw 67),(133,yw 66),(125,yw 58),(122,yw 55),(118,yw 51),(115,yw 48),(113,yw 46),(108,yw 41),(103,yw 36),(98,yw 31),(84,yw 17),(79,yw 12),(152,.lit true),(151,yw 36),(146,yw 31)],ct:=aaA,bk:=[(6,yc 3 7),(5,yc 2 7),(4,yc 1 5)]}
theorem V4:exec tab V3 8000 [] (fE lY.f lY.nv knX lY.gl lY.hp lY.args)=EW:=by kernel_rfl
def zB (ρ:Env):Prop:=bH ρ 4∧¬ρ.iv 22=0
def Km (ρ:Env):Prop:=bH ρ 71∧(aB ρ 138=(aa ρ 0 4).acc∧ρ.bv 152=true)∧aa ρ 0 71=aa ρ 0 4
theorem V5 (ρ:Env) (hpre:zB ρ.num):Sat Km [] [] ρ EW:=by
 replace hpre:zB ρ:=hpre
 obtain ⟨⟨o1,o2,o3⟩,hf⟩:=hpre
 unfold EW
 exact Sat.fin ⟨cu,⟨rfl,rfl⟩,Eq.trans (b:=(aa ρ 0 4)) aF (Eq.symm (rfl))⟩
theorem V6:bg Tryz.prog lY zB Km :=
 dA dO (E:=V3) (cs:=[]) rfl (fun k pre post h=>by cases h) bX rfl V4 (by kernel_rfl) (fun ρ h p hp=>by
   obtain ⟨-,h⟩:=h
   simp only [knX,List.mem_cons,List.not_mem_nil,or_false] at hp
   subst hp
   exact beq_eq_false_iff_ne.2 h) V5
noncomputable def QB:Ex:={sched:=sched,loops:=[],fin:=kE}
def BV:Out :=
 .fin {lo:=71,ah:=4,iv:=yo [(137,yv 70)]<|yr 132 65 7<|yo [(124,yv 57),(123,yv 56),(120,yv 53),(119,yv 52),(136,yv 69),(117,yv 50),(116,yv 49),(114,yv 47)]<|yr 112 45 4<|yr 107 40 4<|yr 102 35 4<|yr 97 30 13<|yr 83 16 4<|yr 78 11 8<|yr 141 65 4 [],bv:=[(134,yw 67),(133,yw 66),(125,yw 58),(122,yw 55),(118,yw 51),(115,yw 48),(113,yw 46),(108,yw 41),(103,yw 36),(98,yw 31),(84,yw 17),(79,yw 12),(143,yw 67),(142,yw 66)],ct:=aaA,bk:=[(6,yc 3 7),(5,yc 2 7),(4,yc 1 5)]}
theorem Tj:exec tab QB 8000 [] (fE kE.f kE.nv [] kE.gl kE.hp kE.args)=BV:=by kernel_rfl
def vM (ρ:Env):Prop:=bH ρ 4
def G7 (ρ:Env):Prop:=bH ρ 71∧aI ρ 138=(aa ρ 0 4).bR∧aa ρ 0 71=aa ρ 0 4
theorem Tk (ρ:Env) (hpre:vM ρ.num):Sat G7 [] [] ρ BV:=by
 replace hpre:vM ρ:=hpre
 obtain ⟨o1,o2,o3⟩:=hpre
 unfold BV
 exact Sat.fin ⟨cu,rfl,Eq.trans (b:=(aa ρ 0 4)) aF (Eq.symm (rfl))⟩
theorem Tm:bg Tryz.prog kE vM G7 :=
 dA dO (E:=QB) (cs:=[]) rfl (fun k pre post h=>by cases h) bX rfl Tj (by kernel_rfl) (fun ρ _ p hp=>by cases hp) Tk
def aaB:Kn:=[(.bO (.var 0) (.lit 0),false),(.bO (.lit 1024) (.var 0),false),(.bO (.var 1) (.lit 0),false),(.bO (.lit 200) (.var 1),false)]
noncomputable def aeQ:Ex:={sched:=sched,loops:=[L13],fin:=pV}
abbrev aeR:List (Nat × IE):=[(11,yv 11),(10,yv 10),(8,yv 13),(7,.add (.var 7) y1),(2,.sub (.var 2) y1)]
abbrev aeS:List (Nat × CV):=[(11,yu 9 7 1 yI 0),(10,.up {r:=5,n1:=.var 0,s1:=52,n2:=10,s2:=5,lo:=2,ks:=yW} 1 [] y0),(9,yu 4 0 52 yB 0),(8,yu 3 1 5 yW 0)]
def NL:Out :=
 .alt
 (.ob (.ai y0 (.var 1)) <|
  .ob (.ai (.mul (.var 1) (.lit 40)) (.lit 281474976710656)) <|
  .ob (.ai (.var 1) (.lit 9223372036854775807)) <|
  .ob (.ai y0 (.var 0)) <|
  .ob (.ai (.mul (.var 0) (.lit 416)) (.lit 281474976710656)) <|
  .ob (.ai (.var 0) (.lit 9223372036854775807)) <|
  .loop 2 {lo:=2,ah:=3,iv:=[yz 11,yz 10,yz 8,yz 7,(2,yv 0)],bv:=[(12,.lit true),(6,.lit true)],ct:=[(5,.up {r:=0,n1:=.var 0,s1:=52,n2:=10,s2:=5,lo:=2,ks:=yW,z:=true} 1 [] y0),(4,.up {r:=0,n1:=.var 0,s1:=52,ks:=yB,z:=true} 0 [] y0),(3,.up {r:=0,n1:=.var 1,s1:=5,ks:=yW,z:=true} 0 [] y0)],nb:=[4,3,4,3]} <|
  .br (.ai y1 (.var 2))
  (.ob (.ai (.mul (.add (.var 7) y1) (.lit 8)) (.lit 140737488355328)) <|
   .ob (.ai y0 (.var 7)) <|
   .ob (.ai (.var 7) (.var 8)) <|
   .ob (.ai (.var 8) (.lit 9223372036854775807)) <|
   .ob (.or (.not (.var 6)) (.aA (.var 7) y0)) <|
   .new 13 [.be (.and (.ai (.add (.var 7) y1) (.var 13)) (.ai (.var 13) (.lit 9223372036854775807)))] <|
   .ob (.inr .i64 (.sub (.var 2) y1)) <|
   .back 0 {lo:=2,ah:=3,iv:=aeR,bv:=[(12,yw 12),(6,.lit false)],ct:=[(9,.up {r:=9,n1:=.add (.var 7) y1,s1:=1,ks:=yI} 0 [⟨0,(.var 7),y0,0,.int .i64 (.var 2)⟩] y0),(5,.up {r:=5,n1:=.var 0,s1:=52,n2:=10,s2:=5,lo:=2,ks:=yW} 1 [] y0),(4,yu 4 0 52 yB 0),(3,yu 3 1 5 yW 0)],bk:=[(4,yb 4),(3,yc 6 1)]})
  (.fin {lo:=2,ah:=0,iv:=[(6,yv 11),(5,yv 10),(4,yv 8),(3,yv 7)],bv:=[(7,yw 12),(2,yw 6)],ct:=aeS,bk:=[(4,yb 4),(3,yc 3 1),(2,yc 1 52),(1,yc 0 5),(0,yb 2)]}))
 (.ob (.ai y0 (.var 0)) <|
  .ob (.ai (.mul (.var 0) (.lit 416)) (.lit 281474976710656)) <|
  .ob (.ai (.var 0) (.lit 9223372036854775807)) <|
  .ob (.ai y0 (.var 1)) <|
  .ob (.ai (.mul (.var 1) (.lit 40)) (.lit 281474976710656)) <|
  .ob (.ai (.var 1) (.lit 9223372036854775807)) <|
  .loop 2 {lo:=2,ah:=3,iv:=[yz 11,yz 10,yz 8,yz 7,(2,yv 0)],bv:=[(12,.lit true),(6,.lit true)],ct:=[(3,.up {r:=0,n1:=.var 1,s1:=5,ks:=yW,z:=true} 0 [] y0),(5,.up {r:=0,n1:=.var 0,s1:=52,n2:=10,s2:=5,lo:=2,ks:=yW,z:=true} 1 [] y0),(4,.up {r:=0,n1:=.var 0,s1:=52,ks:=yB,z:=true} 0 [] y0)],nb:=[4,3,4,3]} <|
  .br (.ai y1 (.var 2))
  (.ob (.ai (.mul (.add (.var 7) y1) (.lit 8)) (.lit 140737488355328)) <|
   .ob (.ai y0 (.var 7)) <|
   .ob (.ai (.var 7) (.var 8)) <|
   .ob (.ai (.var 8) (.lit 9223372036854775807)) <|
   .ob (.or (.not (.var 6)) (.aA (.var 7) y0)) <|
   .new 13 [.be (.and (.ai (.add (.var 7) y1) (.var 13)) (.ai (.var 13) (.lit 9223372036854775807)))] <|
   .ob (.inr .i64 (.sub (.var 2) y1)) <|
   .back 0 {lo:=2,ah:=3,iv:=aeR,bv:=[(12,yw 12),(6,.lit false)],ct:=[(9,.up {r:=9,n1:=.add (.var 7) y1,s1:=1,ks:=yI} 0 [⟨0,(.var 7),y0,0,.int .i64 (.var 2)⟩] y0),(3,yu 3 1 5 yW 0),(5,.up {r:=5,n1:=.var 0,s1:=52,n2:=10,s2:=5,lo:=2,ks:=yW} 1 [] y0),(4,yu 4 0 52 yB 0)],bk:=[(4,yb 4),(3,yc 6 1)]})
  (.fin {lo:=2,ah:=0,iv:=[(6,yv 11),(5,yv 10),(4,yv 8),(3,yv 7)],bv:=[(7,yw 12),(2,yw 6)],ct:=aeS,bk:=[(4,yb 4),(3,yc 3 1),(2,yc 0 52),(1,yc 1 5),(0,yb 2)]}))
theorem abW:exec tab aeQ 8000 [] (fE pV.f pV.nv aaB pV.gl pV.hp pV.args)=NL:=by kernel_rfl
def rG (ρ:Env):Prop:=(0≤ρ.iv 0∧ρ.iv 0≤1024)∧0≤ρ.iv 1∧ρ.iv 1≤200
def Di (ρ:Env):Prop:=bz ρ 2∧∃p:PS,ay ρ (ρ.iv 1) (ρ.iv 0) 2=p∧p.nb=ρ.iv 1∧p.ns=ρ.iv 0∧p.nf=ρ.iv 0∧p.steps=0∧p.made=0∧p.bT=true∧(∀i,p.bd i=Wd.zero)∧(∀i,p.gen i=0)∧(∀i,p.used i=false)∧(∀i k,p.cell i k=Wd.zero)∧∀i:Nat,(i:Int)<ρ.iv 0→p.fr i=ρ.iv 0-i
def xC (ρ:Env):Prop:=(0≤ρ.iv 2∧ρ.iv 2≤ρ.iv 0)∧bz ρ 6∧ρ.iv 7=ρ.iv 0-ρ.iv 2∧ρ.iv 10=0∧ρ.iv 11=0∧ρ.bv 12=true∧(∀i,aO (ρ.ic 3 i 0) (ρ.bc 3 i 0)=Wd.zero)∧(∀i,ρ.ic 4 i 0 0=0∧ρ.bc 4 i 0 1=false)∧(∀i k,aO (ρ.ic 5 i k) (ρ.bc 5 i k)=Wd.zero)∧∀i:Nat,(i:Int)<ρ.iv 7→ρ.ic 9 i 0 0=ρ.iv 0-i
theorem Y9 {q:Env} (hp:rG q) {σ:Sub} {k:Out} (h0:xC (σ.ag q)) (hk:∀r,rG r→xC r→∀Γ,Γ=(fun ρ':Env=>xC ρ'∧ρ'.iv 2+1≤r.iv 2∧0≤ρ'.iv 2)→Sat Di [] [fun ρ'=>xC ρ'∧(ρ'.iv 2).toNat<(r.num.iv 2).toNat] r k):Sat Di [] [] q (.loop 2 σ k) :=
 Sat.zb xC (fun r=>(r.iv 2).toNat) rG h0 (fun _=>hp) fun r hp hI=>hk r hp hI _ rfl
set_option maxHeartbeats 1000000 in
theorem abX (q:Env) (hpre:rG q.num):Sat Di [] [] q NL:=by
 replace hpre:rG q:=hpre
 obtain ⟨⟨a1,a2⟩,a3,a4⟩:=id hpre
 unfold NL
 refine Sat.alt ?_ ?_
 all_goals
  refine Sat.ob (by simp only [Da];omega) (Sat.ob (by simp only [Da];omega) (Sat.ob (by simp only [Da];omega) (Sat.ob (by simp only [Da];omega) (Sat.ob (by simp only [Da];omega) (Sat.ob (by simp only [Da];omega) (Y9 hpre ?_ fun r hp hI _ _=>?_))))))
  ·refine ⟨⟨a1,Int.le_refl _⟩,⟨fun _=>rfl,Int.le_refl 0,Int.le_refl 0,by show (0:Int)≤_;decide⟩,?_,rfl,rfl,rfl,fun i=>?_,fun i=>?_,fun i k=>?_,fun i hi=>?_⟩
   ·show (0:Int)=q.iv 0-q.iv 0
    omega
   ·simp [aO,Wd.zero,-Int.pred_toNat,Sub.ag,assoc,CV.I,CV.B,aj,ak,ae.I,ae.B,SC.I,SC.B,IE.den,BE.den]
   ·simp [-Int.pred_toNat,Sub.ag,assoc,CV.I,CV.B,aj,ak,ae.I,ae.B,SC.I,SC.B,IE.den,BE.den]
   ·simp [aO,Wd.zero,-Int.pred_toNat,Sub.ag,assoc,CV.I,CV.B,aj,ak,ae.I,ae.B,SC.I,SC.B,IE.den,BE.den]
   ·have:(i:Int)<0:=hi
    omega
  ·obtain ⟨⟨a1,a2⟩,a3,a4⟩:=hp
   obtain ⟨⟨i1,i2⟩,ho,i3,i4,i5,i6,i7,i8,i9,i10⟩:=hI
   refine Sat.br (fun hlt=>?_) (fun hge=>?_)
   ·simp only [Da] at hlt
    refine Sat.ob (by simp only [Da];omega) (Sat.ob (decide_eq_true ho.2.1) (Sat.ob (decide_eq_true ho.2.2.1) (Sat.ob (decide_eq_true ho.2.2.2) (Sat.ob (df ho) (Sat.BF (fun u=>rG u∧xC u∧1≤u.iv 2∧(u.iv 2-1).toNat<(r.num.iv 2).toNat) (fun _=>⟨⟨⟨a1,a2⟩,a3,a4⟩,⟨⟨i1,i2⟩,ho,i3,i4,i5,i6,i7,i8,i9,i10⟩,hlt,by show (r.iv 2-1).toNat<(r.iv 2).toNat;omega⟩) fun u hu hf=>?_)))))
    obtain ⟨⟨⟨a1,a2⟩,a3,a4⟩,⟨⟨i1,i2⟩,ho,i3,i4,i5,i6,i7,i8,i9,i10⟩,hlt,hm⟩:=hu
    simp only [Da] at hf
    have h7:0≤u.iv 7:=ho.2.1
    refine Sat.ob (by simp only [Da];omega) (Sat.back rfl ⟨⟨⟨by show 0≤u.iv 2-1;omega,by show u.iv 2-1≤u.iv 0;omega⟩,⟨fun h=>(by cases h),by show 0≤u.iv 7+1;omega,hf.1,hf.2⟩,by show u.iv 7+1=u.iv 0-(u.iv 2-1);omega,i4,i5,i6,fun i=>?_,fun i=>?_,fun i k=>?_,fun i hi=>?_⟩,hm⟩)
    ·rw [←i7 i]
     simp [aO,-Int.pred_toNat,Sub.ag,assoc,CV.I,CV.B,aj,ak,ae.I,ae.B,SC.I,SC.B,IE.den,BE.den]
    ·obtain ⟨x,y⟩:=i8 i
     refine ⟨?_,?_⟩
     ·simp [-Int.pred_toNat,Sub.ag,assoc,CV.I,CV.B,aj,ak,ae.I,ae.B,SC.I,SC.B,IE.den,BE.den,x]
     ·simp [-Int.pred_toNat,Sub.ag,assoc,CV.I,CV.B,aj,ak,ae.I,ae.B,SC.I,SC.B,IE.den,BE.den,y]
    ·rw [←i9 i k]
     simp [aO,-Int.pred_toNat,Sub.ag,assoc,CV.I,CV.B,aj,ak,ae.I,ae.B,SC.I,SC.B,IE.den,BE.den]
    ·replace hi:(i:Int)<u.iv 7+1:=hi
     by_cases h:i=(u.iv 7).toNat
     ·subst h
      have:(((u.iv 7).toNat:Nat):Int)=u.iv 7:=by omega
      simp [-Int.pred_toNat,Sub.ag,assoc,CV.I,CV.B,aj,ak,ae.I,ae.B,SC.I,SC.B,IE.den,BE.den]
      omega
     ·have hr:=i10 i (by omega)
      have hr2:u.iv 0-(i:Int)=(u.iv 0-(i:Int)):=rfl
      simp [-Int.pred_toNat,Sub.ag,assoc,CV.I,CV.B,aj,ak,ae.I,ae.B,SC.I,SC.B,IE.den,BE.den,Ne.symm h,hr]
   ·simp only [Da] at hge
    have h2:r.iv 2=0:=by omega
    refine Sat.fin ⟨ho,_,rfl,rfl,rfl,?_,i4,i5,i6,fun i=>?_,fun i=>?_,fun i=>?_,fun i k=>?_,fun i hi=>?_⟩
    ·show r.iv 7=r.iv 0
     omega
    ·rw [←i7 i]
     simp [ay,aO,-Int.pred_toNat,Sub.ag,assoc,CV.I,CV.B,aj,ak,ae.I,ae.B,SC.I,SC.B,IE.den,BE.den]
    ·simp [ay,-Int.pred_toNat,Sub.ag,assoc,CV.I,CV.B,aj,ak,ae.I,ae.B,SC.I,SC.B,IE.den,BE.den,(i8 i).1]
    ·simp [ay,-Int.pred_toNat,Sub.ag,assoc,CV.I,CV.B,aj,ak,ae.I,ae.B,SC.I,SC.B,IE.den,BE.den,(i8 i).2]
    ·rw [←i9 i k]
     simp [ay,aO,-Int.pred_toNat,Sub.ag,assoc,CV.I,CV.B,aj,ak,ae.I,ae.B,SC.I,SC.B,IE.den,BE.den]
    ·replace hi:(i:Int)<r.iv 0:=hi
     show _=r.iv 0-(i:Int)
     rw [←i10 i (by omega)]
     simp [ay,-Int.pred_toNat,Sub.ag,assoc,CV.I,CV.B,aj,ak,ae.I,ae.B,SC.I,SC.B,IE.den,BE.den]
theorem abY:bg Tryz.prog pV rG Di :=
 dA dO (E:=aeQ) (cs:=[]) rfl (fun k pre post h=>by cases h) bX rfl abW (by kernel_rfl) (fun ρ h p hp=>by
   obtain ⟨⟨a1,a2⟩,a3,a4⟩:rG ρ.num:=h
   simp only [aaB,List.mem_cons,List.not_mem_nil,or_false] at hp
   rcases hp with rfl | rfl | rfl | rfl <;> simp only [Da] <;> omega) abX
end Go.Proofs.YthomdlajobnmnaaGreatDoor
