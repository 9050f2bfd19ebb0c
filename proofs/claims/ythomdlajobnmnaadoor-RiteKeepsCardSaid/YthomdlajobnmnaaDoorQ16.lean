/- part 16 of the proof -/
import Derived.Shelf.RegionOpenPlain
import Derived.WalkKit
import Derived.Deep.LoopGhost
import Derived.Deep.RegionLaw
import Derived.Lib.Walk
import Derived.Lib.SliceRun
import Derived.Lib.LazyBuf
import Derived.Deep.OwnRows
import Derived.Test.YthomdlajobnmnaaDoorQ15
set_option linter.unusedSimpArgs false
set_option linter.unusedVariables false
namespace Go.Proofs.YthomdlajobnmnaaDoor
open Go.Rex Go.Lib Go.RowKit
noncomputable def Ot:Ex:={sched:=sched,loops:=[Vm],fin:=jw}
def Bv:Out :=
 .ob (.or (.not (.var 0)) (.aC (.var 1) (.lit 0))) <|
 .ob (.aA (.lit 0) (.var 1)) <|
 .loop 11 {lo:=11,az:=2,iv:=[(11,.lit 0)]} <|
 .br (.bQ (.var 11) (.var 1))
 (.ob (.not (.var 0)) <|
  .ob (.aA (.lit 0) (.var 11)) <|
  .br (.and (.and (.aC (.var 4) (.cell 3 (.var 11) (.lit 0) 0)) (.and (.aC (.var 5) (.cell 3 (.var 11) (.lit 0) 1)) (.and (.aC (.var 6) (.cell 3 (.var 11) (.lit 0) 2)) (.and (.aC (.var 7) (.cell 3 (.var 11) (.lit 0) 3)) (.beq (.var 8) (.cell 3 (.var 11) (.lit 0) 4)))))) (.and (.aC (.var 9) (.cell 3 (.var 11) (.lit 0) 5)) (.aC (.var 10) (.cell 3 (.var 11) (.lit 0) 6))))
  (.fin {lo:=11,az:=1,iv:=[(11,yv 11)]})
  (.ob (.inr .i64 (.add (.var 11) (.lit 1))) <|
   .back 0 {lo:=11,az:=2,iv:=[(11,.add (.var 11) (.lit 1))]}))
 (.fin {lo:=11,az:=1,iv:=[(11,.lit (-1))]})
theorem Ou:exec tab Ot 8000 [] (fV jw.f jw.nv [] jw.gl jw.hp jw.args)=Bv:=by kernel_rfl
def xe (ρ:Env) (v:Nat):Nt:=⟨av ρ v,ρ.iv (v+5),ρ.iv (v+6)⟩
def sS (ρ:Env):Prop:=(aZ ρ 0∧ρ.iv 1≤1000000)∧xe ρ 4∈aW ρ 3 (ρ.iv 1)
def um (ρ:Env):Prop:=(0≤ρ.iv 11∧ρ.iv 11<ρ.iv 1)∧(aW ρ 3 (ρ.iv 1)).erase (xe ρ 4)=(aW ρ 3 (ρ.iv 1)).take (ρ.iv 11).toNat ++ (aW ρ 3 (ρ.iv 1)).drop ((ρ.iv 11).toNat+1)
def IX (ρ:Env):Prop:=sS ρ∧(0≤ρ.iv 11∧ρ.iv 11≤ρ.iv 1)∧∀j:Nat,(j:Int)<ρ.iv 11→bP ρ 3 j≠xe ρ 4
theorem Ov {a b:Nt}:a=b↔(a.ref.slot=b.ref.slot∧a.ref.gen=b.ref.gen∧a.ref.tag=b.ref.tag∧a.ref.num=b.ref.num∧a.ref.mark=b.ref.mark)∧a.aU=b.aU∧a.dh=b.dh:=by
 obtain ⟨⟨a1,a2,a3,a4,a5⟩,a6,a7⟩:=a
 obtain ⟨⟨b1,b2,b3,b4,b5⟩,b6,b7⟩:=b
 simp only [Nt.mk.injEq,Wd.mk.injEq]
theorem IY {α:Type} [DecidableEq α] {x:α}:∀{l:List α} {i:Nat},l[i]?=some x→(∀j,j<i→l[j]?≠some x)→l.erase x=l.take i ++ l.drop (i+1)
 | [],i,h,_=>by simp at h
 | a :: l,0,h,_=>by
  simp at h
  subst h
  simp
 | a :: l,i+1,h,hn=>by
  have h0:=hn 0 (by omega)
  simp only [List.getElem?_cons_zero,ne_eq,Option.some.injEq] at h0
  rw [List.erase_cons_tail (by simpa using h0),IY (l:=l) (i:=i) (by simpa using h) (fun j hj=>by simpa using hn (j+1) (by omega))]
  rfl
theorem qE {ρ:Env} {r:Nat} {n:Int} {i:Nat} (h:(i:Int)<n):(aW ρ r n)[i]?=some (bP ρ r i):=by
 unfold aW
 rw [List.getElem?_map,List.getElem?_range (by omega)]
 rfl
theorem Ow (ρ:Env) (hpre:sS ρ.num):Sat um [] [] ρ Bv:=by
 replace hpre:sS ρ:=hpre
 have hpre':=hpre
 obtain ⟨⟨o1,h2⟩,-⟩:=hpre
 unfold Bv
 refine Sat.ob (aO o1) (Sat.ob (decide_eq_true o1.2.1) (Sat.ug IX (fun r=>(r.iv 1-r.iv 11).toNat) (fun _=>True) ⟨hpre',⟨Int.le_refl 0,o1.2.1⟩,fun j hj=>?_⟩ (fun _=>trivial) fun q _ hI=>?_))
 ·exfalso
  replace hj:(j:Int)<0:=hj
  omega
 replace hI:IX q:=hI
 obtain ⟨⟨⟨o1,h2⟩,hx⟩,⟨i1,i2⟩,hI⟩:=hI
 refine Sat.br (fun c=>?_) (fun c=>?_)
 ·simp only [Da] at c
  refine Sat.ob (bR o1 (by simp only [Nat.reduceAdd];omega)) (Sat.ob (decide_eq_true i1) (Sat.br (fun c2=>?_) (fun c2=>?_)))
  ·simp only [Da] at c2
   refine Sat.fin ⟨⟨i1,c⟩,?_⟩
   show (aW q 3 (q.iv 1)).erase (xe q 4)=(aW q 3 (q.iv 1)).take (q.iv 11).toNat ++ (aW q 3 (q.iv 1)).drop ((q.iv 11).toNat+1)
   refine IY ?_ fun j hj=>?_
   ·rw [qE (by omega)]
    refine congrArg some (Ov.2 ?_)
    simp only [bP,xe,aD,av]
    simp only [and_assoc] at c2 ⊢
    obtain ⟨a1,a2,a3,a4,a5,a6,a7⟩:=c2
    exact ⟨a1.symm,a2.symm,a3.symm,a4.symm,a5.symm,a6.symm,a7.symm⟩
   ·rw [qE (by omega)]
    intro h
    exact hI j (by omega) (Option.some.inj h)
  ·simp only [Da] at c2
   have hne:bP q 3 (q.iv 11).toNat≠xe q 4:=fun h=>by
    have h':=Ov.1 h
    simp only [bP,xe,aD,av] at h'
    obtain ⟨⟨a1,a2,a3,a4,a5⟩,a6,a7⟩:=h'
    simp_all
   refine Sat.ob (by simp only [Da];omega) (Sat.back rfl ⟨⟨⟨⟨o1,h2⟩,hx⟩,⟨?_,?_⟩,fun j hj=>?_⟩,?_⟩)
   ·show 0≤q.iv 11+1;omega
   ·show q.iv 11+1≤q.iv 1;omega
   ·replace hj:(j:Int)<q.iv 11+1:=hj
    show bP q 3 j≠xe q 4
    by_cases h:j=(q.iv 11).toNat
    ·subst h;exact hne
    ·exact hI j (by omega)
   ·show (q.iv 1-(q.iv 11+1)).toNat<(q.iv 1-q.iv 11).toNat
    omega
 ·simp only [Da] at c
  exfalso
  unfold aW at hx
  obtain ⟨j,hj,he⟩:=List.mem_map.1 hx
  have:=List.mem_range.1 hj
  exact hI j (by omega) he
theorem Ox:bC Tryd.prog jw sS um :=
 dJ fu (E:=Ot) (cs:=[]) rfl (fun k pre post h=>by cases h) di rfl Ou (by kernel_rfl) (fun ρ _ p hp=>by cases hp) Ow
def mZ:List Value:=[.int .i64 0,.int .i64 0,.int .i64 0,.int .i64 0,.bool false,.int .i64 0,.int .i64 0]
theorem Oy:(Tryd.prog.info? 82).map (·.size)=some 7:=by kernel_rfl
theorem Mi (w:World) (ty:TypeId) (b o c:Nat) (hc:∀j,j<7→(w.cell? ⟨b,o+j,none⟩).isSome=true) (hf:∀j,j<7→w.frozen? ⟨b,o+j,none⟩=false) :
  (Builtin.clear_ #[66] ty #[.slice (some ⟨b,o,none⟩) 1 c]).run Tryd.prog w=.ok (.tuple #[]) (w.setCells b o mZ):=by
 have hst:=run_storeCells_cells (P:=Tryd.prog) b o mZ 0 w (by simpa [mZ] using hc) (by simpa [mZ] using hf) (by intro v hv;simp [mZ] at hv;rcases hv with rfl | rfl | rfl <;> rfl)
 simp only [Nat.add_zero] at hst
 have hz:(Builtin.zeroCells (Value.agg #[Value.int IntKind.i64 0,Value.int IntKind.i64 0,Value.int IntKind.i64 0,Value.int IntKind.i64 0,Value.bool false,Value.int IntKind.i64 0,Value.int IntKind.i64 0]).cells 1).toList=mZ:=by kernel_rfl
 simp [Builtin.clear_,run_underlying Tryd.underlying66,Tryd.zeroValue82,hz,hst]
set_option maxHeartbeats 4000000 in
set_option maxRecDepth 1000000 in
theorem QM (b n cap i j:Nat) (Xd:j=i+1) (f:Nat→Value) (w:World) (hr:w.rowIs b 82 (cap * 7) f) (hj:j≤n) (hn:n≤cap) (hm:cap≤9223372036854775807) (h1:∀p,p<n * 7→(f p).oneCell'=true) :
  Calls Tryd.prog 87 #[.slice (some ⟨b,0,none⟩) n cap,.int .i64 i,.int .i64 j] w fun e w'=>e=.returned (.slice (some ⟨b,0,none⟩) (n-1) cap) ∧
   w'=(w.drew.setCells b (i * 7) ((List.range ((n-j) * 7)).map fun t=>f (j * 7+t))).setCells b ((n-1) * 7) mZ:=by
 have mixed:Tryd.prog.follows .mixedOrders=true:=fu.mixed
 obtain ⟨i0,hi0,hz1⟩:∃i0,Tryd.prog.info? 82=some i0∧i0.size=7:=by
  have:=Oy
  simpa using this
 have hij:i<j:=by omega
 obtain ⟨news,hnews⟩:∃news,news=(List.range ((n-j) * 7)).map fun t=>f (j * 7+t):=⟨_,rfl⟩
 have hlen:news.length=(n-j) * 7:=by rw [hnews];simp
 have hget:∀t,t<(n-j) * 7→news[t]?=some (f (j * 7+t)):=by
  intro t ht
  rw [hnews,List.getElem?_map,List.getElem?_range ht]
  rfl
 have hcell:∀p,p<cap * 7→w.drew.cell? ⟨b,p,none⟩=some (f p):=fun p hp=>hr.cell hp
 have Sc:∀p,p<cap * 7→w.drew.frozen? ⟨b,p,none⟩=false:=fun p hp=>hr.frozen p
 obtain ⟨A,hA,hsrc⟩:∃A:Addr,(if cap=j then some (⟨b,0,none⟩:Addr) else some ⟨b,j * 7,none⟩)=some A∧Hid (∀t u,news[t]?=some u→w.drew.cell? (A.add t)=some u):=by
  by_cases h:cap=j
  ·refine ⟨⟨b,0,none⟩,by simp [h],fun t u hu=>?_⟩
   have h0:news.length=0:=by rw [hlen];omega
   rw [List.length_eq_zero_iff.1 h0] at hu
   simp at hu
  ·refine ⟨⟨b,j * 7,none⟩,by simp [h],fun t u hu=>?_⟩
   have ht:t<(n-j) * 7:=by
    have:=(List.getElem?_eq_some_iff.1 hu).1
    rwa [hlen] at this
   rw [hget t ht] at hu
   rw [Addr.add_lit]
   exact (hcell _ (by omega)).trans hu
 have s1:Hid (news.length=(n-j) * 7):=hlen
 have s2:Hid (∀u∈news,u.oneCell'=true):=by
  intro u hu
  rw [hnews] at hu
  obtain ⟨x,hx,rfl⟩:=List.mem_map.1 hu
  have:=List.mem_range.1 hx
  exact h1 _ (by omega)
 have s3:Hid (∀t,t<news.length→(w.drew.cell? ⟨b,0+i * 7+t,none⟩).isSome=true∧w.drew.frozen? ⟨b,0+i * 7+t,none⟩=false):=by
  intro t ht
  rw [hlen] at ht
  rw [Nat.zero_add]
  exact ⟨by rw [hcell _ (by omega)];rfl,Sc _ (by omega)⟩
 obtain ⟨W1,hW1⟩:∃W1,W1=w.drew.setCells b (0+i * 7) news:=⟨_,rfl⟩
 have hr1:=rowIs_setCells news (0+i * 7) w.drew f hr.drew
 rw [←hW1] at hr1
 have hcl:∀ty,(Builtin.clear_ #[66] ty #[.slice (some ⟨b,(i+(n-j)) * 7,none⟩) (n-(i+(n-j))) (cap-(i+(n-j)))]).run Tryd.prog W1=.ok (.tuple #[]) (W1.setCells b ((n-1) * 7) mZ):=by
  intro ty
  rw [show n-(i+(n-j))=1 by omega,show i+(n-j)=n-1 by omega]
  exact Mi W1 ty b ((n-1) * 7) _ (fun t ht=>by rw [hr1.cell (by omega)];rfl) (fun t ht=>hr1.frozen _)
 have hW:Hid (W1=w.drew.setCells b (0+i * 7) news):=hW1
 have X:Hid (W1=w.drew.setCells b (i * 7) ((List.range ((n-j) * 7)).map fun t=>f (j * 7+t))):=by
  show W1=_
  rw [←hnews,hW1,Nat.zero_add]
 have hic:i≤cap:=by omega
 have hjc:j≤cap:=by omega
 have Y:Hid (j=i+1):=Xd
 clear hW1 hr1 hget hnews hlen hcell Sc hr h1 Xd
 go_enter Tryd.func87,Tryd.ntmps87
 go_wp2_with fail
 go_region_law_o (refine step_append_room rfl (.tmp 22) (.tmp 25) 66 rfl 82 i0 7 Tryd.underlying66 hi0 hz1 b 0 i cap (by simp [Act.eval,Act.put]) A (n-j) (cap-j) news (by simp [Act.eval,Act.put]) s1.out hsrc.out s2.out (by omega) s3.out ?_;rw [←hW.out])
 go_wp2
 go_ret
 refine ⟨?_,?_⟩
 ·have:=Y.out
  rw [show n-1=i+(n-j) by omega]
  rfl
 ·rw [←X.out]
theorem sU (b:Nat):∀(vs:List Value) (o:Nat) (w:World),(w.setCells b o vs).os=w.os∧(w.setCells b o vs).tape=w.tape∧(w.setCells b o vs).output=w.output∧(w.setCells b o vs).heap.size=w.heap.size∧∀k,k≠b→(w.setCells b o vs).heap[k]?=w.heap[k]?
 | [],_,_=>⟨rfl,rfl,rfl,rfl,fun _ _=>rfl⟩
 | v :: r,o,w=>by
  obtain ⟨h1,h2,h3,h4,h5⟩:=sU b r (o+1) (w.setCell ⟨b,o,none⟩ v)
  refine ⟨h1,h2,h3,h4.trans (by simp [World.setCell]),fun k hk=>(h5 k hk).trans ?_⟩
  simp only [World.setCell]
  rw [Array.getElem?_modify,if_neg (fun h=>hk h.symm)]
def uo (ρ:Env):Prop:=aZ ρ 0∧(0≤ρ.iv 4∧ρ.iv 4<ρ.iv 1)∧ρ.iv 5=ρ.iv 4+1
def ru (ρ:Env):Prop:=aW ρ 6 (ρ.iv 1-1)=(aW ρ 3 (ρ.iv 1)).take (ρ.iv 4).toNat ++ (aW ρ 3 (ρ.iv 1)).drop ((ρ.iv 4).toNat+1)
def je (ρ:Env):Env where
 iv:=ρ.iv
 bv:=ρ.bv
 vv:=ρ.vv
 ic:=fun r=>if r=6 then fun a _ c=>if a<(ρ.iv 4).toNat then ρ.ic 3 a 0 c else ρ.ic 3 (a+1) 0 c else ρ.ic r
 bc:=fun r=>if r=6 then fun a _ c=>if a<(ρ.iv 4).toNat then ρ.bc 3 a 0 c else ρ.bc 3 (a+1) 0 c else ρ.bc r
 vc:=ρ.vc
theorem Jw {ρ:Env} (h:uo ρ):ru (je ρ):=by
 obtain ⟨o,⟨i1,i2⟩,i3⟩:=h
 show aW (je ρ) 6 (ρ.iv 1-1)=(aW (je ρ) 3 (ρ.iv 1)).take (ρ.iv 4).toNat ++ (aW (je ρ) 3 (ρ.iv 1)).drop ((ρ.iv 4).toNat+1)
 have e3:∀i,bP (je ρ) 3 i=bP ρ 3 i:=fun i=>rfl
 have e6:∀i,bP (je ρ) 6 i=if i<(ρ.iv 4).toNat then bP ρ 3 i else bP ρ 3 (i+1):=fun i=>by
  by_cases h:i<(ρ.iv 4).toNat
  ·simp only [bP,aD,je,if_true,if_pos h]
  ·simp only [bP,aD,je,if_true,if_neg h]
 refine List.ext_getElem? fun k=>?_
 by_cases hk:(k:Int)<ρ.iv 1-1
 ·rw [qE hk,e6]
  by_cases h:k<(ρ.iv 4).toNat
  ·rw [if_pos h,List.getElem?_append_left (by rw [List.length_take,jW];omega),List.getElem?_take,if_pos h,qE (by omega),e3]
  ·have hl:((aW (je ρ) 3 (ρ.iv 1)).take (ρ.iv 4).toNat).length=(ρ.iv 4).toNat:=by rw [List.length_take,jW];omega
   rw [if_neg h,List.getElem?_append_right (by rw [hl];omega),hl,List.getElem?_drop,show (ρ.iv 4).toNat+1+(k-(ρ.iv 4).toNat)=k+1 by omega,qE (by omega),e3]
 ·rw [List.getElem?_eq_none (by rw [jW];omega),List.getElem?_eq_none (by rw [List.length_append,List.length_take,List.length_drop,jW];omega)]
theorem Vv (ρ:Env) (r a c:Nat) (i1 i2 j:Nat) (g:aa) (hg:g.ks=kN) (hj:j<7):(g.base ρ i1 i2 j).oneCell'=true:=by
 unfold aa.base
 rw [hg]
 match j,hj with
 | 0,_=>rfl
 | 1,_=>rfl
 | 2,_=>rfl
 | 3,_=>rfl
 | 4,_=>rfl
 | 5,_=>rfl
 | 6,_=>rfl
set_option maxRecDepth 4000 in
set_option maxHeartbeats 400000 in
theorem Mj:bC Tryd.prog eO uo ru:=by
 refine ⟨⟨_,Tryd.func87,by kernel_rfl,by kernel_rfl⟩,fun ρ ν w jR _ hpre=>?_⟩
 replace hpre:uo ρ:=hpre
 have hpre':=hpre
 obtain ⟨⟨n0,n1,n2,n3⟩,⟨i1,i2⟩,i3⟩:=hpre
 replace n0:ρ.bv 0=true→ρ.iv 1=0:=n0
 replace n1:0≤ρ.iv 1:=n1
 replace n2:ρ.iv 1≤ρ.iv 2:=n2
 replace n3:ρ.iv 2≤9223372036854775807:=n3
 have hb:ρ.bv 0=false:=by
  cases h:ρ.bv 0
  ·rfl
  ·have:=n0 h;omega
 obtain ⟨lN,cs,Ii,hhas⟩:=jR.aH 0 _ rfl (by simp [sG,SB.dead,BE.den,hb]) rfl
 replace Ii:=Ii.cells rfl
 obtain ⟨-,hsz⟩:=hhas.cap (.var 2) 7 rfl
 replace hsz:cs.size=(ρ.iv 2).toNat * 7:=hsz
 have hsg:=hhas.sg 0 _ rfl
 generalize hbk:(ν 0).block=b at *
 have hcell:∀a c:Nat,(a:Int)<ρ.iv 1→c<7→cs[a * 7+c]?=some (({r:=3,n1:=.var 1,s1:=7,ks:=kN}:aa).base ρ a 0 c):=fun a c ha hc=>by
  have:=hsg a 0 c ha (by decide) hc
  rw [show a * 7+c=a * 7+0 * 0+0+c by omega]
  exact this
 have hrow:w.rowIs b 82 ((ρ.iv 2).toNat * 7) (fun p=>cs[p]?.getD default):=⟨cs,Ii,hsz,fun p hp=>by
   show cs[p]?=some (cs[p]?.getD default)
   rw [Array.getElem?_eq_getElem (by omega)]
   rfl⟩
 have Sd:=QM b (ρ.iv 1).toNat (ρ.iv 2).toNat (ρ.iv 4).toNat (ρ.iv 5).toNat (by omega) _ w hrow (by omega) (by omega) (by omega) (fun p hp=>by
   have h7:=Nat.div_add_mod p 7
   have Xe:=Nat.mod_lt p (show 0<7 by decide)
   have:=hcell (p / 7) (p % 7) (by omega) Xe
   rw [show p / 7 * 7+p % 7=p by omega] at this
   simp only [this,Option.getD_some]
   exact Vv ρ 0 0 0 _ _ _ _ rfl Xe)
 have hargs:(eO.args.map (·.den ρ ν)).toArray=#[.slice (some ⟨b,0,none⟩) (ρ.iv 1).toNat (ρ.iv 2).toNat,.int .i64 (ρ.iv 4).toNat,.int .i64 (ρ.iv 5).toNat]:=by
  have e4:((ρ.iv 4).toNat:Int)=ρ.iv 4:=Int.toNat_of_nonneg i1
  have e5:((ρ.iv 5).toNat:Int)=ρ.iv 5:=Int.toNat_of_nonneg (by omega)
  rw [e4,e5]
  simp [eO,kZ,RQ,SW.den,SC.den,SA.den,SA.off,IE.den,BE.den,hb,iv,lN,Addr.add]
 rw [hargs]
 have hf:eO.f=87:=rfl
 rw [hf]
 refine Sd.mono ?_
 clear Sd hargs hf
 intro e w' hw
 obtain ⟨he,hw⟩:=hw
 have hr1:=rowIs_setCells ((List.range (((ρ.iv 1).toNat-(ρ.iv 5).toNat) * 7)).map fun t=>(fun p=>cs[p]?.getD default) ((ρ.iv 5).toNat * 7+t)) ((ρ.iv 4).toNat * 7) w.drew _ hrow.drew
 have hr2:=rowIs_setCells mZ (((ρ.iv 1).toNat-1) * 7) _ _ hr1
 rw [←hw] at hr2
 obtain ⟨cs',hc1,hc2,hc3⟩:=hr2
 have hA:dB eO.nv eO.hp.length ρ (je ρ) ν ν:=by
  refine ⟨fun i hi=>rfl,fun i hi=>rfl,fun i hi=>rfl,fun i hi=>?_,fun i hi=>?_,fun i hi=>rfl,fun i hi=>rfl⟩
  ·exact if_neg (fun h:i=6=>absurd hi (by rw [h];decide))
  ·exact if_neg (fun h:i=6=>absurd hi (by rw [h];decide))
 have hw1:=sU b ((List.range (((ρ.iv 1).toNat-(ρ.iv 5).toNat) * 7)).map fun t=>(fun p=>cs[p]?.getD default) ((ρ.iv 5).toNat * 7+t)) ((ρ.iv 4).toNat * 7) w.drew
 have hw2:=sU b mZ (((ρ.iv 1).toNat-1) * 7) (w.drew.setCells b ((ρ.iv 4).toNat * 7) ((List.range (((ρ.iv 1).toNat-(ρ.iv 5).toNat) * 7)).map fun t=>(fun p=>cs[p]?.getD default) ((ρ.iv 5).toNat * 7+t)))
 rw [←hw] at hw2
 obtain ⟨a1,a2,a3,a4,a5⟩:=hw1
 obtain ⟨b1,b2,b3,b4,b5⟩:=hw2
 have hown:kL ρ ν eO.hp b:=⟨0,_,rfl,rfl,by simp [sG,SB.dead,BE.den,hb],hbk.symm⟩
 refine ⟨je ρ,ν,hA,?_,⟨fun i j x y hi hj dx dy rx he'=>?_,fun k sb hk hd hro=>?_,fun k sb hk hd hro=>?_⟩,⟨b1.trans a1,b2.trans a2,b3.trans a3,by rw [b4,a4];exact Nat.le_refl _,fun k hk hn=>?_⟩,fun k sb hk ho hd=>?_,Jw hpre'⟩
 ·rw [he]
  have e1:(ρ.iv 1-1).toNat=(ρ.iv 1).toNat-1:=by omega
  simp [eO,SV.den,SW.den,SC.den,SA.den,SA.off,IE.den,BE.den,je,hb,lN,Addr.add,-Int.pred_toNat,e1]
 ·have ht:i=0∧j=0:=by
   have l1:=(List.getElem?_eq_some_iff.1 hi).1
   have l2:=(List.getElem?_eq_some_iff.1 hj).1
   simp [eO] at l1 l2
   omega
  rw [ht.1,ht.2]
 ·have ht:k=0:=by
   have l1:=(List.getElem?_eq_some_iff.1 hk).1
   simp [eO] at l1
   exact l1
  subst ht
  simp [eO] at hk
  subst hk
  refine ⟨by rw [hbk];exact lN,cs',by rw [hbk,hc1];exact eT.kV rfl,⟨fun u hu=>(by cases hu),fun h=>(by cases h),fun e n h=>?_,fun p c h=>(by simp at h),fun gi g hg x1 x2 j h1 h2 h3=>?_⟩⟩
  ·cases h
   exact ⟨by show 0≤ρ.iv 2;omega,hc2⟩
  ·have hgi:gi=0:=by
    have l1:=(List.getElem?_eq_some_iff.1 hg).1
    simpa using l1
   subst hgi
   simp at hg
   subst hg
   replace h1:(x1:Int)<ρ.iv 1-1:=h1
   replace h2:x2<1:=h2
   replace h3:j<7:=h3
   obtain rfl:x2=0:=by omega
   show cs'[x1 * 7+0 * 0+0+j]?=some (aa.base (je ρ) {r:=6,n1:=.sub (.var 1) (.lit 1),s1:=7,ks:=kN} x1 0 j)
   rw [show x1 * 7+0 * 0+0+j=x1 * 7+j by omega,hc3 _ (by omega)]
   dsimp only
   have eb:∀y:Nat,y=(if x1<(ρ.iv 4).toNat then x1 else x1+1)→aa.base (je ρ) {r:=6,n1:=.sub (.var 1) (.lit 1),s1:=7,ks:=kN} x1 0 j=aa.base ρ {r:=3,n1:=.var 1,s1:=7,ks:=kN} y 0 j:=by
    intro y hy
    subst hy
    by_cases h:x1<(ρ.iv 4).toNat
    ·rw [if_pos h]
     match j,h3 with
     | 0,_ | 1,_ | 2,_ | 3,_ | 4,_ | 5,_ | 6,_=>simp [aa.base,je,kN,-Int.lt_toNat,h]
    ·rw [if_neg h]
     match j,h3 with
     | 0,_ | 1,_ | 2,_ | 3,_ | 4,_ | 5,_ | 6,_=>simp [aa.base,je,kN,-Int.lt_toNat,h]
   rw [if_neg (by omega)]
   by_cases h:x1<(ρ.iv 4).toNat
   ·rw [if_neg (by omega)]
    show some (cs[x1 * 7+j]?.getD default)=_
    rw [hcell x1 j (by omega) h3,eb x1 (if_pos h).symm]
    rfl
   ·rw [if_pos (by simp only [List.length_map,List.length_range];omega),List.getElem?_map,List.getElem?_range (by omega)]
    show some (cs[(ρ.iv 5).toNat * 7+(x1 * 7+j-(ρ.iv 4).toNat * 7)]?.getD default)=_
    rw [show (ρ.iv 5).toNat * 7+(x1 * 7+j-(ρ.iv 4).toNat * 7)=(x1+1) * 7+j by omega,hcell (x1+1) j (by omega) h3,eb (x1+1) (if_neg h).symm]
    rfl
 ·have ht:k=0:=by
   have l1:=(List.getElem?_eq_some_iff.1 hk).1
   simp [eO] at l1
   exact l1
  subst ht
  simp [eO] at hk
  subst hk
  cases hro
 ·have hkb:k≠b:=fun h=>hn (h ▸ hown)
  rw [b5 k hkb,a5 k hkb]
  rfl
 ·have ht:k=0:=by
   have l1:=(List.getElem?_eq_some_iff.1 hk).1
   simp [eO] at l1
   exact l1
  subst ht
  rw [hbk]
  exact .inr hown
end Go.Proofs.YthomdlajobnmnaaDoor
set_option linter.unusedSimpArgs false
set_option linter.unusedVariables false
namespace Go.Proofs.YthomdlajobnmnaaDoor
open Go.Rex
theorem Vw {P:Program} {k:eu} {pre Vx Vy post:Env→Prop} (h1:bC P k Vx post) (h2:bC P k Vy post) (hp:∀ρ,pre ρ→Vx ρ∨Vy ρ):bC P k pre post :=
 ⟨h1.fn,fun ρ ν w a b c=>(hp _ c).elim (h1.run ρ ν w a b) (h2.run ρ ν w a b)⟩
def uq:ko:=[(iY,rP,sP),(gp,IJ,wU),(jK,rQ,Bu),(lY,yV,zK),(jw,sS,um),(eO,uo,ru)]
theorem IZ:∀k pre post,(k,pre,post)∈uq→jg k=true∧bC Tryd.prog k pre post:=by
 intro k pre post h
 simp only [uq,List.mem_cons,List.not_mem_nil,or_false,Prod.mk.injEq] at h
 rcases h with ⟨rfl,rfl,rfl⟩ | ⟨rfl,rfl,rfl⟩ | ⟨rfl,rfl,rfl⟩ | ⟨rfl,rfl,rfl⟩ | ⟨rfl,rfl,rfl⟩ | ⟨rfl,rfl,rfl⟩
 ·exact ⟨by kernel_rfl,IL⟩
 ·exact ⟨by kernel_rfl,IK⟩
 ·exact ⟨by kernel_rfl,QL⟩
 ·exact ⟨by kernel_rfl,TG⟩
 ·exact ⟨by kernel_rfl,Ox⟩
 ·exact ⟨by kernel_rfl,Mj⟩
def nT (ρ:Env):Prop:=bJ ρ 77∧ae ρ 0 77=(ae ρ 0 4).bK (aI ρ 71)
noncomputable def Oz:Ex:={sched:=sched,loops:=[],cons:=[iY,gp,jK,lY,jw,eO],fin:=fF}
def Bw:Out :=
 .ob (.not (.var 51)) <|
 .ob (.bQ (.lit 0) (.var 52)) <|
 .ob (.aA (.lit 0) (.var 69)) <|
 .ob (.bQ (.var 69) (.var 70)) <|
 .call 4 {lo:=0,az:=0,iv:=[(10,.cell 69 (.var 69) (.lit 0) 6),(9,.cell 69 (.var 69) (.lit 0) 5),(7,.cell 69 (.var 69) (.lit 0) 3),(6,.cell 69 (.var 69) (.lit 0) 2),(5,.cell 69 (.var 69) (.lit 0) 1),(4,.cell 69 (.var 69) (.lit 0) 0),(2,yv 60),(1,yv 59)],bv:=[(8,.cell 69 (.var 69) (.lit 0) 4),(0,yw 58)],ct:=[(3,yu 70 59 7 yN 0)],bk:=[(0,yc 3 7)]} 77 <|
 .ob (.inr .i64 (.add (.var 77) (.lit 1))) <|
 .call 5 {lo:=0,az:=0,iv:=[(5,.add (.var 77) (.lit 1)),(4,yv 77),(2,yv 60),(1,yv 59)],bv:=[(0,yw 58)],ct:=[(3,yu 70 59 7 yN 0)],bk:=[(0,yc 3 7)]} 78 <|
 .ob (.inr .i64 (.add (.var 61) (.lit 1))) <|
 .br (.aC (.lit 1) (.var 53))
 (.ob (.aA (.lit 1) (.var 52)) <|
  .ob (.aA (.var 52) (.var 53)) <|
  .ob (.aA (.lit 0) (.var 52)) <|
  .call 1 {lo:=0,az:=0,iv:=[(70,yv 70),(65,yv 65),(64,yv 64),(63,yv 63),(62,yv 62),(61,.add (.var 61) (.lit 1)),(60,yv 60),(59,.sub (.var 59) (.lit 1)),(57,yv 57),(56,yv 56),(3,yv 3),(2,yv 2),(1,yv 1),(0,yv 0),(53,.sub (.var 53) (.lit 1)),(52,.sub (.var 52) (.lit 1)),(69,yv 69),(50,yv 50),(49,yv 49),(47,yv 47),(45,yv 45),(44,yv 44),(43,yv 43),(42,yv 42),(40,yv 40),(39,yv 39),(38,yv 38),(37,yv 37),(35,yv 35),(34,yv 34),(33,yv 33),(32,yv 32),(30,yv 30),(29,yv 29),(28,yv 28),(27,yv 27),(26,yv 26),(25,yv 25),(24,yv 24),(23,yv 23),(22,yv 22),(21,yv 21),(20,yv 20),(19,yv 19),(18,yv 18),(16,yv 16),(15,yv 15),(14,yv 14),(13,yv 13),(11,yv 11),(10,yv 10),(9,yv 9),(8,yv 8),(7,yv 7),(6,yv 6),(5,yv 5),(4,yv 4)],bv:=[(67,yw 67),(66,yw 66),(58,yw 58),(55,yw 55),(51,yw 51),(48,yw 48),(46,yw 46),(41,yw 41),(36,yw 36),(31,yw 31),(17,yw 17),(12,yw 12)],ct:=[(70,.up {r:=78,n1:=.sub (.var 59) (.lit 1),s1:=7,ks:=yN} 0 [] (.lit 0)),(69,yu 69 70 7 yN 0),(68,yu 68 49 5 yW 0),(54,yl 54 9 5 50 yW 0)],bk:=[(3,yc 3 7),(2,yc 2 7),(1,yc 1 5),(0,yb 0)]} 79 <|
  .fin {lo:=77,az:=4,iv:=[(143,yv 145),(138,yv 140),(137,yv 139),(136,yv 138),(135,yv 137),(134,yv 136),(133,yv 135),(132,yv 134),(130,yv 132),(129,yv 131),(126,yv 128),(125,yv 127),(142,yv 144),(123,yv 125),(122,yv 124),(120,yv 122),(118,yv 120),(117,yv 119),(116,yv 118),(115,yv 117),(113,yv 115),(112,yv 114),(111,yv 113),(110,yv 112),(108,yv 110),(107,yv 109),(106,yv 108),(105,yv 107),(103,yv 105),(102,yv 104),(101,yv 103),(100,yv 102),(99,yv 101),(98,yv 100),(97,yv 99),(96,yv 98),(95,yv 97),(94,yv 96),(93,yv 95),(92,yv 94),(91,yv 93),(89,yv 91),(88,yv 90),(87,yv 89),(86,yv 88),(84,yv 86),(83,yv 85),(82,yv 84),(81,yv 83),(80,yv 82),(79,yv 81),(78,yv 80),(77,yv 79)],bv:=[(140,yw 142),(139,yw 141),(131,yw 133),(128,yw 130),(124,yw 126),(121,yw 123),(119,yw 121),(114,yw 116),(109,yw 111),(104,yw 106),(90,yw 92),(85,yw 87)],ct:=[(143,yu 145 134 7 yN 0),(142,yu 144 145 7 yN 0),(141,yu 143 124 5 yW 0),(127,yl 129 9 5 50 yW 0)],bk:=[(6,yc 7 7),(5,yc 6 7),(4,yc 5 5)]})
 (.ob (.aA (.lit 1) (.var 52)) <|
  .ob (.aA (.var 52) (.var 53)) <|
  .ob (.aA (.lit 0) (.var 52)) <|
  .call 1 {lo:=0,az:=0,iv:=[(70,yv 70),(65,yv 65),(64,yv 64),(63,yv 63),(62,yv 62),(61,.add (.var 61) (.lit 1)),(60,yv 60),(59,.sub (.var 59) (.lit 1)),(57,yv 57),(56,yv 56),(3,yv 3),(2,yv 2),(1,yv 1),(0,yv 0),(53,.sub (.var 53) (.lit 1)),(52,.sub (.var 52) (.lit 1)),(69,.add (.var 69) (.lit 1)),(50,yv 50),(49,yv 49),(47,yv 47),(45,yv 45),(44,yv 44),(43,yv 43),(42,yv 42),(40,yv 40),(39,yv 39),(38,yv 38),(37,yv 37),(35,yv 35),(34,yv 34),(33,yv 33),(32,yv 32),(30,yv 30),(29,yv 29),(28,yv 28),(27,yv 27),(26,yv 26),(25,yv 25),(24,yv 24),(23,yv 23),(22,yv 22),(21,yv 21),(20,yv 20),(19,yv 19),(18,yv 18),(16,yv 16),(15,yv 15),(14,yv 14),(13,yv 13),(11,yv 11),(10,yv 10),(9,yv 9),(8,yv 8),(7,yv 7),(6,yv 6),(5,yv 5),(4,yv 4)],bv:=[(67,yw 67),(66,yw 66),(58,yw 58),(55,yw 55),(51,yw 51),(48,yw 48),(46,yw 46),(41,yw 41),(36,yw 36),(31,yw 31),(17,yw 17),(12,yw 12)],ct:=[(70,.up {r:=78,n1:=.sub (.var 59) (.lit 1),s1:=7,ks:=yN} 0 [] (.lit 0)),(69,yu 69 70 7 yN 0),(68,yu 68 49 5 yW 0),(54,yl 54 9 5 50 yW 0)],bk:=[(3,yc 3 7),(2,yc 2 7),(1,yc 1 5),(0,yb 0)]} 79 <|
  .fin {lo:=77,az:=4,iv:=[(143,yv 145),(138,yv 140),(137,yv 139),(136,yv 138),(135,yv 137),(134,yv 136),(133,yv 135),(132,yv 134),(130,yv 132),(129,yv 131),(126,yv 128),(125,yv 127),(142,yv 144),(123,yv 125),(122,yv 124),(120,yv 122),(118,yv 120),(117,yv 119),(116,yv 118),(115,yv 117),(113,yv 115),(112,yv 114),(111,yv 113),(110,yv 112),(108,yv 110),(107,yv 109),(106,yv 108),(105,yv 107),(103,yv 105),(102,yv 104),(101,yv 103),(100,yv 102),(99,yv 101),(98,yv 100),(97,yv 99),(96,yv 98),(95,yv 97),(94,yv 96),(93,yv 95),(92,yv 94),(91,yv 93),(89,yv 91),(88,yv 90),(87,yv 89),(86,yv 88),(84,yv 86),(83,yv 85),(82,yv 84),(81,yv 83),(80,yv 82),(79,yv 81),(78,yv 80),(77,yv 79)],bv:=[(140,yw 142),(139,yw 141),(131,yw 133),(128,yw 130),(124,yw 126),(121,yw 123),(119,yw 121),(114,yw 116),(109,yw 111),(104,yw 106),(90,yw 92),(85,yw 87)],ct:=[(143,yu 145 134 7 yN 0),(142,yu 144 145 7 yN 0),(141,yu 143 124 5 yW 0),(127,yl 129 9 5 50 yW 0)],bk:=[(6,yc 7 7),(5,yc 6 7),(4,yc 5 5)]})
theorem OA:exec tab Oz 8000 [] (fV fF.f fF.nv [(.aC (.var 22) (.lit 16),true)] fF.gl fF.hp fF.args)=Bw:=by kernel_rfl
def Bz (ρ:Env):Prop:=bJ ρ 4∧(ρ.iv 22=16∧ρ.iv 59≤1000000∧-1000000000000≤ρ.iv 61∧ρ.iv 61≤1000000000000)∧∃d l,(ae ρ 0 4).bI=d :: l∧d∈(ae ρ 0 4).notes
set_option maxHeartbeats 4000000 in
theorem OB (ρ:Env) (hpre:Bz ρ.num):Sat nT uq [] ρ Bw:=by
 replace hpre:Bz ρ:=hpre
 obtain ⟨⟨o1,o2,o3⟩,⟨hst,hf,f1,f2⟩,d,l,hd,hmem⟩:=hpre
 have p2:=o2.1.2
 have p3:=o2.2
 have Kk:=o3
 obtain ⟨q1,q2,q3,q4⟩:=Kk
 simp only [Nat.reduceAdd] at p2 p3 q2 q3 q4
 have hpos:0<ρ.iv 52:=by
  rcases Int.lt_or_eq_of_le p2.1 with h | h
  ·exact h
  ·rw [show (ae ρ 0 4).bI=[] from nR h.symm] at hd
   cases hd
 have hd2:(ae ρ 0 4).bI=bP ρ 69 (ρ.iv 69).toNat :: gY ρ 69 (ρ.iv 69+1) (ρ.iv 52-1):=Dj hpos p3.1
 rw [hd2] at hd
 obtain ⟨rfl,rfl⟩:=List.cons.inj hd
 have hm:(ae ρ 0 4).bK (aI ρ 71)=({ae ρ 0 4 with notes:=(ae ρ 0 4).notes.erase (bP ρ 69 (ρ.iv 69).toNat),freed:=ρ.iv 61+1,bI:=gY ρ 69 (ρ.iv 69+1) (ρ.iv 52-1)}:RS).eG:=by
  unfold RS.bK
  have hs:(ae ρ 0 4).step=16:=hst
  rw [if_neg (by rw [hs];decide),if_neg (by rw [hs];decide),if_neg (by rw [hs];decide),if_neg (by rw [hs];decide),if_pos hs,hd2]
  rfl
 replace hmem:bP ρ 69 (ρ.iv 69).toNat∈aW ρ 70 (ρ.iv 59):=hmem
 unfold Bw
 refine Sat.ob (bR o2.1 (by simp only [Nat.reduceAdd];omega)) (Sat.ob (by simp only [Da];omega) (Sat.ob (by simp only [Da];omega) (Sat.ob (by simp only [Da];omega) ?_)))
 refine Sat.gX (c:=jw) rfl ⟨⟨o3,hf⟩,?_⟩ (fun q=>bJ q 4∧((-1000000000000≤q.iv 61∧q.iv 61≤1000000000000)∧q.iv 59≤1000000∧0<q.iv 52)∧(0≤q.iv 77∧q.iv 77<q.iv 59) ∧
     (aW q 70 (q.iv 59)).erase (bP q 69 (q.iv 69).toNat)=(aW q 70 (q.iv 59)).take (q.iv 77).toNat ++ (aW q 70 (q.iv 59)).drop ((q.iv 77).toNat+1) ∧
     (ae q 0 4).bK (aI q 71)=({ae q 0 4 with notes:=(ae q 0 4).notes.erase (bP q 69 (q.iv 69).toNat),freed:=q.iv 61+1,bI:=gY q 69 (q.iv 69+1) (q.iv 52-1)}:RS).eG) (fun e hq=>?_) fun q hq=>?_
 ·refine cast (congr (congrArg (fun (l:List Nt) (d:Nt)=>d∈l) ?_) ?_) hmem
  ·exact fJ rfl fun i=>by simp [bP,aD,-Int.pred_toNat,Sub.af,assoc,CV.I,CV.B,ah,ai,aa.I,aa.B,SC.I,SC.B,IE.den,BE.den]
  ·simp [bP,xe,av,aD,-Int.pred_toNat,Sub.af,assoc,CV.I,CV.B,ah,ai,aa.I,aa.B,SC.I,SC.B,IE.den,BE.den]
 ·replace hq:um (aG _ 11 77 ρ (ρ.join 77 e)):=hq
  obtain ⟨⟨x1,x2⟩,x3⟩:=hq
  rw [show (aG _ 11 77 ρ (ρ.join 77 e)).iv 11=(ρ.join 77 e).iv 77 from gQ 11 0] at x1 x2 x3
  refine ⟨⟨o1,o2,o3⟩,⟨⟨f1,f2⟩,hf,hpos⟩,⟨x1,x2⟩,?_,hm⟩
  refine Eq.trans (congr (congrArg List.erase (fJ rfl fun i=>?_)) ?_) (x3.trans (congrArg (fun l:List Nt=>l.take ((ρ.join 77 e).iv 77).toNat ++ l.drop (((ρ.join 77 e).iv 77).toNat+1)) (fJ rfl fun i=>?_)))
  ·simp [bP,aD,aG,Env.join,-Int.pred_toNat,Sub.af,assoc,CV.I,CV.B,ah,ai,aa.I,aa.B,SC.I,SC.B,IE.den,BE.den]
  ·rfl
  ·simp [bP,aD,aG,Env.join,-Int.pred_toNat,Sub.af,assoc,CV.I,CV.B,ah,ai,aa.I,aa.B,SC.I,SC.B,IE.den,BE.den]
 obtain ⟨⟨o1,o2,o3⟩,⟨⟨f1,f2⟩,hf,hpos⟩,⟨x1,x2⟩,hx,hm⟩:=hq
 refine Sat.ob (by simp only [Da];omega) ?_
 refine Sat.gX (c:=eO) rfl ⟨o3,⟨x1,x2⟩,rfl⟩ (fun u=>bJ u 4∧((-1000000000000≤u.iv 61∧u.iv 61≤1000000000000)∧u.iv 59≤1000000∧0<u.iv 52)∧0<u.iv 59∧aW u 78 (u.iv 59-1)=(ae u 0 4).notes.erase (bP u 69 (u.iv 69).toNat) ∧
     (ae u 0 4).bK (aI u 71)=({ae u 0 4 with notes:=(ae u 0 4).notes.erase (bP u 69 (u.iv 69).toNat),freed:=u.iv 61+1,bI:=gY u 69 (u.iv 69+1) (u.iv 52-1)}:RS).eG) (fun e hq=>?_) fun u hu=>?_
 ·replace hq:ru (aG _ 6 78 q (q.join 78 e)):=hq
  refine ⟨⟨o1,o2,o3⟩,⟨⟨f1,f2⟩,hf,hpos⟩,by show 0<q.iv 59;omega,?_,hm⟩
  refine Eq.trans (fJ rfl fun i=>?_) (Eq.trans hq (Eq.trans (congrArg (fun l:List Nt=>l.take (q.iv 77).toNat ++ l.drop ((q.iv 77).toNat+1)) (fJ rfl fun i=>?_)) hx.symm))
  ·simp [bP,aD,aG,Env.join,-Int.pred_toNat,Sub.af,assoc,CV.I,CV.B,ah,ai,aa.I,aa.B,SC.I,SC.B,IE.den,BE.den]
  ·simp [bP,aD,aG,Env.join,-Int.pred_toNat,Sub.af,assoc,CV.I,CV.B,ah,ai,aa.I,aa.B,SC.I,SC.B,IE.den,BE.den]
 obtain ⟨⟨o1,o2,o3⟩,⟨⟨f1,f2⟩,hf,hpos⟩,hn,hx,hm⟩:=hu
 have p2:=o2.1.2
 have p3:=o2.2
 have Kk:=o3
 obtain ⟨q1,q2,q3,q4⟩:=Kk
 simp only [Nat.reduceAdd] at p2 p3 q1 q2 q3 q4
 have hnn:u.bv 58=false:=by
  cases h:u.bv 58
  ·rfl
  ·have:=q1 h;omega
 have ho3:∀v:Env,v.bv 58=u.bv 58→v.iv 59=u.iv 59-1→v.iv 60=u.iv 60→aZ v 58:=fun v h1 h2 h3=>⟨fun h=>(by rw [h1,hnn] at h;cases h),by simp only [Nat.reduceAdd];omega,by simp only [Nat.reduceAdd];omega,by simp only [Nat.reduceAdd];omega⟩
 have ho2:∀v:Env,v.bv 51=u.bv 51→v.iv 52=u.iv 52-1→v.iv 53=u.iv 53-1→aZ v 51:=fun v h1 h2 h3=>by
  have hnn:u.bv 51=false:=by
   cases h:u.bv 51
   ·rfl
   ·have:=o2.1.1 h
    simp only [Nat.reduceAdd] at this
    omega
  exact ⟨fun h=>(by rw [h1,hnn] at h;cases h),by simp only [Nat.reduceAdd];omega,by simp only [Nat.reduceAdd];omega,by simp only [Nat.reduceAdd];omega⟩
 refine Sat.ob (by simp only [Da];omega) (Sat.br (fun c=>?_) (fun c=>?_))
 ·simp only [Da] at c
  refine Sat.ob (by simp only [Da];omega) (Sat.ob (by simp only [Da];omega) (Sat.ob (by simp only [Da];omega) ?_))
  refine eB (c:=gp) rfl ({ae u 0 4 with notes:=(ae u 0 4).notes.erase (bP u 69 (u.iv 69).toNat),freed:=u.iv 61+1,bI:=gY u 69 (u.iv 69+1) (u.iv 52-1)}:RS) _ (by decide) (by decide) (jE rfl rfl rfl rfl) ⟨o1,⟨ho2 _ rfl rfl rfl,p3.1,.inl (by show u.iv 52-1=0;omega)⟩,ho3 _ rfl rfl rfl⟩ (RS.ext' rfl rfl rfl rfl rfl rfl bg ?_ rfl rfl rfl rfl bE rfl ?_ rfl rfl) (fun e hq hr=>⟨hq.1,hq.2.trans (congrArg RS.eG hr)⟩) (fun v=>bJ v 79∧ae v 0 79=(ae v 0 4).bK (aI v 71)) (fun e h1 h2=>⟨h1,h2.trans hm.symm⟩) fun v hv=>?_
  ·exact (nR (show u.iv 52-1=0 by omega)).trans (nR (show u.iv 52-1=0 by omega)).symm
  ·exact Eq.trans (fJ rfl fun i=>by simp [bP,aD,-Int.pred_toNat,Sub.af,assoc,CV.I,CV.B,ah,ai,aa.I,aa.B,SC.I,SC.B,IE.den,BE.den]) hx
  obtain ⟨⟨o1,o2,o3⟩,hm⟩:=hv
  exact Sat.fin ⟨⟨(by first | exact o1 | exact o2 | exact o3 | exact aj rfl rfl | assumption),(by first | exact o2 | exact ⟨aj rfl rfl,Int.le_refl 0,.inl rfl⟩ | assumption),(by first | exact o1 | exact o2 | exact o3 | exact aj rfl rfl | assumption)⟩,Eq.trans (b:=(ae v 0 79)) (RS.ext' rfl rfl rfl rfl rfl rfl bg bB rfl rfl rfl rfl bE rfl bz rfl rfl) (Eq.symm (hm.symm))⟩
 ·simp only [Da] at c
  refine Sat.ob (by simp only [Da];omega) (Sat.ob (by simp only [Da];omega) (Sat.ob (by simp only [Da];omega) ?_))
  refine eB (c:=gp) rfl ({ae u 0 4 with notes:=(ae u 0 4).notes.erase (bP u 69 (u.iv 69).toNat),freed:=u.iv 61+1,bI:=gY u 69 (u.iv 69+1) (u.iv 52-1)}:RS) _ (by decide) (by decide) (jE rfl rfl rfl rfl) ⟨o1,⟨ho2 _ rfl rfl rfl,by show 0≤u.iv 69+1;omega,.inr (by show u.iv 69+1+(u.iv 52-1)≤u.iv 70;omega)⟩,ho3 _ rfl rfl rfl⟩ (RS.ext' rfl rfl rfl rfl rfl rfl bg ?_ rfl rfl rfl rfl bE rfl ?_ rfl rfl) (fun e hq hr=>⟨hq.1,hq.2.trans (congrArg RS.eG hr)⟩) (fun v=>bJ v 79∧ae v 0 79=(ae v 0 4).bK (aI v 71)) (fun e h1 h2=>⟨h1,h2.trans hm.symm⟩) fun v hv=>?_
  ·exact wQ rfl rfl fun i=>by simp [bP,aD,-Int.pred_toNat,Sub.af,assoc,CV.I,CV.B,ah,ai,aa.I,aa.B,SC.I,SC.B,IE.den,BE.den]
  ·exact Eq.trans (fJ rfl fun i=>by simp [bP,aD,-Int.pred_toNat,Sub.af,assoc,CV.I,CV.B,ah,ai,aa.I,aa.B,SC.I,SC.B,IE.den,BE.den]) hx
  obtain ⟨⟨o1,o2,o3⟩,hm⟩:=hv
  exact Sat.fin ⟨⟨(by first | exact o1 | exact o2 | exact o3 | exact aj rfl rfl | assumption),(by first | exact o2 | exact ⟨aj rfl rfl,Int.le_refl 0,.inl rfl⟩ | assumption),(by first | exact o1 | exact o2 | exact o3 | exact aj rfl rfl | assumption)⟩,Eq.trans (b:=(ae v 0 79)) (RS.ext' rfl rfl rfl rfl rfl rfl bg bB rfl rfl rfl rfl bE rfl bz rfl rfl) (Eq.symm (hm.symm))⟩
theorem OC:bC Tryd.prog fF Bz nT :=
 dJ fu (E:=Oz) (cs:=uq) rfl IZ di rfl OA (by kernel_rfl) (fun ρ h p hp=>by
   obtain ⟨-,⟨h,-⟩,-⟩:=h
   simp only [List.mem_cons,List.not_mem_nil,or_false] at hp
   subst hp
   exact beq_iff_eq.2 h) OB
end Go.Proofs.YthomdlajobnmnaaDoor
set_option linter.unusedSimpArgs false
set_option linter.unusedVariables false
namespace Go.Proofs.YthomdlajobnmnaaDoor
open Go.Rex
noncomputable def OD:Ex:={sched:=sched,loops:=[NL],cons:=[iY,gp,jK,lY,jw,eO],fin:=fF}
def BA:Out :=
 .br (.aC (.var 22) (.lit 12))
 (.call 0 {lo:=0,az:=0,iv:=[(70,yv 70),(65,yv 65),(64,yv 64),(63,yv 63),(62,yv 62),(61,yv 61),(60,yv 60),(59,yv 59),(57,yv 57),(56,yv 56),(3,yv 3),(2,yv 2),(1,yv 1),(0,yv 0),(53,yv 53),(52,yv 52),(69,yv 69),(50,yv 50),(49,yv 49),(47,yv 47),(45,yv 74),(44,yv 73),(43,yv 72),(42,yv 71),(40,yv 40),(39,yv 39),(38,yv 38),(37,yv 37),(35,yv 35),(34,yv 34),(33,yv 33),(32,yv 32),(30,yv 30),(29,yv 29),(28,yv 28),(27,yv 27),(26,yv 26),(25,yv 25),(24,yv 24),(23,yv 23),(22,yv 22),(21,yv 21),(20,yv 20),(19,yv 19),(18,yv 18),(16,yv 16),(15,yv 15),(14,yv 14),(13,yv 13),(11,yv 11),(10,yv 10),(9,yv 9),(8,yv 8),(7,yv 7),(6,yv 6),(5,yv 5),(4,yv 4),(71,.lit 0)],bv:=[(67,yw 67),(66,yw 66),(58,yw 58),(55,yw 55),(51,yw 51),(48,yw 48),(46,yw 75),(41,yw 41),(36,yw 36),(31,yw 31),(17,yw 17),(12,yw 12)],ct:=[(70,yu 70 59 7 yN 0),(69,yu 69 70 7 yN 0),(68,yu 68 49 5 yW 0),(54,yl 54 9 5 50 yW 0)],bk:=[(3,yc 3 7),(2,yc 2 7),(1,yc 1 5),(0,yb 0)]} 77 <|
  .fin {lo:=77,az:=4,iv:=[(143,yv 143),(138,yv 138),(137,yv 137),(136,yv 136),(135,yv 135),(134,yv 134),(133,yv 133),(132,yv 132),(130,yv 130),(129,yv 129),(126,yv 126),(125,yv 125),(142,yv 142),(123,yv 123),(122,yv 122),(120,yv 120),(118,yv 118),(117,yv 117),(116,yv 116),(115,yv 115),(113,yv 113),(112,yv 112),(111,yv 111),(110,yv 110),(108,yv 108),(107,yv 107),(106,yv 106),(105,yv 105),(103,yv 103),(102,yv 102),(101,yv 101),(100,yv 100),(99,yv 99),(98,yv 98),(97,yv 97),(96,yv 96),(95,yv 95),(94,yv 94),(93,yv 93),(92,yv 92),(91,yv 91),(89,yv 89),(88,yv 88),(87,yv 87),(86,yv 86),(84,yv 84),(83,yv 83),(82,yv 82),(81,yv 81),(80,yv 80),(79,yv 79),(78,yv 78),(77,yv 77)],bv:=[(140,yw 140),(139,yw 139),(131,yw 131),(128,yw 128),(124,yw 124),(121,yw 121),(119,yw 119),(114,yw 114),(109,yw 109),(104,yw 104),(90,yw 90),(85,yw 85)],ct:=[(143,yu 143 132 7 yN 0),(142,yu 142 143 7 yN 0),(141,yu 141 122 5 yW 0),(127,yl 127 9 5 50 yW 0)],bk:=[(6,yc 7 7),(5,yc 6 7),(4,yc 5 5)]})
 (.br (.aC (.var 22) (.lit 13))
  (.ob (.aA (.mul (.add (.var 49) (.lit 1)) (.lit 40)) (.lit 140737488355328)) <|
   .ob (.aA (.lit 0) (.var 49)) <|
   .ob (.aA (.var 49) (.var 50)) <|
   .ob (.aA (.var 50) (.lit 9223372036854775807)) <|
   .ob (.or (.not (.var 48)) (.aC (.var 49) (.lit 0))) <|
   .new 77 [.be (.and (.aA (.add (.var 49) (.lit 1)) (.var 77)) (.aA (.var 77) (.lit 9223372036854775807)))] <|
   .ob (.inr .i64 (.add (.var 47) (.lit 1))) <|
   .call 0 {lo:=0,az:=0,iv:=[(70,yv 70),(65,yv 65),(64,yv 64),(63,yv 63),(62,yv 62),(61,yv 61),(60,yv 60),(59,yv 59),(57,yv 57),(56,yv 56),(3,yv 3),(2,yv 2),(1,yv 1),(0,yv 0),(53,yv 53),(52,yv 52),(69,yv 69),(50,yv 77),(49,.add (.var 49) (.lit 1)),(47,yv 47),(45,yv 45),(44,yv 44),(43,yv 43),(42,yv 42),(40,yv 40),(39,yv 39),(38,yv 38),(37,yv 37),(35,yv 35),(34,yv 34),(33,yv 33),(32,yv 32),(30,yv 30),(29,yv 29),(28,yv 28),(27,yv 27),(26,yv 26),(25,yv 25),(24,yv 24),(23,yv 23),(22,yv 22),(21,yv 21),(20,yv 20),(19,yv 19),(18,yv 18),(16,yv 16),(15,yv 15),(14,yv 14),(13,yv 13),(11,yv 11),(10,yv 10),(9,yv 9),(8,yv 8),(7,yv 7),(6,yv 6),(5,yv 5),(4,yv 4),(71,.add (.var 47) (.lit 1))],bv:=[(67,yw 67),(66,yw 66),(58,yw 58),(55,yw 55),(51,yw 51),(48,.lit false),(46,yw 46),(41,yw 41),(36,yw 36),(31,yw 31),(17,yw 17),(12,yw 12)],ct:=[(70,yu 70 59 7 yN 0),(69,yu 69 70 7 yN 0),(68,.up {r:=68,n1:=.add (.var 49) (.lit 1),s1:=5,ks:=yW} 0 [⟨0,(.var 49),(.lit 0),0,.int .i64 (.var 71)⟩,⟨0,(.var 49),(.lit 0),1,.int .i64 (.var 72)⟩,⟨0,(.var 49),(.lit 0),2,.int .i64 (.var 73)⟩,⟨0,(.var 49),(.lit 0),3,.int .i64 (.var 74)⟩,⟨0,(.var 49),(.lit 0),4,.bool (.var 75)⟩] (.lit 0)),(54,yl 54 9 5 50 yW 0)],bk:=[(3,yc 3 7),(2,yc 2 7),(1,yc 6 5),(0,yb 0)]} 78 <|
   .br (.var 145)
   (.fin {lo:=77,az:=4,iv:=[(143,yv 144),(138,yv 139),(137,yv 138),(136,yv 137),(135,yv 136),(134,yv 135),(133,yv 134),(132,yv 133),(130,yv 131),(129,yv 130),(126,yv 127),(125,yv 126),(142,yv 143),(123,yv 124),(122,yv 123),(120,yv 121),(118,yv 119),(117,yv 118),(116,yv 117),(115,yv 116),(113,yv 114),(112,yv 113),(111,yv 112),(110,yv 111),(108,yv 109),(107,yv 108),(106,yv 107),(105,yv 106),(103,yv 104),(102,yv 103),(101,yv 102),(100,yv 101),(99,yv 100),(98,yv 99),(97,yv 98),(96,yv 97),(95,yv 96),(94,yv 95),(93,yv 94),(92,yv 93),(91,yv 92),(89,yv 90),(88,yv 89),(87,yv 88),(86,yv 87),(84,yv 85),(83,yv 84),(82,yv 83),(81,yv 82),(80,yv 81),(79,yv 80),(78,yv 79),(77,yv 78)],bv:=[(140,yw 141),(139,yw 140),(131,yw 132),(128,yw 129),(124,yw 125),(121,yw 122),(119,yw 120),(114,yw 115),(109,yw 110),(104,yw 105),(90,yw 91),(85,yw 86)],ct:=[(143,yu 144 133 7 yN 0),(142,yu 143 144 7 yN 0),(141,yu 142 123 5 yW 0),(127,yl 128 9 5 50 yW 0)],bk:=[(6,yc 9 7),(5,yc 8 7),(4,yc 7 5)]})
   (.br (.not (.aC (.var 0) (.lit 4)))
    (.call 2 {lo:=0,az:=0,iv:=[(70,yv 144),(65,yv 139),(64,yv 138),(63,yv 137),(62,yv 136),(61,yv 135),(60,yv 134),(59,yv 133),(57,yv 131),(56,yv 130),(3,yv 3),(2,yv 2),(1,yv 1),(0,yv 0),(53,yv 127),(52,yv 126),(69,yv 143),(50,yv 124),(49,yv 123),(47,yv 121),(45,yv 119),(44,yv 118),(43,yv 117),(42,yv 116),(40,yv 114),(39,yv 113),(38,yv 112),(37,yv 111),(35,yv 109),(34,yv 108),(33,yv 107),(32,yv 106),(30,yv 104),(29,yv 103),(28,yv 102),(27,yv 101),(26,yv 100),(25,yv 99),(24,yv 98),(23,yv 97),(22,yv 96),(21,yv 95),(20,yv 94),(19,yv 93),(18,yv 92),(16,yv 90),(15,yv 89),(14,yv 88),(13,yv 87),(11,yv 85),(10,yv 84),(9,yv 83),(8,yv 82),(7,yv 81),(6,yv 80),(5,yv 79),(4,yv 78)],bv:=[(67,yw 141),(66,yw 140),(58,yw 132),(55,yw 129),(51,yw 125),(48,yw 122),(46,yw 120),(41,yw 115),(36,yw 110),(31,yw 105),(17,yw 91),(12,yw 86)],ct:=[(70,yu 144 133 7 yN 0),(69,yu 143 144 7 yN 0),(68,yu 142 123 5 yW 0),(54,yl 128 9 5 50 yW 0)],bk:=[(3,yc 9 7),(2,yc 8 7),(1,yc 7 5),(0,yb 0)]} 146 <|
     .fin {lo:=77,az:=4,iv:=[(143,yv 212),(138,yv 207),(137,yv 206),(136,yv 205),(135,yv 204),(134,yv 203),(133,yv 202),(132,yv 201),(130,yv 199),(129,yv 198),(126,yv 195),(125,yv 194),(142,yv 211),(123,yv 192),(122,yv 191),(120,yv 189),(118,yv 187),(117,yv 186),(116,yv 185),(115,yv 184),(113,yv 182),(112,yv 181),(111,yv 180),(110,yv 179),(108,yv 177),(107,yv 176),(106,yv 175),(105,yv 174),(103,yv 172),(102,yv 171),(101,yv 170),(100,yv 169),(99,yv 168),(98,yv 167),(97,yv 166),(96,yv 165),(95,yv 164),(94,yv 163),(93,yv 162),(92,yv 161),(91,yv 160),(89,yv 158),(88,yv 157),(87,yv 156),(86,yv 155),(84,yv 153),(83,yv 152),(82,yv 151),(81,yv 150),(80,yv 149),(79,yv 148),(78,yv 147),(77,yv 146)],bv:=[(140,yw 209),(139,yw 208),(131,yw 200),(128,yw 197),(124,yw 193),(121,yw 190),(119,yw 188),(114,yw 183),(109,yw 178),(104,yw 173),(90,yw 159),(85,yw 154)],ct:=[(143,yu 212 201 7 yN 0),(142,yu 211 212 7 yN 0),(141,yu 210 191 5 yW 0),(127,yl 196 9 5 50 yW 0)],bk:=[(6,yc 12 7),(5,yc 11 7),(4,yc 10 5)]})
    (.ob (.or (.not (.var 122)) (.aC (.var 123) (.lit 0))) <|
     .ob (.aA (.lit 0) (.var 123)) <|
     .loop 146 {lo:=146,az:=10,iv:=[(150,.lit 0),(148,.lit 0),(147,.lit 0)],bv:=[(146,.lit true)],nb:=[10]} <|
     .br (.bQ (.var 150) (.var 123))
     (.ob (.not (.var 122)) <|
      .ob (.aA (.lit 0) (.var 150)) <|
      .br (.not (.cell 142 (.var 150) (.lit 0) 4))
      (.ob (.aA (.mul (.add (.var 147) (.lit 1)) (.lit 24)) (.lit 140737488355328)) <|
       .ob (.aA (.lit 0) (.var 147)) <|
       .ob (.aA (.var 147) (.var 148)) <|
       .ob (.aA (.var 148) (.lit 9223372036854775807)) <|
       .ob (.or (.not (.var 146)) (.aC (.var 147) (.lit 0))) <|
       .new 151 [.be (.and (.aA (.add (.var 147) (.lit 1)) (.var 151)) (.aA (.var 151) (.lit 9223372036854775807)))] <|
       .ob (.inr .i64 (.add (.var 150) (.lit 1))) <|
       .back 0 {lo:=146,az:=10,iv:=[(150,.add (.var 150) (.lit 1)),(148,yv 151),(147,.add (.var 147) (.lit 1))],bv:=[(146,.lit false)],ct:=[(149,.up {r:=149,n1:=.add (.var 147) (.lit 1),s1:=3,ks:=[.bool,.int .i64,.int .i64]} 0 [⟨0,(.var 147),(.lit 0),0,.bool (.lit false)⟩,⟨0,(.var 147),(.lit 0),1,.int .i64 (.lit 0)⟩,⟨0,(.var 147),(.lit 0),2,.int .i64 (.lit 0)⟩] (.lit 0))],bk:=[(10,yc 15 3)]})
      (.ob (.aA (.mul (.add (.var 147) (.lit 1)) (.lit 24)) (.lit 140737488355328)) <|
       .ob (.aA (.lit 0) (.var 147)) <|
       .ob (.aA (.var 147) (.var 148)) <|
       .ob (.aA (.var 148) (.lit 9223372036854775807)) <|
       .ob (.or (.not (.var 146)) (.aC (.var 147) (.lit 0))) <|
       .new 151 [.be (.and (.aA (.add (.var 147) (.lit 1)) (.var 151)) (.aA (.var 151) (.lit 9223372036854775807)))] <|
       .ob (.inr .i64 (.add (.var 150) (.lit 1))) <|
       .back 0 {lo:=146,az:=10,iv:=[(150,.add (.var 150) (.lit 1)),(148,yv 151),(147,.add (.var 147) (.lit 1))],bv:=[(146,.lit false)],ct:=[(149,.up {r:=149,n1:=.add (.var 147) (.lit 1),s1:=3,ks:=[.bool,.int .i64,.int .i64]} 0 [⟨0,(.var 147),(.lit 0),0,.bool (.lit true)⟩,⟨0,(.var 147),(.lit 0),1,.int .i64 (.cell 142 (.var 150) (.lit 0) 3)⟩,⟨0,(.var 147),(.lit 0),2,.int .i64 (.cell 142 (.var 150) (.lit 0) 2)⟩] (.lit 0))],bk:=[(10,yc 15 3)]}))
     (.call 3 {lo:=0,az:=0,iv:=[(3,yv 148),(2,yv 147),(0,yv 119)],bv:=[(1,yw 146)],ct:=[(4,.up {r:=149,n1:=.var 147,s1:=3,ks:=[.bool,.int .i64,.int .i64]} 0 [] (.lit 0))],bk:=[(0,yc 10 3)]} 151 <|
      .br (.var 151)
      (.ob (.inr .i64 (.add (.var 118) (.lit 1))) <|
       .ob (.inr .i64 (.add (.var 119) (.lit 1))) <|
       .fin {lo:=77,az:=4,iv:=[(143,yv 144),(138,yv 139),(137,yv 138),(136,yv 137),(135,yv 136),(134,yv 135),(133,yv 134),(132,yv 133),(130,yv 131),(129,yv 130),(126,yv 127),(125,yv 126),(142,yv 143),(123,yv 124),(122,yv 123),(120,yv 121),(118,yv 119),(117,yv 118),(116,yv 117),(115,yv 116),(113,yv 114),(112,yv 113),(111,yv 112),(110,yv 111),(108,.add (.var 119) (.lit 1)),(107,.add (.var 118) (.lit 1)),(106,.lit 0),(105,.lit 0),(103,yv 119),(102,yv 118),(101,yv 117),(100,yv 116),(99,.lit 24),(98,.lit 0),(97,.lit 0),(96,.lit 3),(95,.lit 14),(94,yv 95),(93,yv 94),(92,yv 93),(91,yv 92),(89,yv 90),(88,yv 89),(87,yv 88),(86,yv 87),(84,yv 85),(83,yv 84),(82,yv 83),(81,yv 82),(80,yv 81),(79,yv 80),(78,yv 79),(77,yv 78)],bv:=[(140,yw 141),(139,yw 140),(131,yw 132),(128,yw 129),(124,yw 125),(121,yw 122),(119,yw 120),(114,yw 115),(109,.lit false),(104,yw 120),(90,yw 91),(85,yw 86)],ct:=[(143,yu 144 133 7 yN 0),(142,yu 143 144 7 yN 0),(141,yu 142 123 5 yW 0),(127,yl 128 9 5 50 yW 0)],bk:=[(6,yc 9 7),(5,yc 8 7),(4,yc 7 5)]})
      (.fin {lo:=77,az:=4,iv:=[(143,yv 144),(138,yv 139),(137,yv 138),(136,yv 137),(135,yv 136),(134,yv 135),(133,yv 134),(132,yv 133),(130,yv 131),(129,yv 130),(126,yv 127),(125,yv 126),(142,yv 143),(123,yv 124),(122,yv 123),(120,yv 121),(118,yv 119),(117,yv 118),(116,yv 117),(115,yv 116),(113,yv 114),(112,yv 113),(111,yv 112),(110,yv 111),(108,.lit 0),(107,.lit 0),(106,.lit 0),(105,.lit 0),(103,.lit 0),(102,.lit 0),(101,.lit 0),(100,.lit 0),(99,.lit 24),(98,.lit 0),(97,.lit 0),(96,.lit 1),(95,.lit 15),(94,yv 95),(93,yv 94),(92,yv 93),(91,yv 92),(89,yv 90),(88,yv 89),(87,yv 88),(86,yv 87),(84,yv 85),(83,yv 84),(82,yv 83),(81,yv 82),(80,yv 81),(79,yv 80),(78,yv 79),(77,yv 78)],bv:=[(140,yw 141),(139,yw 140),(131,yw 132),(128,yw 129),(124,yw 125),(121,yw 122),(119,yw 120),(114,yw 115),(109,.lit false),(104,.lit false),(90,yw 91),(85,yw 86)],ct:=[(143,yu 144 133 7 yN 0),(142,yu 143 144 7 yN 0),(141,yu 142 123 5 yW 0),(127,yl 128 9 5 50 yW 0)],bk:=[(6,yc 9 7),(5,yc 8 7),(4,yc 7 5)]})))))
  (.br (.aC (.var 22) (.lit 14))
   (.fin {lo:=77,az:=4,iv:=[(143,yv 70),(138,yv 65),(137,yv 64),(136,yv 63),(135,yv 62),(134,yv 61),(133,yv 60),(132,yv 59),(130,yv 57),(129,yv 56),(126,yv 53),(125,yv 52),(142,yv 69),(123,yv 50),(122,yv 49),(120,yv 47),(118,yv 45),(117,yv 44),(116,yv 43),(115,yv 42),(113,yv 40),(112,yv 39),(111,yv 38),(110,yv 37),(108,.lit 0),(107,.lit 0),(106,.lit 0),(105,.lit 0),(103,.lit 0),(102,.lit 0),(101,.lit 0),(100,.lit 0),(99,.lit 24),(98,.lit 0),(97,.lit 0),(96,.lit 1),(95,.lit 15),(94,yv 21),(93,yv 20),(92,yv 19),(91,yv 18),(89,yv 16),(88,yv 15),(87,yv 14),(86,yv 13),(84,yv 11),(83,yv 10),(82,yv 9),(81,yv 8),(80,yv 7),(79,yv 6),(78,yv 5),(77,yv 4)],bv:=[(140,yw 67),(139,yw 66),(131,yw 58),(128,yw 55),(124,yw 51),(121,yw 48),(119,yw 46),(114,yw 41),(109,.lit false),(104,.lit false),(90,yw 17),(85,yw 12)],ct:=[(143,yu 70 59 7 yN 0),(142,yu 69 70 7 yN 0),(141,yu 68 49 5 yW 0),(127,yl 54 9 5 50 yW 0)],bk:=[(6,yc 3 7),(5,yc 2 7),(4,yc 1 5)]})
   (.br (.aC (.var 22) (.lit 15))
    (.call 2 {lo:=0,az:=0,iv:=[(70,yv 70),(65,yv 65),(64,yv 64),(63,yv 63),(62,yv 62),(61,yv 61),(60,yv 60),(59,yv 59),(57,yv 57),(56,yv 56),(3,yv 3),(2,yv 2),(1,yv 1),(0,yv 0),(53,yv 53),(52,yv 52),(69,yv 69),(50,yv 50),(49,yv 49),(47,yv 47),(45,yv 74),(44,yv 73),(43,yv 72),(42,yv 71),(40,yv 40),(39,yv 39),(38,yv 38),(37,yv 37),(35,yv 35),(34,yv 34),(33,yv 33),(32,yv 32),(30,yv 30),(29,yv 29),(28,yv 28),(27,yv 27),(26,yv 26),(25,yv 25),(24,yv 24),(23,yv 23),(22,yv 22),(21,yv 21),(20,yv 20),(19,yv 19),(18,yv 18),(16,yv 16),(15,yv 15),(14,yv 14),(13,yv 13),(11,yv 11),(10,yv 10),(9,yv 9),(8,yv 8),(7,yv 7),(6,yv 6),(5,yv 5),(4,yv 4)],bv:=[(67,yw 67),(66,yw 66),(58,yw 58),(55,yw 55),(51,yw 51),(48,yw 48),(46,yw 75),(41,yw 41),(36,yw 36),(31,yw 31),(17,yw 17),(12,yw 12)],ct:=[(70,yu 70 59 7 yN 0),(69,yu 69 70 7 yN 0),(68,yu 68 49 5 yW 0),(54,yl 54 9 5 50 yW 0)],bk:=[(3,yc 3 7),(2,yc 2 7),(1,yc 1 5),(0,yb 0)]} 77 <|
     .fin {lo:=77,az:=4,iv:=[(143,yv 143),(138,yv 138),(137,yv 137),(136,yv 136),(135,yv 135),(134,yv 134),(133,yv 133),(132,yv 132),(130,yv 130),(129,yv 129),(126,yv 126),(125,yv 125),(142,yv 142),(123,yv 123),(122,yv 122),(120,yv 120),(118,yv 118),(117,yv 117),(116,yv 116),(115,yv 115),(113,yv 113),(112,yv 112),(111,yv 111),(110,yv 110),(108,yv 108),(107,yv 107),(106,yv 106),(105,yv 105),(103,yv 103),(102,yv 102),(101,yv 101),(100,yv 100),(99,yv 99),(98,yv 98),(97,yv 97),(96,yv 96),(95,yv 95),(94,yv 94),(93,yv 93),(92,yv 92),(91,yv 91),(89,yv 89),(88,yv 88),(87,yv 87),(86,yv 86),(84,yv 84),(83,yv 83),(82,yv 82),(81,yv 81),(80,yv 80),(79,yv 79),(78,yv 78),(77,yv 77)],bv:=[(140,yw 140),(139,yw 139),(131,yw 131),(128,yw 128),(124,yw 124),(121,yw 121),(119,yw 119),(114,yw 114),(109,yw 109),(104,yw 104),(90,yw 90),(85,yw 85)],ct:=[(143,yu 143 132 7 yN 0),(142,yu 142 143 7 yN 0),(141,yu 141 122 5 yW 0),(127,yl 127 9 5 50 yW 0)],bk:=[(6,yc 7 7),(5,yc 6 7),(4,yc 5 5)]})
    (.fin {lo:=77,az:=4,iv:=[(143,yv 70),(138,yv 65),(137,yv 64),(136,yv 63),(135,yv 62),(134,yv 61),(133,yv 60),(132,yv 59),(130,yv 57),(129,yv 56),(126,yv 53),(125,yv 52),(142,yv 69),(123,yv 50),(122,yv 49),(120,yv 47),(118,yv 45),(117,yv 44),(116,yv 43),(115,yv 42),(113,yv 40),(112,yv 39),(111,yv 38),(110,yv 37),(108,yv 35),(107,yv 34),(106,yv 33),(105,yv 32),(103,yv 30),(102,yv 29),(101,yv 28),(100,yv 27),(99,yv 26),(98,yv 25),(97,yv 24),(96,yv 23),(95,yv 22),(94,yv 21),(93,yv 20),(92,yv 19),(91,yv 18),(89,yv 16),(88,yv 15),(87,yv 14),(86,yv 13),(84,yv 11),(83,yv 10),(82,yv 9),(81,yv 8),(80,yv 7),(79,yv 6),(78,yv 5),(77,yv 4)],bv:=[(140,yw 67),(139,yw 66),(131,yw 58),(128,yw 55),(124,yw 51),(121,yw 48),(119,yw 46),(114,yw 41),(109,yw 36),(104,yw 31),(90,yw 17),(85,yw 12)],ct:=[(143,yu 70 59 7 yN 0),(142,yu 69 70 7 yN 0),(141,yu 68 49 5 yW 0),(127,yl 54 9 5 50 yW 0)],bk:=[(6,yc 3 7),(5,yc 2 7),(4,yc 1 5)]}))))
theorem OE:exec tab OD 8000 [] (fV fF.f fF.nv [(.aC (.var 22) (.lit 16),false)] fF.gl fF.hp fF.args)=BA:=by kernel_rfl
def Vz (ρ:Env):Prop:=(ρ.iv 59≤1000000∧(ρ.iv 22=13→ρ.iv 49≤99999))∧(ρ.iv 22=13→ρ.iv 0=4→Dl ρ 42)∧(ρ.iv 22=13→0≤ρ.iv 47∧ρ.iv 47≤99999)∧(ρ.iv 22=15→ρ.iv 0=4)
def yX (ρ:Env):Prop:=bJ ρ 4∧vF ρ∧Vz ρ∧Dl ρ 71∧¬ρ.iv 22=16
def RS.behind (s:RS):RS:=if s.ak≠4 then s.eY else if RS.may s.clock.num (s.seen.map RS.iP)=true then s.advance 14 else s.era 15
theorem Mk {r:RS} {x:Rp} (h:r.step=13):r.bK x=match ({r with seen:=r.seen ++ [x.word]}:RS).look (r.index+1) with | some t=>t | none=>({r with seen:=r.seen ++ [x.word]}:RS).behind:=by
 unfold RS.bK
 rw [if_neg (by omega),if_pos h]
 rfl
theorem Fx {post:Env→Prop} {Γ:List (Env→Prop)} {ρ:Env} {nv:Nat} {σ:Sub} {k:Out} (r:RS) (n:Int) (h4:4≤nv) (hst:∀i,i<4→(σ.af ρ).iv i=ρ.iv i) (hpre:rP (σ.af ρ)) (hr:ae (σ.af ρ) 0 4=r) (hn:(σ.af ρ).iv 71=n) (K:Env→Prop)
  (hK:∀e,bJ (ρ.join nv e) nv→(ρ.join nv e).bv (nv+67)=(r.look n).isSome→ae (ρ.join nv e) 0 nv=(r.look n).getD r→K (ρ.join nv e)) (h:∀q,K q→Sat post uq Γ q k):Sat post uq Γ ρ (.call 0 σ nv k):=by
 refine Sat.gX (c:=iY) rfl hpre K (fun e hq=>?_) h
 have hs:∀i,i<4→(σ.af ρ).iv i=(ρ.join nv e).iv i:=fun i hi=>by
  rw [hst i hi]
  exact (if_pos (show i<nv by omega)).symm
 replace hq:sP (aG σ 72 nv ρ (ρ.join nv e)):=hq
 obtain ⟨q1,q2,q3⟩:=hq
 have e0:ae (aG σ 72 nv ρ (ρ.join nv e)) 0 4=r:=(zF (by decide)).trans hr
 have e1:(aG σ 72 nv ρ (ρ.join nv e)).iv 71=n:=hn
 have e2:(aG σ 72 nv ρ (ρ.join nv e)).bv 139=(ρ.join nv e).bv (nv+67):=jV 72 67
 rw [wR] at q1
 rw [e0,e1,e2] at q2
 rw [e0,e1,Ki (by decide) hs] at q3
 exact hK e q1 q2 q3
def Dn (ρ:Env):Prop:=(bJ ρ 78∧ρ.iv 123≤100000∧Dl ρ 116)∧((ae ρ 0 78).ak=4∧(ae ρ 0 4).bK (aI ρ 71)=(ae ρ 0 78).behind)∧(0≤ρ.iv 150∧ρ.iv 150≤ρ.iv 123)∧(aZ ρ 146∧ρ.iv 147=ρ.iv 150)∧il ρ 149 (ρ.iv 147)=((dV ρ 142 (ρ.iv 123)).take (ρ.iv 150).toNat).map RS.iP
set_option maxHeartbeats 4000000 in
theorem OG (ρ:Env) (hpre:yX ρ.num):Sat nT uq [] ρ BA:=by
 replace hpre:yX ρ:=hpre
 obtain ⟨⟨o1,o2,o3⟩,hs,hsb,hx,hne⟩:=hpre
 have XP:=hsb
 obtain ⟨⟨f1,f2⟩,hw,hj,RV⟩:=XP
 have hx':=hx
 obtain ⟨⟨x1,x2⟩,x3,x4⟩:=hx'
 have VA:=o1
 obtain ⟨p1,p2,p3,p4⟩:=VA
 simp only [Nat.reduceAdd] at x1 x2 x3 x4 p1 p2 p3 p4
 unfold BA
 refine Sat.br (fun c=>?_) (fun c=>?_)
 ·simp only [Da] at c
  have hm:(ae ρ 0 4).bK (aI ρ 71)=(({ae ρ 0 4 with clock:=av ρ 71}:RS).look 0).getD ({ae ρ 0 4 with clock:=av ρ 71}:RS):=by unfold RS.bK;exact if_pos c
  refine Fx ({ae ρ 0 4 with clock:=av ρ 71}:RS) 0 (by decide) (jE rfl rfl rfl rfl) ⟨⟨o1,o2,o3⟩,hs,Int.le_refl 0,(show (0:Int)≤1000000 by decide)⟩ (RS.ext' rfl rfl rfl rfl rfl rfl bg bB rfl rfl rfl rfl bE rfl bz rfl rfl) rfl (fun u=>bJ u 77∧ae u 0 77=(ae u 0 4).bK (aI u 71)) (fun e h1 _ h2=>⟨h1,h2.trans hm.symm⟩) fun u hu=>?_
  obtain ⟨⟨o1,o2,o3⟩,hm⟩:=hu
  exact Sat.fin ⟨⟨(by first | exact o1 | exact o2 | exact o3 | exact aj rfl rfl | assumption),(by first | exact o2 | exact ⟨aj rfl rfl,Int.le_refl 0,.inl rfl⟩ | assumption),(by first | exact o1 | exact o2 | exact o3 | exact aj rfl rfl | assumption)⟩,Eq.trans (b:=(ae u 0 77)) (RS.ext' rfl rfl rfl rfl rfl rfl bg bB rfl rfl rfl rfl bE rfl bz rfl rfl) (Eq.symm (hm.symm))⟩
 simp only [Da] at c
 refine Sat.br (fun c2=>?_) (fun c2=>?_)
 ·simp only [Da] at c2
  replace f2:=f2 c2
  refine Sat.ob (by simp only [Da];omega) (Sat.ob (decide_eq_true p2) (Sat.ob (decide_eq_true p3) (Sat.ob (decide_eq_true p4) (Sat.ob (aO o1) (Sat.yM (fun q=>(bJ q 4∧vF q∧Vz q)∧q.iv 22=13) (fun e=>⟨⟨⟨o1,o2,o3⟩,hs,hsb⟩,c2⟩) fun q hq hb=>?_)))))
  obtain ⟨⟨⟨o1,o2,o3⟩,hs,⟨f1,f2⟩,hw,hj,RV⟩,c2⟩:=hq
  replace f2:=f2 c2
  replace hw:=hw c2
  obtain ⟨j1,j2⟩:=hj c2
  simp only [Da] at hb
  have VA:=o1
  obtain ⟨p1,p2,p3,p4⟩:=VA
  simp only [Nat.reduceAdd] at p1 p2 p3 p4
  have hm:=Mk (r:=ae q 0 4) (x:=aI q 71) c2
  have Wy:∀v:Env,v.iv 49=q.iv 49+1→(∀i:Nat,(i:Int)<q.iv 49→aD (v.ic 68 i 0) (v.bc 68 i 0)=aD (q.ic 68 i 0) (q.bc 68 i 0))→aD (v.ic 68 (q.iv 49).toNat 0) (v.bc 68 (q.iv 49).toNat 0)=av q 71→dV v 68 (v.iv 49)=(ae q 0 4).seen ++ [(aI q 71).word]:=fun v h1 h2 h3=>LJ p2 h1 h2 h3
  refine Sat.ob (by simp only [Da];omega) ?_
  refine Fx ({ae q 0 4 with seen:=(ae q 0 4).seen ++ [(aI q 71).word]}:RS) ((ae q 0 4).index+1) (by decide) (jE rfl rfl rfl rfl) ⟨⟨⟨fun h=>(by cases h),by show 0≤q.iv 49+1;omega,hb.1,hb.2⟩,o2,o3⟩,hs,(by show 0≤q.iv 47+1;omega),(by show q.iv 47+1≤1000000;omega)⟩
   (RS.ext' rfl rfl rfl rfl rfl rfl (Wy _ rfl (fun i hi=>(by have hn:¬(q.iv 49).toNat=i:=fun h=>(by omega);simp [aD,-Int.pred_toNat,Sub.af,assoc,CV.I,CV.B,ah,ai,aa.I,aa.B,SC.I,SC.B,IE.den,BE.den,hn])) (by simp [aD,av,-Int.pred_toNat,Sub.af,assoc,CV.I,CV.B,ah,ai,aa.I,aa.B,SC.I,SC.B,IE.den,BE.den])) bB rfl rfl rfl rfl bE rfl bz rfl rfl) rfl
   (fun u=>bJ u 78∧(u.iv 119=u.iv 45∧u.iv 118=u.iv 44∧u.iv 123=u.iv 49+1∧u.iv 126=u.iv 52∧u.iv 133=u.iv 59∨u.bv 145=true)∧((u.iv 0=4→Dl u 42)∧u.iv 59≤1000000∧u.iv 49≤99999)∧(u.bv 145=true→ae u 0 78=(ae u 0 4).bK (aI u 71))∧(u.bv 145=false→(ae u 0 4).bK (aI u 71)=(ae u 0 78).behind)) (fun e h1 h2 h3=>?_) fun u hu=>?_
  ·cases hl:({ae q 0 4 with seen:=(ae q 0 4).seen ++ [(aI q 71).word]}:RS).look ((ae q 0 4).index+1) with
   | some t =>
    rw [hl] at h2 h3 hm
    refine ⟨h1,.inr h2,⟨hw,f1,f2⟩,fun _=>h3.trans hm.symm,fun hf=>?_⟩
    replace hf:(q.join 78 e).bv 145=false:=hf
    rw [show (q.join 78 e).bv 145=true from h2] at hf
    cases hf
   | none =>
    rw [hl] at h2 h3 hm
    have h3':ae (q.join 78 e) 0 78=({ae q 0 4 with seen:=(ae q 0 4).seen ++ [(aI q 71).word]}:RS):=h3
    have k1:(dV (q.join 78 e) 142 ((q.join 78 e).iv 123)).length=((ae q 0 4).seen ++ [(aI q 71).word]).length:=congrArg (fun r:RS=>r.seen.length) h3'
    have k2:(aW (q.join 78 e) 144 ((q.join 78 e).iv 133)).length=(aW q 70 (q.iv 59)).length:=congrArg (fun r:RS=>r.notes.length) h3'
    have k3:(gY (q.join 78 e) 143 ((q.join 78 e).iv 143) ((q.join 78 e).iv 126)).length=(gY q 69 (q.iv 69) (q.iv 52)).length:=congrArg (fun r:RS=>r.bI.length) h3'
    have k4:(q.join 78 e).iv 119=q.iv 45:=congrArg (fun r:RS=>r.clock.num) h3'
    have k5:(q.join 78 e).iv 118=q.iv 44:=congrArg (fun r:RS=>r.clock.tag) h3'
    have z1:=h1.1.2.1
    have z2:=h1.2.1.1.2.1
    have z3:=h1.2.2.2.1
    have y2:=o2.1.2.1
    have y3:=o3.2.1
    rw [qB,List.length_append,List.length_singleton] at k1
    rw [show (ae q 0 4).seen.length=(q.iv 49).toNat from qB] at k1
    rw [jW,jW] at k2
    simp only [gY,List.length_map,List.length_range] at k3
    simp only [Nat.reduceAdd] at z1 z2 z3 y2 y3
    refine ⟨h1,.inl ⟨k4,k5,?_,?_,?_⟩,⟨hw,f1,f2⟩,fun hf=>?_,fun _=>?_⟩
    ·show (q.join 78 e).iv 123=q.iv 49+1;omega
    ·show (q.join 78 e).iv 126=q.iv 52;omega
    ·show (q.join 78 e).iv 133=q.iv 59;omega
    ·replace hf:(q.join 78 e).bv 145=true:=hf
     rw [show (q.join 78 e).bv 145=false from h2] at hf
     cases hf
    ·exact hm.trans (congrArg RS.behind h3'.symm)
  obtain ⟨⟨o1,o2,o3⟩,hk,⟨hw,f1,f2⟩,hy,hn⟩:=hu
  refine Sat.br (fun cb=>?_) (fun cb=>?_)
  ·have hm:=hy cb
   exact Sat.fin ⟨⟨(by first | exact o1 | exact o2 | exact o3 | exact aj rfl rfl | assumption),(by first | exact o2 | exact ⟨aj rfl rfl,Int.le_refl 0,.inl rfl⟩ | assumption),(by first | exact o1 | exact o2 | exact o3 | exact aj rfl rfl | assumption)⟩,Eq.trans (b:=(ae u 0 78)) (RS.ext' rfl rfl rfl rfl rfl rfl bg bB rfl rfl rfl rfl bE rfl bz rfl rfl) (Eq.symm (hm.symm))⟩
  ·have hm:=hn cb
   obtain ⟨k1,k2,k3,k4,k5⟩:=hk.resolve_right (fun h=>by rw [show u.bv 145=false from cb] at h;cases h)
   refine Sat.br (fun c4=>?_) (fun c4=>?_)
   ·simp only [Da] at c4
    have hm2:(ae u 0 4).bK (aI u 71)=(ae u 0 78).eY:=hm.trans (if_pos c4)
    refine eB (c:=jK) rfl (ae u 0 78) (ae u 0 78).eY (by decide) (by decide) (jE rfl rfl rfl rfl) ⟨⟨o1,o2,o3⟩,⟨by show u.iv 133≤1000000;omega,.inr (by show u.iv 123≤100000;omega)⟩,fun h=>absurd h c4⟩ (RS.ext' rfl rfl rfl rfl rfl rfl bg bB rfl rfl rfl rfl bE rfl bz rfl rfl) (fun e hq hr=>⟨hq.1,by rw [←hr];exact hq.2⟩) (fun v=>bJ v 146∧ae v 0 146=(ae v 0 4).bK (aI v 71)) (fun e h1 h2=>⟨h1,h2.trans hm2.symm⟩) fun v hv=>?_
    obtain ⟨⟨o1,o2,o3⟩,hm⟩:=hv
    exact Sat.fin ⟨⟨(by first | exact o1 | exact o2 | exact o3 | exact aj rfl rfl | assumption),(by first | exact o2 | exact ⟨aj rfl rfl,Int.le_refl 0,.inl rfl⟩ | assumption),(by first | exact o1 | exact o2 | exact o3 | exact aj rfl rfl | assumption)⟩,Eq.trans (b:=(ae v 0 146)) (RS.ext' rfl rfl rfl rfl rfl rfl bg bB rfl rfl rfl rfl bE rfl bz rfl rfl) (Eq.symm (hm.symm))⟩
   ·simp only [Da] at c4
    obtain ⟨⟨w1,w2⟩,w3,w4⟩:=hw c4
    simp only [Nat.reduceAdd] at w1 w2 w3 w4
    have z1:=o1.2.1
    simp only [Nat.reduceAdd] at z1
    refine Sat.ob (aO o1) (Sat.ob (decide_eq_true z1) (Sat.ug Dn (fun r=>(r.iv 123-r.iv 150).toNat) (fun _=>True) ⟨⟨⟨o1,o2,o3⟩,by show u.iv 123≤100000;omega,⟨by show -1000000000000≤u.iv 118;omega,by show u.iv 118≤1000000000000;omega⟩,by show -1000000000000≤u.iv 119;omega,by show u.iv 119≤1000000000000;omega⟩,⟨c4,hm⟩,⟨Int.le_refl 0,z1⟩,⟨aj rfl rfl,rfl⟩,rfl⟩ (fun _=>trivial) fun q _ hI=>?_))
    replace hI:Dn q:=hI
    have hI':=hI
    obtain ⟨⟨⟨o1,o2,o3⟩,hl1,⟨w1,w2⟩,w3,w4⟩,⟨he,hm⟩,⟨i1,i2⟩,⟨os,hl⟩,hrow⟩:=hI
    simp only [Nat.reduceAdd] at w1 w2 w3 w4
    refine Sat.br (fun c=>?_) (fun c=>?_)
    ·simp only [Da] at c
     refine Sat.ob (bR o1 (by simp only [Nat.reduceAdd];omega)) (Sat.ob (decide_eq_true i1) ?_)
     obtain ⟨p1,p2,p3,p4⟩:=id os
     refine Sat.br (fun c2=>?_) (fun c2=>?_)
     ·simp only [Da] at c2
      refine Sat.ob (by simp only [Da];omega) (Sat.ob (decide_eq_true p2) (Sat.ob (decide_eq_true p3) (Sat.ob (decide_eq_true p4) (Sat.ob (aO os) (Sat.yM (fun u=>Dn u∧u.iv 150<u.iv 123∧(u.iv 123-(u.iv 150+1)).toNat<(q.iv 123-q.iv 150).toNat∧u.bc 142 (u.iv 150).toNat 0 4=false) (fun e=>⟨hI',c,by show (q.iv 123-(q.iv 150+1)).toNat<(q.iv 123-q.iv 150).toNat;omega,c2⟩) fun u hu hb=>?_)))))
      obtain ⟨⟨hA,hB,⟨i1,i2⟩,⟨os,hl⟩,hrow⟩,c,hd,hc⟩:=hu
      simp only [Da] at hb
      obtain ⟨p1,p2,p3,p4⟩:=id os
      replace p2:0≤u.iv 147:=p2
      have hf2:=hA.2.1
      refine Sat.ob (by simp only [Da];omega) (Sat.back rfl ⟨⟨hA,hB,⟨?_,?_⟩,⟨⟨fun h=>(by cases h),?_,hb.1,hb.2⟩,?_⟩,?_⟩,hd⟩)
      ·show 0≤u.iv 150+1;omega
      ·show u.iv 150+1≤u.iv 123;omega
      ·show 0≤u.iv 147+1;omega
      ·show u.iv 147+1=u.iv 150+1;omega
      ·refine (rq (ρ:=u) (r:=149) (n:=u.iv 147) (w:=RS.iP (aD (u.ic 142 (u.iv 150).toNat 0) (u.bc 142 (u.iv 150).toNat 0))) p2 rfl (fun i hi=>?_) ?_).trans ?_
       ·have hn:¬(u.iv 147).toNat=i:=fun h=>by omega
        simp [kR,aD,-Int.pred_toNat,Sub.af,assoc,CV.I,CV.B,ah,ai,aa.I,aa.B,SC.I,SC.B,IE.den,BE.den,hn]
       ·simp [kR,aD,RS.iP,Sp.zero,-Int.pred_toNat,Sub.af,assoc,CV.I,CV.B,ah,ai,aa.I,aa.B,SC.I,SC.B,IE.den,BE.den,hl,hc]
       ·show il u 149 (u.iv 147) ++ _=((dV u 142 (u.iv 123)).take (u.iv 150+1).toNat).map RS.iP
        rw [hrow,show (u.iv 150+1).toNat=(u.iv 150).toNat+1 by omega,oL (by omega),List.map_append]
        rfl
     ·simp only [Da] at c2
      refine Sat.ob (by simp only [Da];omega) (Sat.ob (decide_eq_true p2) (Sat.ob (decide_eq_true p3) (Sat.ob (decide_eq_true p4) (Sat.ob (aO os) (Sat.yM (fun u=>Dn u∧u.iv 150<u.iv 123∧(u.iv 123-(u.iv 150+1)).toNat<(q.iv 123-q.iv 150).toNat∧u.bc 142 (u.iv 150).toNat 0 4=true) (fun e=>⟨hI',c,by show (q.iv 123-(q.iv 150+1)).toNat<(q.iv 123-q.iv 150).toNat;omega,c2⟩) fun u hu hb=>?_)))))
      obtain ⟨⟨hA,hB,⟨i1,i2⟩,⟨os,hl⟩,hrow⟩,c,hd,hc⟩:=hu
      simp only [Da] at hb
      obtain ⟨p1,p2,p3,p4⟩:=id os
      replace p2:0≤u.iv 147:=p2
      have hf2:=hA.2.1
      refine Sat.ob (by simp only [Da];omega) (Sat.back rfl ⟨⟨hA,hB,⟨?_,?_⟩,⟨⟨fun h=>(by cases h),?_,hb.1,hb.2⟩,?_⟩,?_⟩,hd⟩)
      ·show 0≤u.iv 150+1;omega
      ·show u.iv 150+1≤u.iv 123;omega
      ·show 0≤u.iv 147+1;omega
      ·show u.iv 147+1=u.iv 150+1;omega
      ·refine (rq (ρ:=u) (r:=149) (n:=u.iv 147) (w:=RS.iP (aD (u.ic 142 (u.iv 150).toNat 0) (u.bc 142 (u.iv 150).toNat 0))) p2 rfl (fun i hi=>?_) ?_).trans ?_
       ·have hn:¬(u.iv 147).toNat=i:=fun h=>by omega
        simp [kR,aD,-Int.pred_toNat,Sub.af,assoc,CV.I,CV.B,ah,ai,aa.I,aa.B,SC.I,SC.B,IE.den,BE.den,hn]
       ·simp [kR,aD,RS.iP,-Int.pred_toNat,Sub.af,assoc,CV.I,CV.B,ah,ai,aa.I,aa.B,SC.I,SC.B,IE.den,BE.den,hl,hc]
       ·show il u 149 (u.iv 147) ++ _=((dV u 142 (u.iv 123)).take (u.iv 150+1).toNat).map RS.iP
        rw [hrow,show (u.iv 150+1).toNat=(u.iv 150).toNat+1 by omega,oL (by omega),List.map_append]
        rfl
    ·simp only [Da] at c
     rw [xc (by omega)] at hrow
     refine Sat.gX (c:=lY) rfl ⟨os,by show q.iv 147≤1000000;omega⟩ (fun u=>(bJ u 78∧Dl u 116)∧(ae u 0 4).bK (aI u 71)=if u.bv 151=true then (ae u 0 78).advance 14 else (ae u 0 78).era 15) (fun e hq=>?_) fun u hu=>?_
     ·replace hq:zK (aG _ 5 151 q (q.join 151 e)):=hq
      refine ⟨⟨⟨o1,o2,o3⟩,⟨w1,w2⟩,w3,w4⟩,hm.trans ?_⟩
      have hq2:(q.join 151 e).bv 151=RS.may (q.iv 119) (il q 149 (q.iv 147)):=by
       refine Eq.trans (jV (σ:=_) (ρ:=q) (ρ':=q.join 151 e) (N:=151) 5 0).symm (hq.trans ?_)
       exact congrArg (RS.may (q.iv 119)) (Dm rfl fun i=>by simp [kR,aG,Env.join,-Int.pred_toNat,Sub.af,assoc,CV.I,CV.B,ah,ai,aa.I,aa.B,SC.I,SC.B,IE.den,BE.den])
      rw [hrow] at hq2
      unfold RS.behind
      rw [if_neg (show ¬(ae q 0 78).ak≠4 from fun h=>h he)]
      show (if RS.may (q.iv 119) ((dV q 142 (q.iv 123)).map RS.iP)=true then (ae q 0 78).advance 14 else (ae q 0 78).era 15)=_
      rw [←hq2]
      rfl
     obtain ⟨⟨⟨o1,o2,o3⟩,⟨w1,w2⟩,w3,w4⟩,hm⟩:=hu
     simp only [Nat.reduceAdd] at w1 w2 w3 w4
     refine Sat.br (fun cb=>?_) (fun cb=>?_)
     ·rw [if_pos (show u.bv 151=true from cb)] at hm
      exact Sat.ob (by simp only [Da];omega) (Sat.ob (by simp only [Da];omega) (Sat.fin ⟨⟨(by first | exact o1 | exact o2 | exact o3 | exact aj rfl rfl | assumption),(by first | exact o2 | exact ⟨aj rfl rfl,Int.le_refl 0,.inl rfl⟩ | assumption),(by first | exact o1 | exact o2 | exact o3 | exact aj rfl rfl | assumption)⟩,Eq.trans (b:=(ae u 0 78).advance 14) (RS.ext' rfl rfl rfl rfl rfl rfl bg bB rfl rfl rfl rfl bE rfl bz rfl rfl) (Eq.symm (hm))⟩))
     ·rw [if_neg (show ¬u.bv 151=true from fun h=>by rw [show u.bv 151=false from cb] at h;cases h)] at hm
      exact Sat.fin ⟨⟨(by first | exact o1 | exact o2 | exact o3 | exact aj rfl rfl | assumption),(by first | exact o2 | exact ⟨aj rfl rfl,Int.le_refl 0,.inl rfl⟩ | assumption),(by first | exact o1 | exact o2 | exact o3 | exact aj rfl rfl | assumption)⟩,Eq.trans (b:=(ae u 0 78).era 15) (RS.ext' rfl rfl rfl rfl rfl rfl bg bB rfl rfl rfl rfl bE rfl bz rfl rfl) (Eq.symm (hm))⟩
 simp only [Da] at c2
 refine Sat.br (fun c3=>?_) (fun c3=>?_)
 ·simp only [Da] at c3
  have hm:(ae ρ 0 4).bK (aI ρ 71)=(ae ρ 0 4).era 15:=by unfold RS.bK;exact (if_neg c).trans ((if_neg c2).trans (if_pos c3))
  exact Sat.fin ⟨⟨(by first | exact o1 | exact o2 | exact o3 | exact aj rfl rfl | assumption),(by first | exact o2 | exact ⟨aj rfl rfl,Int.le_refl 0,.inl rfl⟩ | assumption),(by first | exact o1 | exact o2 | exact o3 | exact aj rfl rfl | assumption)⟩,Eq.trans (b:=(ae ρ 0 4).era 15) (RS.ext' rfl rfl rfl rfl rfl rfl bg bB rfl rfl rfl rfl bE rfl bz rfl rfl) (Eq.symm (hm))⟩
 simp only [Da] at c3
 refine Sat.br (fun c4=>?_) (fun c4=>?_)
 ·simp only [Da] at c4
  have hm:(ae ρ 0 4).bK (aI ρ 71)=({ae ρ 0 4 with clock:=av ρ 71}:RS).eY:=by unfold RS.bK;exact (if_neg c).trans ((if_neg c2).trans ((if_neg c3).trans (if_pos c4)))
  refine eB (c:=jK) rfl ({ae ρ 0 4 with clock:=av ρ 71}:RS) ({ae ρ 0 4 with clock:=av ρ 71}:RS).eY (by decide) (by decide) (jE rfl rfl rfl rfl) ⟨⟨o1,o2,o3⟩,⟨f1,.inl (RV c4)⟩,fun _=>hx⟩ (RS.ext' rfl rfl rfl rfl rfl rfl bg bB rfl rfl rfl rfl bE rfl bz rfl rfl) (fun e hq hr=>⟨hq.1,by rw [←hr];exact hq.2⟩) (fun v=>bJ v 77∧ae v 0 77=(ae v 0 4).bK (aI v 71)) (fun e h1 h2=>⟨h1,h2.trans hm.symm⟩) fun v hv=>?_
  obtain ⟨⟨o1,o2,o3⟩,hm⟩:=hv
  exact Sat.fin ⟨⟨(by first | exact o1 | exact o2 | exact o3 | exact aj rfl rfl | assumption),(by first | exact o2 | exact ⟨aj rfl rfl,Int.le_refl 0,.inl rfl⟩ | assumption),(by first | exact o1 | exact o2 | exact o3 | exact aj rfl rfl | assumption)⟩,Eq.trans (b:=(ae v 0 77)) (RS.ext' rfl rfl rfl rfl rfl rfl bg bB rfl rfl rfl rfl bE rfl bz rfl rfl) (Eq.symm (hm.symm))⟩
 ·simp only [Da] at c4
  have hm:(ae ρ 0 4).bK (aI ρ 71)=ae ρ 0 4:=by unfold RS.bK;exact (if_neg c).trans ((if_neg c2).trans ((if_neg c3).trans ((if_neg c4).trans (if_neg hne))))
  exact Sat.fin ⟨⟨(by first | exact o1 | exact o2 | exact o3 | exact aj rfl rfl | assumption),(by first | exact o2 | exact ⟨aj rfl rfl,Int.le_refl 0,.inl rfl⟩ | assumption),(by first | exact o1 | exact o2 | exact o3 | exact aj rfl rfl | assumption)⟩,Eq.trans (b:=(ae ρ 0 4)) (RS.ext' rfl rfl rfl rfl rfl rfl bg bB rfl rfl rfl rfl bE rfl bz rfl rfl) (Eq.symm (hm))⟩
theorem Ml:bC Tryd.prog fF yX nT :=
 dJ fu (E:=OD) (cs:=uq) rfl IZ di rfl OE (by kernel_rfl) (fun ρ h p hp=>by
   obtain ⟨-,-,-,-,h⟩:=h
   simp only [List.mem_cons,List.not_mem_nil,or_false] at hp
   subst hp
   exact beq_eq_false_iff_ne.2 h) OG
def xg (ρ:Env):Prop:=bJ ρ 4∧vF ρ∧Vz ρ∧Dl ρ 71∧(-1000000000000≤ρ.iv 61∧ρ.iv 61≤1000000000000)∧(ρ.iv 22=16→∃d l,(ae ρ 0 4).bI=d :: l∧d∈(ae ρ 0 4).notes)
theorem OH:bC Tryd.prog fF xg nT:=Vw Ml OC fun ρ h=>by
 obtain ⟨h1,h2,h3,h4,h5,h6⟩:=h
 by_cases hs:ρ.iv 22=16
 ·exact .inr ⟨h1,⟨hs,h3.1.1,h5⟩,h6 hs⟩
 ·exact .inl ⟨h1,h2,h3,h4,hs⟩
end Go.Proofs.YthomdlajobnmnaaDoor
