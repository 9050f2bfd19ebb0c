/- part 11 of the proof -/
import Derived.Shelf.RegionOpenPlain
import Derived.WalkKit
import Derived.Deep.LoopGhost
import Derived.Deep.RegionLaw
import Derived.Lib.Walk
import Derived.Lib.SliceRun
import Derived.Lib.LazyBuf
import Derived.Deep.OwnRows
import Derived.Test.YthomdlajobnmnaaGreatDoorX10
import Derived.Test.YthomdlajobnmnaaGreatDoorX7
import Derived.Test.YthomdlajobnmnaaGreatDoorX8
set_option linter.unusedSimpArgs false
set_option linter.unusedVariables false
namespace Go.Proofs.YthomdlajobnmnaaGreatDoor
open Go.Rex Go.Lib Go.RowKit
noncomputable def X5:Ex:={sched:=sched,loops:=[agp],fin:=kK}
def Hg:Out :=
 .ob (.or (.not (.var 0)) (.ag (.var 1) y0)) <|
 .ob (.ah y0 (.var 1)) <|
 .loop 11 {lo:=11,ae:=2,iv:=[yz 11]} <|
 .br (.aY (.var 11) (.var 1))
 (.ob (.not (.var 0)) <|
  .ob (.ah y0 (.var 11)) <|
  .br (.and (.and (.ag (.var 4) (.cell 3 (.var 11) y0 0)) (.and (.ag (.var 5) (.cell 3 (.var 11) y0 1)) (.and (.ag (.var 6) (.cell 3 (.var 11) y0 2)) (.and (.ag (.var 7) (.cell 3 (.var 11) y0 3)) (.beq (.var 8) (.cell 3 (.var 11) y0 4)))))) (.and (.ag (.var 9) (.cell 3 (.var 11) y0 5)) (.ag (.var 10) (.cell 3 (.var 11) y0 6))))
  (.fin {lo:=11,ae:=1,iv:=[(11,yv 11)]})
  (.ob (.inr .i64 (.add (.var 11) y1)) <|
   .back 0 {lo:=11,ae:=2,iv:=[(11,.add (.var 11) y1)]}))
 (.fin {lo:=11,ae:=1,iv:=[(11,.lit (-1))]})
theorem X6:exec tab X5 8000 [] (bZ kK.f kK.nv [] kK.gl kK.hp kK.args)=Hg:=by kernel_rfl
def Bu (ρ:Env) (v:Nat):Nt:=⟨aC ρ v,ρ.iv (v+5),ρ.iv (v+6)⟩
def wY (ρ:Env):Prop:=(bE ρ 0/\ρ.iv 1<=1000000)/\Bu ρ 4∈aN ρ 3 (ρ.iv 1)
def xN (ρ:Env):Prop:=(0<=ρ.iv 11/\ρ.iv 11<ρ.iv 1)/\(aN ρ 3 (ρ.iv 1)).erase (Bu ρ 4)=(aN ρ 3 (ρ.iv 1)).take (ρ.iv 11).toNat ++ (aN ρ 3 (ρ.iv 1)).drop ((ρ.iv 11).toNat+1)
def Qf (ρ:Env):Prop:=wY ρ/\(0<=ρ.iv 11/\ρ.iv 11<=ρ.iv 1)/\∀j:Nat,(j:Int)<ρ.iv 11->bB ρ 3 j≠Bu ρ 4
theorem X7 {a b:Nt}:a=b↔(a.ref.slot=b.ref.slot/\a.ref.gen=b.ref.gen/\a.ref.tag=b.ref.tag/\a.ref.num=b.ref.num/\a.ref.mark=b.ref.mark)/\a.bU=b.bU/\a.iY=b.iY:=by
 obtain ⟨⟨a1,a2,a3,a4,a5⟩,a6,a7⟩:=a
 obtain ⟨⟨d,h,i,g,e⟩,f,c⟩:=b
 simp only [Nt.mk.injEq,Wd.mk.injEq]
theorem Qg {α:Type} [DecidableEq α] {x:α}:∀{l:List α} {i:Nat},l[i]?=some x->(∀j,j<i->l[j]?≠some x)->l.erase x=l.take i ++ l.drop (i+1)
 | [],i,h,_=>by simp at h
 | a :: l,0,h,_=>by
  simp at h
  subst h
  simp
 | a :: l,i+1,h,c=>by
  have b:=c 0 (by omega)
  simp only [List.getElem?_cons_zero,ne_eq,Option.some.injEq] at b
  rw [List.erase_cons_tail (by simpa using b),Qg (l:=l) (i:=i) (by simpa using h) (λj d=>by simpa using c (j+1) (by omega))]
  rfl
theorem uB {ρ:Env} {r:Nat} {n:Int} {i:Nat} (h:(i:Int)<n):(aN ρ r n)[i]?=some (bB ρ r i):=by
 unfold aN
 rw [List.getElem?_map,List.getElem?_range (by omega)]
 rfl
theorem X8 (ρ:Env) (a:wY ρ.num):Sat xN [] [] ρ Hg:=by
 replace a:wY ρ:=a
 have d:=a
 obtain ⟨⟨f,k⟩,-⟩:=a
 unfold Hg
 refine Sat.ob (dP f) (Sat.ob (decide_eq_true f.2.1) (Sat.qD Qf (λr=>(r.iv 1-r.iv 11).toNat) (λ_=>True) ⟨d,⟨Int.le_refl 0,f.2.1⟩,λj b=>?_⟩ (λ_=>trivial) λq _ e=>?_))
 ·exfalso
  replace b:(j:Int)<0:=b
  omega
 replace e:Qf q:=e
 obtain ⟨⟨⟨f,k⟩,i⟩,⟨m,o⟩,e⟩:=e
 refine Sat.br (λc=>?_) (λc=>?_)
 ·simp only [Da] at c
  refine Sat.ob (uo f (by simp only [Nat.reduceAdd];omega)) (Sat.ob (decide_eq_true m) (Sat.br (λc2=>?_) (λc2=>?_)))
  ·simp only [Da] at c2
   refine Sat.fin ⟨⟨m,c⟩,?_⟩
   show (aN q 3 (q.iv 1)).erase (Bu q 4)=(aN q 3 (q.iv 1)).take (q.iv 11).toNat ++ (aN q 3 (q.iv 1)).drop ((q.iv 11).toNat+1)
   refine Qg ?_ λj b=>?_
   ·rw [uB (by omega)]
    refine congrArg some (X7.2 ?_)
    simp only [bB,Bu,bu,aC]
    simp only [and_assoc] at c2 ⊢
    obtain ⟨a1,a2,a3,a4,a5,a6,a7⟩:=c2
    exact ⟨a1.symm,a2.symm,a3.symm,a4.symm,a5.symm,a6.symm,a7.symm⟩
   ·rw [uB (by omega)]
    intro h
    exact e j (by omega) (Option.some.inj h)
  ·simp only [Da] at c2
   have g:bB q 3 (q.iv 11).toNat≠Bu q 4:=λh=>by
    have l:=X7.1 h
    simp only [bB,Bu,bu,aC] at l
    obtain ⟨⟨a1,a2,a3,a4,a5⟩,a6,a7⟩:=l
    simp_all
   refine oS (Sat.back rfl ⟨⟨⟨⟨f,k⟩,i⟩,⟨?_,?_⟩,λj b=>?_⟩,?_⟩)
   ·show 0<=q.iv 11+1;omega
   ·show q.iv 11+1<=q.iv 1;omega
   ·replace b:(j:Int)<q.iv 11+1:=b
    show bB q 3 j≠Bu q 4
    by_cases h:j=(q.iv 11).toNat
    ·subst h;exact g
    ·exact e j (by omega)
   ·show (q.iv 1-(q.iv 11+1)).toNat<(q.iv 1-q.iv 11).toNat
    omega
 ·simp only [Da] at c
  exfalso
  unfold aN at i
  obtain ⟨j,b,n⟩:=List.mem_map.1 i
  have:=List.mem_range.1 b
  exact e j (by omega) n
theorem X9:aK Tryz.prog kK wY xN :=
 bq bM (E:=X5) (cs:=[]) rfl (λk pre post h=>by cases h) aO rfl X6 (by kernel_rfl) (λb _ p a=>by cases a) X8
def qo:List Value:=[.int .i64 0,.int .i64 0,.int .i64 0,.int .i64 0,.bool false,.int .i64 0,.int .i64 0]
theorem Ya:(Tryz.prog.info? 207).map (·.size)=some 7:=by kernel_rfl
theorem Vp (w:World) (ty:TypeId) (b o c:Nat) (f:∀j,j<7->(w.cell? ⟨b,o+j,none⟩).isSome=true) (e:∀j,j<7->w.frozen? ⟨b,o+j,none⟩=false) :
  (Builtin.clear_ #[144] ty #[.slice (some ⟨b,o,none⟩) 1 c]).run Tryz.prog w=.ok (.tuple #[]) (w.setCells b o qo):=by
 have a:=run_storeCells_cells (P:=Tryz.prog) b o qo 0 w (by simpa [qo] using f) (by simpa [qo] using e) (by intro v d;simp [qo] at d;rcases d with rfl | rfl | rfl <;> rfl)
 simp only [Nat.add_zero] at a
 have g:(Builtin.zeroCells (Value.agg #[Value.int IntKind.i64 0,Value.int IntKind.i64 0,Value.int IntKind.i64 0,Value.int IntKind.i64 0,Value.bool false,Value.int IntKind.i64 0,Value.int IntKind.i64 0]).cells 1).toList=qo:=by kernel_rfl
 simp [Builtin.clear_,run_underlying Tryz.underlying144,Tryz.zeroValue207,g,a]
set_option maxHeartbeats 4000000 in
set_option maxRecDepth 1000000 in
theorem aaL (b n cap i j:Nat) (r:j=i+1) (f:Nat->Value) (w:World) (z:w.rowIs b 207 (cap * 7) f) (P:j<=n) (N:n<=cap) (O:cap<=9223372036854775807) (D:∀p,p<n * 7->(f p).oneCell'=true) :
  Calls Tryz.prog 123 #[.slice (some ⟨b,0,none⟩) n cap,.int .i64 i,.int .i64 j] w λe w'=>e=.returned (.slice (some ⟨b,0,none⟩) (n-1) cap) /\
   w'=(w.drew.setCells b (i * 7) ((List.range ((n-j) * 7)).map λt=>f (j * 7+t))).setCells b ((n-1) * 7) qo:=by
 have mixed:Tryz.prog.follows .mixedOrders=true:=bM.mixed
 obtain ⟨y,C,B⟩:∃y,Tryz.prog.info? 207=some y/\y.size=7:=by
  have:=Ya
  simpa using this
 have G:i<j:=by omega
 obtain ⟨news,a⟩:∃news,news=(List.range ((n-j) * 7)).map λt=>f (j * 7+t):=⟨_,rfl⟩
 have hlen:news.length=(n-j) * 7:=by rw [a];simp
 have m:∀t,t<(n-j) * 7->news[t]?=some (f (j * 7+t)):=by
  intro t o
  rw [a,List.getElem?_map,List.getElem?_range o]
  rfl
 have c:∀p,p<cap * 7->w.drew.cell? ⟨b,p,none⟩=some (f p):=λp E=>z.cell E
 have q:∀p,p<cap * 7->w.drew.frozen? ⟨b,p,none⟩=false:=λp E=>z.frozen p
 obtain ⟨A,M,s⟩:∃A:Addr,(if cap=j then some (⟨b,0,none⟩:Addr) else some ⟨b,j * 7,none⟩)=some A/\Hid (∀t u,news[t]?=some u->w.drew.cell? (A.add t)=some u):=by
  by_cases h:cap=j
  ·refine ⟨⟨b,0,none⟩,by simp [h],λt u g=>?_⟩
   have F:news.length=0:=by rw [hlen];omega
   rw [List.length_eq_zero_iff.1 F] at g
   simp at g
  ·refine ⟨⟨b,j * 7,none⟩,by simp [h],λt u g=>?_⟩
   have o:t<(n-j) * 7:=by
    have:=(List.getElem?_eq_some_iff.1 g).1
    rwa [hlen] at this
   rw [m t o] at g
   rw [Addr.add_lit]
   exact (c _ (by omega)).trans g
 have s1:Hid (news.length=(n-j) * 7):=hlen
 have s2:Hid (∀u∈news,u.oneCell'=true):=by
  intro u g
  rw [a] at g
  obtain ⟨x,J,rfl⟩:=List.mem_map.1 g
  have:=List.mem_range.1 J
  exact D _ (by omega)
 have s3:Hid (∀t,t<news.length->(w.drew.cell? ⟨b,0+i * 7+t,none⟩).isSome=true/\w.drew.frozen? ⟨b,0+i * 7+t,none⟩=false):=by
  intro t o
  rw [hlen] at o
  rw [Nat.zero_add]
  exact ⟨by rw [c _ (by omega)];rfl,q _ (by omega)⟩
 obtain ⟨l,d⟩:∃l,l=w.drew.setCells b (0+i * 7) news:=⟨_,rfl⟩
 have k:=rowIs_setCells news (0+i * 7) w.drew f z.drew
 rw [<-d] at k
 have L:∀ty,(Builtin.clear_ #[144] ty #[.slice (some ⟨b,(i+(n-j)) * 7,none⟩) (n-(i+(n-j))) (cap-(i+(n-j)))]).run Tryz.prog l=.ok (.tuple #[]) (l.setCells b ((n-1) * 7) qo):=by
  intro ty
  rw [show n-(i+(n-j))=1 by omega,show i+(n-j)=n-1 by omega]
  exact Vp l ty b ((n-1) * 7) _ (λt o=>by rw [k.cell (by omega)];rfl) (λt o=>k.frozen _)
 have H:Hid (l=w.drew.setCells b (0+i * 7) news):=d
 have X:Hid (l=w.drew.setCells b (i * 7) ((List.range ((n-j) * 7)).map λt=>f (j * 7+t))):=by
  show l=_
  rw [<-a,d,Nat.zero_add]
 have I:i<=cap:=by omega
 have K:j<=cap:=by omega
 have Y:Hid (j=i+1):=r
 clear d k m a hlen c q z D r
 go_enter Tryz.func123,Tryz.ntmps123
 go_wp2_with fail
 go_region_law_o (refine step_append_room rfl (.tmp 22) (.tmp 25) 144 rfl 207 y 7 Tryz.underlying144 C B b 0 i cap (by simp [Act.eval,Act.put]) A (n-j) (cap-j) news (by simp [Act.eval,Act.put]) s1.out s.out s2.out (by omega) s3.out ?_;rw [<-H.out])
 go_wp2
 go_ret
 refine ⟨?_,?_⟩
 ·have:=Y.out
  rw [show n-1=i+(n-j) by omega]
  rfl
 ·rw [<-X.out]
theorem wZ (b:Nat):∀(a:List Value) (o:Nat) (w:World),(w.setCells b o a).os=w.os/\(w.setCells b o a).tape=w.tape/\(w.setCells b o a).output=w.output/\(w.setCells b o a).heap.size=w.heap.size/\∀k,k≠b->(w.setCells b o a).heap[k]?=w.heap[k]?
 | [],_,_=>⟨rfl,rfl,rfl,rfl,λ_ _=>rfl⟩
 | v :: r,o,w=>by
  obtain ⟨f,d,i,e,g⟩:=wZ b r (o+1) (w.setCell ⟨b,o,none⟩ v)
  refine ⟨f,d,i,e.trans (by simp [World.setCell]),λk c=>(g k c).trans ?_⟩
  simp only [World.setCell]
  rw [Array.getElem?_modify,if_neg (λh=>c h.symm)]
def xO (ρ:Env):Prop:=bE ρ 0/\(0<=ρ.iv 4/\ρ.iv 4<ρ.iv 1)/\ρ.iv 5=ρ.iv 4+1
def vD (ρ:Env):Prop:=aN ρ 6 (ρ.iv 1-1)=(aN ρ 3 (ρ.iv 1)).take (ρ.iv 4).toNat ++ (aN ρ 3 (ρ.iv 1)).drop ((ρ.iv 4).toNat+1)
def j5 (ρ:Env):Env where
 iv:=ρ.iv
 bv:=ρ.bv
 vv:=ρ.vv
 ic:=λr=>if r=6 then λa _ c=>if a<(ρ.iv 4).toNat then ρ.ic 3 a 0 c else ρ.ic 3 (a+1) 0 c else ρ.ic r
 bc:=λr=>if r=6 then λa _ c=>if a<(ρ.iv 4).toNat then ρ.bc 3 a 0 c else ρ.bc 3 (a+1) 0 c else ρ.bc r
 vc:=ρ.vc
theorem RF {ρ:Env} (h:xO ρ):vD (j5 ρ):=by
 obtain ⟨o,⟨e,g⟩,f⟩:=h
 show aN (j5 ρ) 6 (ρ.iv 1-1)=(aN (j5 ρ) 3 (ρ.iv 1)).take (ρ.iv 4).toNat ++ (aN (j5 ρ) 3 (ρ.iv 1)).drop ((ρ.iv 4).toNat+1)
 have a:∀i,bB (j5 ρ) 3 i=bB ρ 3 i:=λi=>rfl
 have d:∀i,bB (j5 ρ) 6 i=if i<(ρ.iv 4).toNat then bB ρ 3 i else bB ρ 3 (i+1):=λi=>by
  by_cases h:i<(ρ.iv 4).toNat
  ·simp only [bB,bu,j5,if_true,if_pos h]
  ·simp only [bB,bu,j5,if_true,if_neg h]
 refine List.ext_getElem? λk=>?_
 by_cases c:(k:Int)<ρ.iv 1-1
 ·rw [uB c,d]
  by_cases h:k<(ρ.iv 4).toNat
  ·rw [if_pos h,List.getElem?_append_left (by rw [List.length_take,jN];omega),List.getElem?_take,if_pos h,uB (by omega),a]
  ·have b:((aN (j5 ρ) 3 (ρ.iv 1)).take (ρ.iv 4).toNat).length=(ρ.iv 4).toNat:=by rw [List.length_take,jN];omega
   rw [if_neg h,List.getElem?_append_right (by rw [b];omega),b,List.getElem?_drop,show (ρ.iv 4).toNat+1+(k-(ρ.iv 4).toNat)=k+1 by omega,uB (by omega),a]
 ·rw [List.getElem?_eq_none (by rw [jN];omega),List.getElem?_eq_none (by rw [List.length_append,List.length_take,List.length_drop,jN];omega)]
theorem ag1 (ρ:Env) (r a c:Nat) (b e j:Nat) (g:aU) (f:g.ks=kN) (d:j<7):(g.base ρ b e j).oneCell'=true:=by
 unfold aU.base
 rw [f]
 match j,d with
 | 0,_=>rfl
 | 1,_=>rfl
 | 2,_=>rfl
 | 3,_=>rfl
 | 4,_=>rfl
 | 5,_=>rfl
 | 6,_=>rfl
set_option maxRecDepth 4000 in
set_option maxHeartbeats 400000 in
theorem Vq:aK Tryz.prog eT xO vD:=by
 refine ⟨⟨_,Tryz.func123,by kernel_rfl,by kernel_rfl⟩,λd I w jI _ m=>?_⟩
 replace m:xO d:=m
 have H:=m
 obtain ⟨⟨T,n1,n2,n3⟩,⟨i1,i2⟩,i3⟩:=m
 replace T:d.bv 0=true->d.iv 1=0:=T
 replace n1:0<=d.iv 1:=n1
 replace n2:d.iv 1<=d.iv 2:=n2
 replace n3:d.iv 2<=9223372036854775807:=n3
 have R:d.bv 0=false:=by
  cases h:d.bv 0
  ·rfl
  ·have:=T h;omega
 obtain ⟨W,s,Pw,D⟩:=jI.ak 0 _ rfl (by simp [rW,SB.dead,BE.den,R]) rfl
 replace Pw:=Pw.cells rfl
 obtain ⟨-,G⟩:=D.cap (.var 2) 7 rfl
 replace G:s.size=(d.iv 2).toNat * 7:=G
 have Z:=D.sg 0 _ rfl
 generalize B:(I 0).block=b at *
 have l:∀a c:Nat,(a:Int)<d.iv 1->c<7->s[a * 7+c]?=some (({r:=3,n1:=.var 1,s1:=7,ks:=kN}:aU).base d a 0 c):=λa c ha hc=>by
  have:=Z a 0 c ha (by decide) hc
  rw [show a * 7+c=a * 7+0 * 0+0+c by omega]
  exact this
 have E:w.rowIs b 207 ((d.iv 2).toNat * 7) (λp=>s[p]?.getD default):=⟨s,Pw,G,λp hp=>by
   show s[p]?=some (s[p]?.getD default)
   rw [Array.getElem?_eq_getElem (by omega)]
   rfl⟩
 have P:=aaL b (d.iv 1).toNat (d.iv 2).toNat (d.iv 4).toNat (d.iv 5).toNat (by omega) _ w E (by omega) (by omega) (by omega) (λp hp=>by
   have h7:=Nat.div_add_mod p 7
   have N:=Nat.mod_lt p (show 0<7 by decide)
   have:=l (p / 7) (p % 7) (by omega) N
   rw [show p / 7 * 7+p % 7=p by omega] at this
   simp only [this,Option.getD_some]
   exact ag1 d 0 0 0 _ _ _ _ rfl N)
 have q:(eT.args.map (·.den d I)).toArray=#[.slice (some ⟨b,0,none⟩) (d.iv 1).toNat (d.iv 2).toNat,.int .i64 (d.iv 4).toNat,.int .i64 (d.iv 5).toNat]:=by
  have e4:((d.iv 4).toNat:Int)=d.iv 4:=Int.toNat_of_nonneg i1
  have e5:((d.iv 5).toNat:Int)=d.iv 5:=Int.toNat_of_nonneg (by omega)
  rw [e4,e5]
  simp [eT,mP,slC,SW.den,SC.den,SA.den,SA.off,IE.den,BE.den,R,iv,W,Addr.add]
 rw [q]
 have hf:eT.f=123:=rfl
 rw [hf]
 refine P.mono ?_
 clear P q hf
 intro e w' S
 obtain ⟨he,S⟩:=S
 have V:=rowIs_setCells ((List.range (((d.iv 1).toNat-(d.iv 5).toNat) * 7)).map λt=>(λp=>s[p]?.getD default) ((d.iv 5).toNat * 7+t)) ((d.iv 4).toNat * 7) w.drew _ E.drew
 have K:=rowIs_setCells qo (((d.iv 1).toNat-1) * 7) _ _ V
 rw [<-S] at K
 obtain ⟨M,hc1,hc2,hc3⟩:=K
 have hA:bY eT.nv eT.hp.length d (j5 d) I I:=by
  refine ⟨λi A=>rfl,λi A=>rfl,λi A=>rfl,λi A=>?_,λi A=>?_,λi A=>rfl,λi A=>rfl⟩
  ·exact if_neg (λh:i=6=>absurd A (by rw [h];decide))
  ·exact if_neg (λh:i=6=>absurd A (by rw [h];decide))
 have U:=wZ b ((List.range (((d.iv 1).toNat-(d.iv 5).toNat) * 7)).map λt=>(λp=>s[p]?.getD default) ((d.iv 5).toNat * 7+t)) ((d.iv 4).toNat * 7) w.drew
 have L:=wZ b qo (((d.iv 1).toNat-1) * 7) (w.drew.setCells b ((d.iv 4).toNat * 7) ((List.range (((d.iv 1).toNat-(d.iv 5).toNat) * 7)).map λt=>(λp=>s[p]?.getD default) ((d.iv 5).toNat * 7+t)))
 rw [<-S] at L
 obtain ⟨a1,a2,a3,a4,a5⟩:=U
 obtain ⟨b1,b2,b3,b4,b5⟩:=L
 have F:jB d I eT.hp b:=⟨0,_,rfl,rfl,by simp [rW,SB.dead,BE.den,R],B.symm⟩
 refine ⟨j5 d,I,hA,?_,⟨λi j x y A hj dx dy rx he'=>?_,λk sb z hd Q=>?_,λk sb z hd Q=>?_⟩,⟨b1.trans a1,b2.trans a2,b3.trans a3,by rw [b4,a4];exact Nat.le_refl _,λk z hn=>?_⟩,λk sb z ho hd=>?_,RF H⟩
 ·rw [he]
  have e1:(d.iv 1-1).toNat=(d.iv 1).toNat-1:=by omega
  simp [eT,SV.den,SW.den,SC.den,SA.den,SA.off,IE.den,BE.den,j5,R,W,Addr.add,-Int.pred_toNat,e1]
 ·have C:i=0/\j=0:=by
   have o:=(List.getElem?_eq_some_iff.1 A).1
   have l2:=(List.getElem?_eq_some_iff.1 hj).1
   simp [eT] at o l2
   omega
  rw [C.1,C.2]
 ·have C:k=0:=by
   have o:=(List.getElem?_eq_some_iff.1 z).1
   simp [eT] at o
   exact o
  subst C
  simp [eT] at z
  subst z
  refine ⟨by rw [B];exact W,M,by rw [B,hc1];exact jl.oJ rfl,⟨λu hu=>(by cases hu),λh=>(by cases h),λe n h=>?_,λp c h=>(by simp at h),λgi g Y f x2 j h1 h2 J=>?_⟩⟩
  ·cases h
   exact ⟨by show 0<=d.iv 2;omega,hc2⟩
  ·have X:gi=0:=by
    have o:=(List.getElem?_eq_some_iff.1 Y).1
    simpa using o
   subst X
   simp at Y
   subst Y
   replace h1:(f:Int)<d.iv 1-1:=h1
   replace h2:x2<1:=h2
   replace J:j<7:=J
   obtain rfl:x2=0:=by omega
   show M[f * 7+0 * 0+0+j]?=some (aU.base (j5 d) {r:=6,n1:=.sub (.var 1) (.lit 1),s1:=7,ks:=kN} f 0 j)
   rw [show f * 7+0 * 0+0+j=f * 7+j by omega,hc3 _ (by omega)]
   dsimp only
   have eb:∀y:Nat,y=(if f<(d.iv 4).toNat then f else f+1)->aU.base (j5 d) {r:=6,n1:=.sub (.var 1) (.lit 1),s1:=7,ks:=kN} f 0 j=aU.base d {r:=3,n1:=.var 1,s1:=7,ks:=kN} y 0 j:=by
    intro y hy
    subst hy
    by_cases h:f<(d.iv 4).toNat
    ·rw [if_pos h]
     match j,J with
     | 0,_ | 1,_ | 2,_ | 3,_ | 4,_ | 5,_ | 6,_=>simp [aU.base,j5,kN,-Int.lt_toNat,h]
    ·rw [if_neg h]
     match j,J with
     | 0,_ | 1,_ | 2,_ | 3,_ | 4,_ | 5,_ | 6,_=>simp [aU.base,j5,kN,-Int.lt_toNat,h]
   rw [iN]
   by_cases h:f<(d.iv 4).toNat
   ·rw [iN]
    show some (s[f * 7+j]?.getD default)=_
    rw [l f j (by omega) J,eb f (if_pos h).symm]
    rfl
   ·rw [if_pos (by simp only [List.length_map,List.length_range];omega),List.getElem?_map,List.getElem?_range (by omega)]
    show some (s[(d.iv 5).toNat * 7+(f * 7+j-(d.iv 4).toNat * 7)]?.getD default)=_
    rw [show (d.iv 5).toNat * 7+(f * 7+j-(d.iv 4).toNat * 7)=(f+1) * 7+j by omega,l (f+1) j (by omega) J,eb (f+1) (if_neg h).symm]
    rfl
 ·have C:k=0:=by
   have o:=(List.getElem?_eq_some_iff.1 z).1
   simp [eT] at o
   exact o
  subst C
  simp [eT] at z
  subst z
  cases Q
 ·have O:k≠b:=λh=>hn (h ▸ F)
  rw [b5 k O,a5 k O]
  rfl
 ·have C:k=0:=by
   have o:=(List.getElem?_eq_some_iff.1 z).1
   simp [eT] at o
   exact o
  subst C
  rw [B]
  exact .inr F
end Go.Proofs.YthomdlajobnmnaaGreatDoor
namespace Go.Proofs.YthomdlajobnmnaaGreatDoor
open Go.Rex
theorem gG {P:Program} {k:dJ} {pre d e post:Env->Prop} (g:aK P k d post) (i:aK P k e post) (h:∀ρ,pre ρ->d ρ\/e ρ):aK P k pre post :=
 ⟨g.fn,λρ f w a b c=>(h _ c).elim (g.run ρ f w a b) (i.run ρ f w a b)⟩
def xP:mo:=[(jT,vS,wX),(gK,P6,Bi),(lU,vT,Hf),(oQ,Eb,Fg),(kK,wY,xN),(eT,xO,vD)]
theorem Qi:∀k pre post,(k,pre,post)∈xP->kX k=true/\aK Tryz.prog k pre post:=by
 intro k pre post h
 simp only [xP,List.mem_cons,List.not_mem_nil,or_false,Prod.mk.injEq] at h
 rcases h with ⟨rfl,rfl,rfl⟩ | ⟨rfl,rfl,rfl⟩ | ⟨rfl,rfl,rfl⟩ | ⟨rfl,rfl,rfl⟩ | ⟨rfl,rfl,rfl⟩ | ⟨rfl,rfl,rfl⟩
 ·exact ⟨by kernel_rfl,P8⟩
 ·exact ⟨by kernel_rfl,P7⟩
 ·exact ⟨by kernel_rfl,aaK⟩
 ·exact ⟨by kernel_rfl,aeA⟩
 ·exact ⟨by kernel_rfl,X9⟩
 ·exact ⟨by kernel_rfl,Vq⟩
def ry (ρ:Env):Prop:=dw ρ 77/\aa ρ 0 77=(aa ρ 0 4).cz (az ρ 71)
noncomputable def Yb:Ex:={sched:=sched,loops:=[],cons:=[jT,gK,lU,oQ,kK,eT],fin:=fH}
abbrev acU:List (Nat × CV):=[(70,.up {r:=78,n1:=.sub (.var 59) y1,s1:=7,ks:=yN} 0 [] y0),(69,yu 69 70 7 yN 0),(68,yu 68 49 5 yW 0),(54,yl 54 9 5 50 yW 0)]
abbrev acV:List (Nat × IE):=yo [(143,yv 145)]<|yr 138 140 7<|yo [(130,yv 132),(129,yv 131),(126,yv 128),(125,yv 127),(142,yv 144),(123,yv 125),(122,yv 124),(120,yv 122)]<|yr 118 120 4<|yr 113 115 4<|yr 108 110 4<|yr 103 105 13<|yr 89 91 4<|yr 84 86 8 []
abbrev acW:List (Nat × BE):=[(140,yw 142),(139,yw 141),(131,yw 133),(128,yw 130),(124,yw 126),(121,yw 123),(119,yw 121),(114,yw 116),(109,yw 111),(104,yw 106),(90,yw 92),(85,yw 87)]
abbrev acX:List (Nat × CV):=[(143,yu 145 134 7 yN 0),(142,yu 144 145 7 yN 0),(141,yu 143 124 5 yW 0),(127,yl 129 9 5 50 yW 0)]
def Hl:Out :=
 .ob (.not (.var 51)) <|
 .ob (.aY y0 (.var 52)) <|
 .ob (.ah y0 (.var 69)) <|
 .ob (.aY (.var 69) (.var 70)) <|
 .call 4 {lo:=0,ae:=0,iv:=[(10,.cell 69 (.var 69) y0 6),(9,.cell 69 (.var 69) y0 5),(7,.cell 69 (.var 69) y0 3),(6,.cell 69 (.var 69) y0 2),(5,.cell 69 (.var 69) y0 1),(4,.cell 69 (.var 69) y0 0),(2,yv 60),(1,yv 59)],bv:=[(8,.cell 69 (.var 69) y0 4),(0,yw 58)],ct:=[(3,yu 70 59 7 yN 0)],bk:=[(0,yc 3 7)]} 77 <|
 .ob (.inr .i64 (.add (.var 77) y1)) <|
 .call 5 {lo:=0,ae:=0,iv:=[(5,.add (.var 77) y1),(4,yv 77),(2,yv 60),(1,yv 59)],bv:=[(0,yw 58)],ct:=[(3,yu 70 59 7 yN 0)],bk:=[(0,yc 3 7)]} 78 <|
 .ob (.inr .i64 (.add (.var 61) y1)) <|
 .br (.ag y1 (.var 53))
 (.ob (.ah y1 (.var 52)) <|
  .ob (.ah (.var 52) (.var 53)) <|
  .ob (.ah y0 (.var 52)) <|
  .call 1 {lo:=0,ae:=0,iv:=yU [(61,.add (.var 61) y1),(59,.sub (.var 59) y1),(53,.sub (.var 53) y1),(52,.sub (.var 52) y1)]<|yD 0 yG,bv:=yE 0 mQ,ct:=acU,bk:=[(3,yc 3 7),(2,yc 2 7),(1,yc 1 5),(0,yb 0)]} 79 <|
  .fin {lo:=77,ae:=4,iv:=acV,bv:=acW,ct:=acX,bk:=[(6,yc 7 7),(5,yc 6 7),(4,yc 5 5)]})
 (.ob (.ah y1 (.var 52)) <|
  .ob (.ah (.var 52) (.var 53)) <|
  .ob (.ah y0 (.var 52)) <|
  .call 1 {lo:=0,ae:=0,iv:=yU [(61,.add (.var 61) y1),(59,.sub (.var 59) y1),(53,.sub (.var 53) y1),(52,.sub (.var 52) y1),(69,.add (.var 69) y1)]<|yD 0 yG,bv:=yE 0 mQ,ct:=acU,bk:=[(3,yc 3 7),(2,yc 2 7),(1,yc 1 5),(0,yb 0)]} 79 <|
  .fin {lo:=77,ae:=4,iv:=acV,bv:=acW,ct:=acX,bk:=[(6,yc 7 7),(5,yc 6 7),(4,yc 5 5)]})
theorem Yc:exec tab Yb 8000 [] (bZ fH.f fH.nv [(.ag (.var 22) (.lit 16),true)] fH.gl fH.hp fH.args)=Hl:=by kernel_rfl
def Hm (ρ:Env):Prop:=dw ρ 4/\(ρ.iv 22=16/\ρ.iv 59<=1000000/\-1000000000000<=ρ.iv 61/\ρ.iv 61<=1000000000000)/\∃d l,(aa ρ 0 4).bK=d :: l/\d∈(aa ρ 0 4).notes
set_option maxHeartbeats 4000000 in
theorem Yd (ρ:Env) (j:Hm ρ.num):Sat ry xP [] ρ Hl:=by
 replace j:Hm ρ:=j
 obtain ⟨⟨o,g,m⟩,⟨I,y,C,F⟩,d,l,hd,k⟩:=j
 have B:=g.1.2
 have s:=g.2
 have H:=m
 obtain ⟨J,O,K,L⟩:=H
 simp only [Nat.reduceAdd] at B s O K L
 have a:0<ρ.iv 52:=by
  rcases Int.lt_or_eq_of_le B.1 with h | h
  ·exact h
  ·rw [show (aa ρ 0 4).bK=[] from oV h.symm] at hd
   cases hd
 have t:(aa ρ 0 4).bK=bB ρ 69 (ρ.iv 69).toNat :: gX ρ 69 (ρ.iv 69+1) (ρ.iv 52-1):=Jw a s.1
 rw [t] at hd
 obtain ⟨rfl,rfl⟩:=List.cons.inj hd
 have n:(aa ρ 0 4).cz (az ρ 71)=({aa ρ 0 4 with notes:=(aa ρ 0 4).notes.erase (bB ρ 69 (ρ.iv 69).toNat),freed:=ρ.iv 61+1,bK:=gX ρ 69 (ρ.iv 69+1) (ρ.iv 52-1)}:RS).ek:=by
  unfold RS.cz
  have z:(aa ρ 0 4).step=16:=I
  rw [if_neg (by rw [z];decide),if_neg (by rw [z];decide),if_neg (by rw [z];decide),if_neg (by rw [z];decide),if_pos z,t]
  rfl
 replace k:bB ρ 69 (ρ.iv 69).toNat∈aN ρ 70 (ρ.iv 59):=k
 unfold Hl
 refine Sat.ob (uo g.1 (by simp only [Nat.reduceAdd];omega)) (oS (oS (oS ?_)))
 refine Sat.dF (c:=kK) rfl ⟨⟨m,y⟩,?_⟩ (λq=>dw q 4/\((-1000000000000<=q.iv 61/\q.iv 61<=1000000000000)/\q.iv 59<=1000000/\0<q.iv 52)/\(0<=q.iv 77/\q.iv 77<q.iv 59) /\
     (aN q 70 (q.iv 59)).erase (bB q 69 (q.iv 69).toNat)=(aN q 70 (q.iv 59)).take (q.iv 77).toNat ++ (aN q 70 (q.iv 59)).drop ((q.iv 77).toNat+1) /\
     (aa q 0 4).cz (az q 71)=({aa q 0 4 with notes:=(aa q 0 4).notes.erase (bB q 69 (q.iv 69).toNat),freed:=q.iv 61+1,bK:=gX q 69 (q.iv 69+1) (q.iv 52-1)}:RS).ek) (λe f=>?_) λq f=>?_
 ·refine cast (congr (congrArg (λ(l:List Nt) (d:Nt)=>d∈l) ?_) ?_) k
  ·exact eU rfl λi=>by simp [bB,bu,-Int.pred_toNat,Na]
  ·simp [bB,Bu,aC,bu,-Int.pred_toNat,Na]
 ·replace f:xN (aV _ 11 77 ρ (ρ.join 77 e)):=f
  obtain ⟨⟨G,D⟩,P⟩:=f
  rw [show (aV _ 11 77 ρ (ρ.join 77 e)).iv 11=(ρ.join 77 e).iv 77 from uA 11 0] at G D P
  refine ⟨⟨o,g,m⟩,⟨⟨C,F⟩,y,a⟩,⟨G,D⟩,?_,n⟩
  refine Eq.trans (congr (congrArg List.erase (eU rfl λi=>?_)) ?_) (P.trans (congrArg (λl:List Nt=>l.take ((ρ.join 77 e).iv 77).toNat ++ l.drop (((ρ.join 77 e).iv 77).toNat+1)) (eU rfl λi=>?_)))
  ·simp [bB,bu,aV,Env.join,-Int.pred_toNat,Na]
  ·rfl
  ·simp [bB,bu,aV,Env.join,-Int.pred_toNat,Na]
 obtain ⟨⟨o,g,m⟩,⟨⟨C,F⟩,y,a⟩,⟨G,D⟩,E,n⟩:=f
 refine oS ?_
 refine Sat.dF (c:=eT) rfl ⟨m,⟨G,D⟩,rfl⟩ (λu=>dw u 4/\((-1000000000000<=u.iv 61/\u.iv 61<=1000000000000)/\u.iv 59<=1000000/\0<u.iv 52)/\0<u.iv 59/\aN u 78 (u.iv 59-1)=(aa u 0 4).notes.erase (bB u 69 (u.iv 69).toNat) /\
     (aa u 0 4).cz (az u 71)=({aa u 0 4 with notes:=(aa u 0 4).notes.erase (bB u 69 (u.iv 69).toNat),freed:=u.iv 61+1,bK:=gX u 69 (u.iv 69+1) (u.iv 52-1)}:RS).ek) (λe f=>?_) λu Q=>?_
 ·replace f:vD (aV _ 6 78 q (q.join 78 e)):=f
  refine ⟨⟨o,g,m⟩,⟨⟨C,F⟩,y,a⟩,by show 0<q.iv 59;omega,?_,n⟩
  refine Eq.trans (eU rfl λi=>?_) (Eq.trans f (Eq.trans (congrArg (λl:List Nt=>l.take (q.iv 77).toNat ++ l.drop ((q.iv 77).toNat+1)) (eU rfl λi=>?_)) E.symm))
  ·simp [bB,bu,aV,Env.join,-Int.pred_toNat,Na]
  ·simp [bB,bu,aV,Env.join,-Int.pred_toNat,Na]
 obtain ⟨⟨o,g,m⟩,⟨⟨C,F⟩,y,a⟩,S,E,n⟩:=Q
 have B:=g.1.2
 have s:=g.2
 have H:=m
 obtain ⟨J,O,K,L⟩:=H
 simp only [Nat.reduceAdd] at B s J O K L
 have r:u.bv 58=false:=by
  cases h:u.bv 58
  ·rfl
  ·have:=J h;omega
 have x:∀v:Env,v.bv 58=u.bv 58->v.iv 59=u.iv 59-1->v.iv 60=u.iv 60->bE v 58:=λv p w R=>⟨λh=>(by rw [p,r] at h;cases h),by simp only [Nat.reduceAdd];omega,by simp only [Nat.reduceAdd];omega,by simp only [Nat.reduceAdd];omega⟩
 have A:∀v:Env,v.bv 51=u.bv 51->v.iv 52=u.iv 52-1->v.iv 53=u.iv 53-1->bE v 51:=λv p w R=>by
  have r:u.bv 51=false:=by
   cases h:u.bv 51
   ·rfl
   ·have:=g.1.1 h
    simp only [Nat.reduceAdd] at this
    omega
  exact ⟨λh=>(by rw [p,r] at h;cases h),by simp only [Nat.reduceAdd];omega,by simp only [Nat.reduceAdd];omega,by simp only [Nat.reduceAdd];omega⟩
 refine oS (Sat.br (λc=>?_) (λc=>?_))
 ·simp only [Da] at c
  refine oS (oS (oS ?_))
  refine jO (c:=gK) rfl ({aa u 0 4 with notes:=(aa u 0 4).notes.erase (bB u 69 (u.iv 69).toNat),freed:=u.iv 61+1,bK:=gX u 69 (u.iv 69+1) (u.iv 52-1)}:RS) _ (by decide) (by decide) (ru rfl rfl rfl rfl) ⟨o,⟨A _ rfl rfl rfl,s.1,.inl (by show u.iv 52-1=0;omega)⟩,x _ rfl rfl rfl⟩ (RS.ext' rfl rfl rfl rfl rfl rfl FV ?_ rfl rfl rfl rfl FW rfl ?_ rfl rfl) (λe f M=>⟨f.1,f.2.trans (congrArg RS.ek M)⟩) (λv=>dw v 79/\aa v 0 79=(aa v 0 4).cz (az v 71)) (λe p w=>⟨p,w.trans n.symm⟩) λv N=>?_
  ·exact (oV (show u.iv 52-1=0 by omega)).trans (oV (show u.iv 52-1=0 by omega)).symm
  ·exact Eq.trans (eU rfl λi=>by simp [bB,bu,-Int.pred_toNat,Na]) E
  obtain ⟨⟨o,g,m⟩,n⟩:=N
  exact Sat.fin ⟨il,Eq.trans (b:=(aa v 0 79)) bI (Eq.symm n.symm)⟩
 ·simp only [Da] at c
  refine oS (oS (oS ?_))
  refine jO (c:=gK) rfl ({aa u 0 4 with notes:=(aa u 0 4).notes.erase (bB u 69 (u.iv 69).toNat),freed:=u.iv 61+1,bK:=gX u 69 (u.iv 69+1) (u.iv 52-1)}:RS) _ (by decide) (by decide) (ru rfl rfl rfl rfl) ⟨o,⟨A _ rfl rfl rfl,by show 0<=u.iv 69+1;omega,.inr (by show u.iv 69+1+(u.iv 52-1)<=u.iv 70;omega)⟩,x _ rfl rfl rfl⟩ (RS.ext' rfl rfl rfl rfl rfl rfl FV ?_ rfl rfl rfl rfl FW rfl ?_ rfl rfl) (λe f M=>⟨f.1,f.2.trans (congrArg RS.ek M)⟩) (λv=>dw v 79/\aa v 0 79=(aa v 0 4).cz (az v 71)) (λe p w=>⟨p,w.trans n.symm⟩) λv N=>?_
  ·exact Bf rfl rfl λi=>by simp [bB,bu,-Int.pred_toNat,Na]
  ·exact Eq.trans (eU rfl λi=>by simp [bB,bu,-Int.pred_toNat,Na]) E
  obtain ⟨⟨o,g,m⟩,n⟩:=N
  exact Sat.fin ⟨il,Eq.trans (b:=(aa v 0 79)) bI (Eq.symm n.symm)⟩
theorem Ye:aK Tryz.prog fH Hm ry :=
 bq bM (E:=Yb) (cs:=xP) rfl Qi aO rfl Yc (by kernel_rfl) (λb h p a=>by
   obtain ⟨-,⟨h,-⟩,-⟩:=h
   simp only [List.mem_cons,List.not_mem_nil,or_false] at a
   subst a
   exact beq_iff_eq.2 h) Yd
noncomputable def Yf:Ex:={sched:=sched,loops:=[Xu],cons:=[jT,gK,lU,oQ,kK,eT],fin:=fH}
abbrev acY:List (Nat × CV):=[(70,yu 70 59 7 yN 0),(69,yu 69 70 7 yN 0),(68,yu 68 49 5 yW 0),(54,yl 54 9 5 50 yW 0)]
abbrev acZ:List (Nat × CV):=[(143,yu 143 132 7 yN 0),(142,yu 142 143 7 yN 0),(141,yu 141 122 5 yW 0),(127,yl 127 9 5 50 yW 0)]
abbrev Vr:List (Nat × CV):=[(143,yu 144 133 7 yN 0),(142,yu 143 144 7 yN 0),(141,yu 142 123 5 yW 0),(127,yl 128 9 5 50 yW 0)]
abbrev Vs:List (Nat × SA):=[(6,yc 9 7),(5,yc 8 7),(4,yc 7 5)]
abbrev ac0:List (Nat × IE):=[(150,.add (.var 150) y1),(148,yv 151),(147,.add (.var 147) y1)]
abbrev ac1:List (Nat × CV):=[(143,yu 70 59 7 yN 0),(142,yu 69 70 7 yN 0),(141,yu 68 49 5 yW 0),(127,yl 54 9 5 50 yW 0)]
def Ho:Out :=
 .br (.ag (.var 22) (.lit 12))
 (.call 0 {lo:=0,ae:=0,iv:=yO [(71,1)]<|yU (yr 45 74 4<|[])<|yD 0 PL,bv:=yV [(46,yw 75)]<|yE 0 mQ,ct:=acY,bk:=[(3,yc 3 7),(2,yc 2 7),(1,yc 1 5),(0,yb 0)]} 77 <|
  .fin {lo:=77,ae:=4,iv:=yD 0 jY,bv:=yE 0 kL,ct:=acZ,bk:=[(6,yc 7 7),(5,yc 6 7),(4,yc 5 5)]})
 (.br (.ag (.var 22) (.lit 13))
  (.ob (.ah (.mul (.add (.var 49) y1) (.lit 40)) (.lit 140737488355328)) <|
   .ob (.ah y0 (.var 49)) <|
   .ob (.ah (.var 49) (.var 50)) <|
   .ob (.ah (.var 50) (.lit 9223372036854775807)) <|
   .ob (.or (.not (.var 48)) (.ag (.var 49) y0)) <|
   .new 77 [.be (.and (.ah (.add (.var 49) y1) (.var 77)) (.ah (.var 77) (.lit 9223372036854775807)))] <|
   .ob (.inr .i64 (.add (.var 47) y1)) <|
   .call 0 {lo:=0,ae:=0,iv:=yU [(50,yv 77),(49,.add (.var 49) y1),(71,.add (.var 47) y1)]<|yD 0 PL,bv:=yP [(48,1)]<|yE 0 mQ,ct:=[(70,yu 70 59 7 yN 0),(69,yu 69 70 7 yN 0),(68,.up {r:=68,n1:=.add (.var 49) y1,s1:=5,ks:=yW} 0 [⟨0,(.var 49),y0,0,.int .i64 (.var 71)⟩,⟨0,(.var 49),y0,1,.int .i64 (.var 72)⟩,⟨0,(.var 49),y0,2,.int .i64 (.var 73)⟩,⟨0,(.var 49),y0,3,.int .i64 (.var 74)⟩,⟨0,(.var 49),y0,4,.bool (.var 75)⟩] y0),(54,yl 54 9 5 50 yW 0)],bk:=[(3,yc 3 7),(2,yc 2 7),(1,yc 6 5),(0,yb 0)]} 78 <|
   .br (.var 145)
   (.fin {lo:=77,ae:=4,iv:=yo [(143,yv 144)]<|yr 138 139 7<|yo [(130,yv 131),(129,yv 130),(126,yv 127),(125,yv 126),(142,yv 143),(123,yv 124),(122,yv 123),(120,yv 121)]<|yr 118 119 4<|yr 113 114 4<|yr 108 109 4<|yr 103 104 13<|yr 89 90 4<|yr 84 85 8 [],bv:=[(140,yw 141),(139,yw 140),(131,yw 132),(128,yw 129),(124,yw 125),(121,yw 122),(119,yw 120),(114,yw 115),(109,yw 110),(104,yw 105),(90,yw 91),(85,yw 86)],ct:=Vr,bk:=Vs})
   (.br (.not (.ag (.var 0) (.lit 4)))
    (.call 2 {lo:=0,ae:=0,iv:=yo [(70,yv 144)]<|yr 65 139 7<|yo [(57,yv 131),(56,yv 130)]<|yr 3 3 4<|yo [(53,yv 127),(52,yv 126),(69,yv 143),(50,yv 124),(49,yv 123),(47,yv 121)]<|yr 45 119 4<|yr 40 114 4<|yr 35 109 4<|yr 30 104 13<|yr 16 90 4<|yr 11 85 8 [],bv:=[(67,yw 141),(66,yw 140),(58,yw 132),(55,yw 129),(51,yw 125),(48,yw 122),(46,yw 120),(41,yw 115),(36,yw 110),(31,yw 105),(17,yw 91),(12,yw 86)],ct:=[(70,yu 144 133 7 yN 0),(69,yu 143 144 7 yN 0),(68,yu 142 123 5 yW 0),(54,yl 128 9 5 50 yW 0)],bk:=[(3,yc 9 7),(2,yc 8 7),(1,yc 7 5),(0,yb 0)]} 146 <|
     .fin {lo:=77,ae:=4,iv:=yo [(143,yv 212)]<|yr 138 207 7<|yo [(130,yv 199),(129,yv 198),(126,yv 195),(125,yv 194),(142,yv 211),(123,yv 192),(122,yv 191),(120,yv 189)]<|yr 118 187 4<|yr 113 182 4<|yr 108 177 4<|yr 103 172 13<|yr 89 158 4<|yr 84 153 8 [],bv:=[(140,yw 209),(139,yw 208),(131,yw 200),(128,yw 197),(124,yw 193),(121,yw 190),(119,yw 188),(114,yw 183),(109,yw 178),(104,yw 173),(90,yw 159),(85,yw 154)],ct:=[(143,yu 212 201 7 yN 0),(142,yu 211 212 7 yN 0),(141,yu 210 191 5 yW 0),(127,yl 196 9 5 50 yW 0)],bk:=[(6,yc 12 7),(5,yc 11 7),(4,yc 10 5)]})
    (.ob (.or (.not (.var 122)) (.ag (.var 123) y0)) <|
     .ob (.ah y0 (.var 123)) <|
     .loop 146 {lo:=146,ae:=10,iv:=[yz 150,yz 148,yz 147],bv:=[(146,.lit true)],nb:=[10]} <|
     .br (.aY (.var 150) (.var 123))
     (.ob (.not (.var 122)) <|
      .ob (.ah y0 (.var 150)) <|
      .br (.not (.cell 142 (.var 150) y0 4))
      (.ob (.ah (.mul (.add (.var 147) y1) (.lit 24)) (.lit 140737488355328)) <|
       .ob (.ah y0 (.var 147)) <|
       .ob (.ah (.var 147) (.var 148)) <|
       .ob (.ah (.var 148) (.lit 9223372036854775807)) <|
       .ob (.or (.not (.var 146)) (.ag (.var 147) y0)) <|
       .new 151 [.be (.and (.ah (.add (.var 147) y1) (.var 151)) (.ah (.var 151) (.lit 9223372036854775807)))] <|
       .ob (.inr .i64 (.add (.var 150) y1)) <|
       .back 0 {lo:=146,ae:=10,iv:=ac0,bv:=[(146,.lit false)],ct:=[(149,.up {r:=149,n1:=.add (.var 147) y1,s1:=3,ks:=[.bool,.int .i64,.int .i64]} 0 [⟨0,(.var 147),y0,0,y3⟩,⟨0,(.var 147),y0,1,y2⟩,⟨0,(.var 147),y0,2,y2⟩] y0)],bk:=[(10,yc 15 3)]})
      (.ob (.ah (.mul (.add (.var 147) y1) (.lit 24)) (.lit 140737488355328)) <|
       .ob (.ah y0 (.var 147)) <|
       .ob (.ah (.var 147) (.var 148)) <|
       .ob (.ah (.var 148) (.lit 9223372036854775807)) <|
       .ob (.or (.not (.var 146)) (.ag (.var 147) y0)) <|
       .new 151 [.be (.and (.ah (.add (.var 147) y1) (.var 151)) (.ah (.var 151) (.lit 9223372036854775807)))] <|
       .ob (.inr .i64 (.add (.var 150) y1)) <|
       .back 0 {lo:=146,ae:=10,iv:=ac0,bv:=[(146,.lit false)],ct:=[(149,.up {r:=149,n1:=.add (.var 147) y1,s1:=3,ks:=[.bool,.int .i64,.int .i64]} 0 [⟨0,(.var 147),y0,0,.bool (.lit true)⟩,⟨0,(.var 147),y0,1,.int .i64 (.cell 142 (.var 150) y0 3)⟩,⟨0,(.var 147),y0,2,.int .i64 (.cell 142 (.var 150) y0 2)⟩] y0)],bk:=[(10,yc 15 3)]}))
     (.call 3 {lo:=0,ae:=0,iv:=[(3,yv 148),(2,yv 147),(0,yv 119)],bv:=[(1,yw 146)],ct:=[(4,.up {r:=149,n1:=.var 147,s1:=3,ks:=[.bool,.int .i64,.int .i64]} 0 [] y0)],bk:=[(0,yc 10 3)]} 151 <|
      .br (.var 151)
      (.ob (.inr .i64 (.add (.var 118) y1)) <|
       .ob (.inr .i64 (.add (.var 119) y1)) <|
       .fin {lo:=77,ae:=4,iv:=yo [(143,yv 144)]<|yr 138 139 7<|yo [(130,yv 131),(129,yv 130),(126,yv 127),(125,yv 126),(142,yv 143),(123,yv 124),(122,yv 123),(120,yv 121)]<|yr 118 119 4<|yr 113 114 4<|yo [(108,.add (.var 119) y1),(107,.add (.var 118) y1),yz 106,yz 105]<|yr 103 119 4<|yo [(99,.lit 24),yz 98,yz 97,(96,.lit 3),(95,.lit 14)]<|yr 94 95 4<|yr 89 90 4<|yr 84 85 8 [],bv:=[(140,yw 141),(139,yw 140),(131,yw 132),(128,yw 129),(124,yw 125),(121,yw 122),(119,yw 120),(114,yw 115),(109,.lit false),(104,yw 120),(90,yw 91),(85,yw 86)],ct:=Vr,bk:=Vs})
      (.fin {lo:=77,ae:=4,iv:=yo [(143,yv 144)]<|yr 138 139 7<|yo [(130,yv 131),(129,yv 130),(126,yv 127),(125,yv 126),(142,yv 143),(123,yv 124),(122,yv 123),(120,yv 121)]<|yr 118 119 4<|yr 113 114 4<|yo [yz 108,yz 107,yz 106,yz 105,yz 103,yz 102,yz 101,yz 100,(99,.lit 24),yz 98,yz 97,(96,.lit 1),(95,.lit 15)]<|yr 94 95 4<|yr 89 90 4<|yr 84 85 8 [],bv:=[(140,yw 141),(139,yw 140),(131,yw 132),(128,yw 129),(124,yw 125),(121,yw 122),(119,yw 120),(114,yw 115),(109,.lit false),(104,.lit false),(90,yw 91),(85,yw 86)],ct:=Vr,bk:=Vs})))))
  (.br (.ag (.var 22) (.lit 14))
   (.fin {lo:=77,ae:=4,iv:=yO [(108,4),(103,4),(98,2)]<|yU [(99,.lit 24),(96,.lit 1),(95,.lit 15)]<|yD 73 jY,bv:=yP [(109,1),(104,1)]<|yE 73 kL,ct:=ac1,bk:=[(6,yc 3 7),(5,yc 2 7),(4,yc 1 5)]})
   (.br (.ag (.var 22) (.lit 15))
    (.call 2 {lo:=0,ae:=0,iv:=yU (yr 45 74 4<|[])<|yD 0 yG,bv:=yV [(46,yw 75)]<|yE 0 mQ,ct:=acY,bk:=[(3,yc 3 7),(2,yc 2 7),(1,yc 1 5),(0,yb 0)]} 77 <|
     .fin {lo:=77,ae:=4,iv:=yD 0 jY,bv:=yE 0 kL,ct:=acZ,bk:=[(6,yc 7 7),(5,yc 6 7),(4,yc 5 5)]})
    (.fin {lo:=77,ae:=4,iv:=yD 73 jY,bv:=yE 73 kL,ct:=ac1,bk:=[(6,yc 3 7),(5,yc 2 7),(4,yc 1 5)]}))))
theorem Yg:exec tab Yf 8000 [] (bZ fH.f fH.nv [(.ag (.var 22) (.lit 16),false)] fH.gl fH.hp fH.args)=Ho:=by kernel_rfl
def ScB (ρ:Env):Prop:=(ρ.iv 59<=1000000/\(ρ.iv 22=13->ρ.iv 49<=99999))/\(ρ.iv 22=13->ρ.iv 0=4->JB ρ 42)/\(ρ.iv 22=13->0<=ρ.iv 47/\ρ.iv 47<=99999)/\(ρ.iv 22=15->ρ.iv 0=4)
def Ed (ρ:Env):Prop:=dw ρ 4/\zI ρ/\ScB ρ/\JB ρ 71/\¬ρ.iv 22=16
def RS.behind (s:RS):RS:=if s.af≠4 then s.eO else if RS.may s.clock.num (s.seen.map RS.jF)=true then s.advance 14 else s.era 15
theorem Vt {r:RS} {x:Rp} (h:r.step=13):r.cz x=match ({r with seen:=r.seen ++ [x.word]}:RS).look (r.index+1) with | some t=>t | none=>({r with seen:=r.seen ++ [x.word]}:RS).behind:=by
 unfold RS.cz
 rw [iN,if_pos h]
 rfl
theorem MO {post:Env->Prop} {Γ:List (Env->Prop)} {ρ:Env} {nv:Nat} {σ:Sub} {k:Out} (r:RS) (n:Int) (x:4<=nv) (b:∀i,i<4->(σ.bT ρ).iv i=ρ.iv i) (a:vS (σ.bT ρ)) (s:aa (σ.bT ρ) 0 4=r) (w:(σ.bT ρ).iv 71=n) (K:Env->Prop)
  (o:∀e,dw (ρ.join nv e) nv->(ρ.join nv e).bv (nv+67)=(r.look n).isSome->aa (ρ.join nv e) 0 nv=(r.look n).getD r->K (ρ.join nv e)) (h:∀q,K q->Sat post xP Γ q k):Sat post xP Γ ρ (.call 0 σ nv k):=by
 refine Sat.dF (c:=jT) rfl a K (λe d=>?_) h
 have t:∀i,i<4->(σ.bT ρ).iv i=(ρ.join nv e).iv i:=λi u=>by
  rw [b i u]
  exact (if_pos (show i<nv by omega)).symm
 replace d:wX (aV σ 72 nv ρ (ρ.join nv e)):=d
 obtain ⟨g,m,j⟩:=d
 have f:aa (aV σ 72 nv ρ (ρ.join nv e)) 0 4=r:=(KV (by decide)).trans s
 have l:(aV σ 72 nv ρ (ρ.join nv e)).iv 71=n:=w
 have p:(aV σ 72 nv ρ (ρ.join nv e)).bv 139=(ρ.join nv e).bv (nv+67):=DW 72 67
 rw [GY] at g
 rw [f,l,p] at m
 rw [f,l,KW (by decide) t] at j
 exact o e g m j
def JE (ρ:Env):Prop:=(dw ρ 78/\ρ.iv 123<=100000/\JB ρ 116)/\((aa ρ 0 78).af=4/\(aa ρ 0 4).cz (az ρ 71)=(aa ρ 0 78).behind)/\(0<=ρ.iv 150/\ρ.iv 150<=ρ.iv 123)/\(bE ρ 146/\ρ.iv 147=ρ.iv 150)/\iK ρ 149 (ρ.iv 147)=((dX ρ 142 (ρ.iv 123)).take (ρ.iv 150).toNat).map RS.jF
set_option maxHeartbeats 4000000 in
theorem Yh (ρ:Env) (y:Ed ρ.num):Sat ry xP [] ρ Ho:=by
 replace y:Ed ρ:=y
 obtain ⟨⟨f,k,j⟩,X,V,hx,Z⟩:=y
 have anm:=V
 obtain ⟨⟨T,D⟩,G,hj,MF⟩:=anm
 have hx':=hx
 obtain ⟨⟨x1,x2⟩,x3,x4⟩:=hx'
 have J:=f
 obtain ⟨P,g,z,A⟩:=J
 simp only [Nat.reduceAdd] at x1 x2 x3 x4 P g z A
 unfold Ho
 refine Sat.br (λc=>?_) (λc=>?_)
 ·simp only [Da] at c
  have a:(aa ρ 0 4).cz (az ρ 71)=(({aa ρ 0 4 with clock:=aC ρ 71}:RS).look 0).getD ({aa ρ 0 4 with clock:=aC ρ 71}:RS):=by unfold RS.cz;exact if_pos c
  refine MO ({aa ρ 0 4 with clock:=aC ρ 71}:RS) 0 (by decide) (ru rfl rfl rfl rfl) ⟨⟨f,k,j⟩,X,Int.le_refl 0,(show (0:Int)<=1000000 by decide)⟩ bI rfl (λu=>dw u 77/\aa u 0 77=(aa u 0 4).cz (az u 71)) (λe o _ l=>⟨o,l.trans a.symm⟩) λu C=>?_
  obtain ⟨⟨f,k,j⟩,a⟩:=C
  exact Sat.fin ⟨il,Eq.trans (b:=(aa u 0 77)) bI (Eq.symm a.symm)⟩
 simp only [Da] at c
 refine Sat.br (λc2=>?_) (λc2=>?_)
 ·simp only [Da] at c2
  replace D:=D c2
  refine oS (Sat.ob (decide_eq_true g) (Sat.ob (decide_eq_true z) (Sat.ob (decide_eq_true A) (Sat.ob (dP f) (Sat.uK (λq=>(dw q 4/\zI q/\ScB q)/\q.iv 22=13) (λe=>⟨⟨⟨f,k,j⟩,X,V⟩,c2⟩) λq s p=>?_)))))
  obtain ⟨⟨⟨f,k,j⟩,X,⟨T,D⟩,G,hj,MF⟩,c2⟩:=s
  replace D:=D c2
  replace G:=G c2
  obtain ⟨j1,j2⟩:=hj c2
  simp only [Da] at p
  have J:=f
  obtain ⟨P,g,z,A⟩:=J
  simp only [Nat.reduceAdd] at P g z A
  have a:=Vt (r:=aa q 0 4) (x:=az q 71) c2
  have ajZ:∀v:Env,v.iv 49=q.iv 49+1->(∀i:Nat,(i:Int)<q.iv 49->bu (v.ic 68 i 0) (v.bc 68 i 0)=bu (q.ic 68 i 0) (q.bc 68 i 0))->bu (v.ic 68 (q.iv 49).toNat 0) (v.bc 68 (q.iv 49).toNat 0)=aC q 71->dX v 68 (v.iv 49)=(aa q 0 4).seen ++ [(az q 71).word]:=λv o l K=>UZ g o l K
  refine oS ?_
  refine MO ({aa q 0 4 with seen:=(aa q 0 4).seen ++ [(az q 71).word]}:RS) ((aa q 0 4).index+1) (by decide) (ru rfl rfl rfl rfl) ⟨⟨⟨λh=>(by cases h),by show 0<=q.iv 49+1;omega,p.1,p.2⟩,k,j⟩,X,(by show 0<=q.iv 47+1;omega),(by show q.iv 47+1<=1000000;omega)⟩
   (RS.ext' rfl rfl rfl rfl rfl rfl (ajZ _ rfl (λi hi=>(by have I:¬(q.iv 49).toNat=i:=λh=>(by omega);simp [bu,-Int.pred_toNat,Na,I])) (by simp [bu,aC,-Int.pred_toNat,Na])) XC rfl rfl rfl rfl FW rfl MG rfl rfl) rfl
   (λu=>dw u 78/\(u.iv 119=u.iv 45/\u.iv 118=u.iv 44/\u.iv 123=u.iv 49+1/\u.iv 126=u.iv 52/\u.iv 133=u.iv 59\/u.bv 145=true)/\((u.iv 0=4->JB u 42)/\u.iv 59<=1000000/\u.iv 49<=99999)/\(u.bv 145=true->aa u 0 78=(aa u 0 4).cz (az u 71))/\(u.bv 145=false->(aa u 0 4).cz (az u 71)=(aa u 0 78).behind)) (λe o l K=>?_) λu C=>?_
  ·cases H:({aa q 0 4 with seen:=(aa q 0 4).seen ++ [(az q 71).word]}:RS).look ((aa q 0 4).index+1) with
   | some t =>
    rw [H] at l K a
    refine ⟨o,.inr l,⟨G,T,D⟩,λ_=>K.trans a.symm,λB=>?_⟩
    replace B:(q.join 78 e).bv 145=false:=B
    rw [show (q.join 78 e).bv 145=true from l] at B
    cases B
   | none =>
    rw [H] at l K a
    have m:aa (q.join 78 e) 0 78=({aa q 0 4 with seen:=(aa q 0 4).seen ++ [(az q 71).word]}:RS):=K
    have k1:(dX (q.join 78 e) 142 ((q.join 78 e).iv 123)).length=((aa q 0 4).seen ++ [(az q 71).word]).length:=congrArg (λr:RS=>r.seen.length) m
    have k2:(aN (q.join 78 e) 144 ((q.join 78 e).iv 133)).length=(aN q 70 (q.iv 59)).length:=congrArg (λr:RS=>r.notes.length) m
    have k3:(gX (q.join 78 e) 143 ((q.join 78 e).iv 143) ((q.join 78 e).iv 126)).length=(gX q 69 (q.iv 69) (q.iv 52)).length:=congrArg (λr:RS=>r.bK.length) m
    have k4:(q.join 78 e).iv 119=q.iv 45:=congrArg (λr:RS=>r.clock.num) m
    have k5:(q.join 78 e).iv 118=q.iv 44:=congrArg (λr:RS=>r.clock.tag) m
    have U:=o.1.2.1
    have z2:=o.2.1.1.2.1
    have z3:=o.2.2.2.1
    have y2:=k.1.2.1
    have y3:=j.2.1
    rw [xK,List.length_append,List.length_singleton] at k1
    rw [show (aa q 0 4).seen.length=(q.iv 49).toNat from xK] at k1
    rw [jN,jN] at k2
    simp only [gX,List.length_map,List.length_range] at k3
    simp only [Nat.reduceAdd] at U z2 z3 y2 y3
    refine ⟨o,.inl ⟨k4,k5,?_,?_,?_⟩,⟨G,T,D⟩,λB=>?_,λ_=>?_⟩
    ·show (q.join 78 e).iv 123=q.iv 49+1;omega
    ·show (q.join 78 e).iv 126=q.iv 52;omega
    ·show (q.join 78 e).iv 133=q.iv 59;omega
    ·replace B:(q.join 78 e).bv 145=true:=B
     rw [show (q.join 78 e).bv 145=false from l] at B
     cases B
    ·exact a.trans (congrArg RS.behind m.symm)
  obtain ⟨⟨f,k,j⟩,hk,⟨G,T,D⟩,hy,I⟩:=C
  refine Sat.br (λF=>?_) (λF=>?_)
  ·have a:=hy F
   exact Sat.fin ⟨il,Eq.trans (b:=(aa u 0 78)) bI (Eq.symm a.symm)⟩
  ·have a:=I F
   obtain ⟨k1,k2,k3,k4,k5⟩:=hk.resolve_right (λh=>by rw [show u.bv 145=false from F] at h;cases h)
   refine Sat.br (λc4=>?_) (λc4=>?_)
   ·simp only [Da] at c4
    have hm2:(aa u 0 4).cz (az u 71)=(aa u 0 78).eO:=a.trans (if_pos c4)
    refine jO (c:=lU) rfl (aa u 0 78) (aa u 0 78).eO (by decide) (by decide) (ru rfl rfl rfl rfl) ⟨⟨f,k,j⟩,⟨by show u.iv 133<=1000000;omega,.inr (by show u.iv 123<=100000;omega)⟩,λh=>absurd h c4⟩ bI (λe s hr=>⟨s.1,by rw [<-hr];exact s.2⟩) (λv=>dw v 146/\aa v 0 146=(aa v 0 4).cz (az v 71)) (λe o l=>⟨o,l.trans hm2.symm⟩) λv hv=>?_
    obtain ⟨⟨f,k,j⟩,a⟩:=hv
    exact Sat.fin ⟨il,Eq.trans (b:=(aa v 0 146)) bI (Eq.symm a.symm)⟩
   ·simp only [Da] at c4
    obtain ⟨⟨O,Q⟩,L,M⟩:=G c4
    simp only [Nat.reduceAdd] at O Q L M
    have U:=f.2.1
    simp only [Nat.reduceAdd] at U
    refine Sat.ob (dP f) (Sat.ob (decide_eq_true U) (Sat.qD JE (λr=>(r.iv 123-r.iv 150).toNat) (λ_=>True) ⟨⟨⟨f,k,j⟩,by show u.iv 123<=100000;omega,⟨by show -1000000000000<=u.iv 118;omega,by show u.iv 118<=1000000000000;omega⟩,by show -1000000000000<=u.iv 119;omega,by show u.iv 119<=1000000000000;omega⟩,⟨c4,a⟩,⟨Int.le_refl 0,U⟩,⟨qE rfl rfl,rfl⟩,rfl⟩ (λ_=>trivial) λq _ Y=>?_))
    replace Y:JE q:=Y
    have W:=Y
    obtain ⟨⟨⟨f,k,j⟩,hl1,⟨O,Q⟩,L,M⟩,⟨he,a⟩,⟨i1,i2⟩,⟨E,H⟩,d⟩:=Y
    simp only [Nat.reduceAdd] at O Q L M
    refine Sat.br (λc=>?_) (λc=>?_)
    ·simp only [Da] at c
     refine Sat.ob (uo f (by simp only [Nat.reduceAdd];omega)) (Sat.ob (decide_eq_true i1) ?_)
     obtain ⟨P,g,z,A⟩:=id E
     refine Sat.br (λc2=>?_) (λc2=>?_)
     ·simp only [Da] at c2
      refine oS (Sat.ob (decide_eq_true g) (Sat.ob (decide_eq_true z) (Sat.ob (decide_eq_true A) (Sat.ob (dP E) (Sat.uK (λu=>JE u/\u.iv 150<u.iv 123/\(u.iv 123-(u.iv 150+1)).toNat<(q.iv 123-q.iv 150).toNat/\u.bc 142 (u.iv 150).toNat 0 4=false) (λe=>⟨W,c,by show (q.iv 123-(q.iv 150+1)).toNat<(q.iv 123-q.iv 150).toNat;omega,c2⟩) λu C p=>?_)))))
      obtain ⟨⟨R,hB,⟨i1,i2⟩,⟨E,H⟩,d⟩,c,hd,hc⟩:=C
      simp only [Da] at p
      obtain ⟨P,g,z,A⟩:=id E
      replace g:0<=u.iv 147:=g
      have hf2:=R.2.1
      refine oS (Sat.back rfl ⟨⟨R,hB,⟨?_,?_⟩,⟨⟨λh=>(by cases h),?_,p.1,p.2⟩,?_⟩,?_⟩,hd⟩)
      ·show 0<=u.iv 150+1;omega
      ·show u.iv 150+1<=u.iv 123;omega
      ·show 0<=u.iv 147+1;omega
      ·show u.iv 147+1=u.iv 150+1;omega
      ·refine (vC (ρ:=u) (r:=149) (n:=u.iv 147) (w:=RS.jF (bu (u.ic 142 (u.iv 150).toNat 0) (u.bc 142 (u.iv 150).toNat 0))) g rfl (λi hi=>?_) ?_).trans ?_
       ·have I:¬(u.iv 147).toNat=i:=λh=>by omega
        simp [lu,bu,-Int.pred_toNat,Na,I]
       ·simp [lu,bu,RS.jF,Sp.zero,-Int.pred_toNat,Na,H,hc]
       ·show iK u 149 (u.iv 147) ++ _=((dX u 142 (u.iv 123)).take (u.iv 150+1).toNat).map RS.jF
        rw [d,show (u.iv 150+1).toNat=(u.iv 150).toNat+1 by omega,rY (by omega),List.map_append]
        rfl
     ·simp only [Da] at c2
      refine oS (Sat.ob (decide_eq_true g) (Sat.ob (decide_eq_true z) (Sat.ob (decide_eq_true A) (Sat.ob (dP E) (Sat.uK (λu=>JE u/\u.iv 150<u.iv 123/\(u.iv 123-(u.iv 150+1)).toNat<(q.iv 123-q.iv 150).toNat/\u.bc 142 (u.iv 150).toNat 0 4=true) (λe=>⟨W,c,by show (q.iv 123-(q.iv 150+1)).toNat<(q.iv 123-q.iv 150).toNat;omega,c2⟩) λu C p=>?_)))))
      obtain ⟨⟨R,hB,⟨i1,i2⟩,⟨E,H⟩,d⟩,c,hd,hc⟩:=C
      simp only [Da] at p
      obtain ⟨P,g,z,A⟩:=id E
      replace g:0<=u.iv 147:=g
      have hf2:=R.2.1
      refine oS (Sat.back rfl ⟨⟨R,hB,⟨?_,?_⟩,⟨⟨λh=>(by cases h),?_,p.1,p.2⟩,?_⟩,?_⟩,hd⟩)
      ·show 0<=u.iv 150+1;omega
      ·show u.iv 150+1<=u.iv 123;omega
      ·show 0<=u.iv 147+1;omega
      ·show u.iv 147+1=u.iv 150+1;omega
      ·refine (vC (ρ:=u) (r:=149) (n:=u.iv 147) (w:=RS.jF (bu (u.ic 142 (u.iv 150).toNat 0) (u.bc 142 (u.iv 150).toNat 0))) g rfl (λi hi=>?_) ?_).trans ?_
       ·have I:¬(u.iv 147).toNat=i:=λh=>by omega
        simp [lu,bu,-Int.pred_toNat,Na,I]
       ·simp [lu,bu,RS.jF,-Int.pred_toNat,Na,H,hc]
       ·show iK u 149 (u.iv 147) ++ _=((dX u 142 (u.iv 123)).take (u.iv 150+1).toNat).map RS.jF
        rw [d,show (u.iv 150+1).toNat=(u.iv 150).toNat+1 by omega,rY (by omega),List.map_append]
        rfl
    ·simp only [Da] at c
     rw [Bt (by omega)] at d
     refine Sat.dF (c:=oQ) rfl ⟨E,by show q.iv 147<=1000000;omega⟩ (λu=>(dw u 78/\JB u 116)/\(aa u 0 4).cz (az u 71)=if u.bv 151=true then (aa u 0 78).advance 14 else (aa u 0 78).era 15) (λe s=>?_) λu C=>?_
     ·replace s:Fg (aV _ 5 151 q (q.join 151 e)):=s
      refine ⟨⟨⟨f,k,j⟩,⟨O,Q⟩,L,M⟩,a.trans ?_⟩
      have S:(q.join 151 e).bv 151=RS.may (q.iv 119) (iK q 149 (q.iv 147)):=by
       refine Eq.trans (DW (σ:=_) (ρ:=q) (ρ':=q.join 151 e) (N:=151) 5 0).symm (s.trans ?_)
       exact congrArg (RS.may (q.iv 119)) (JD rfl λi=>by simp [lu,aV,Env.join,-Int.pred_toNat,Na])
      rw [d] at S
      unfold RS.behind
      rw [if_neg (show ¬(aa q 0 78).af≠4 from λh=>h he)]
      show (if RS.may (q.iv 119) ((dX q 142 (q.iv 123)).map RS.jF)=true then (aa q 0 78).advance 14 else (aa q 0 78).era 15)=_
      rw [<-S]
      rfl
     obtain ⟨⟨⟨f,k,j⟩,⟨O,Q⟩,L,M⟩,a⟩:=C
     simp only [Nat.reduceAdd] at O Q L M
     refine Sat.br (λF=>?_) (λF=>?_)
     ·rw [if_pos (show u.bv 151=true from F)] at a
      exact oS (oS (Sat.fin ⟨il,Eq.trans (b:=(aa u 0 78).advance 14) bI (Eq.symm a)⟩))
     ·rw [if_neg (show ¬u.bv 151=true from λh=>by rw [show u.bv 151=false from F] at h;cases h)] at a
      exact Sat.fin ⟨il,Eq.trans (b:=(aa u 0 78).era 15) bI (Eq.symm a)⟩
 simp only [Da] at c2
 refine Sat.br (λc3=>?_) (λc3=>?_)
 ·simp only [Da] at c3
  have a:(aa ρ 0 4).cz (az ρ 71)=(aa ρ 0 4).era 15:=by unfold RS.cz;exact (if_neg c).trans ((if_neg c2).trans (if_pos c3))
  exact Sat.fin ⟨il,Eq.trans (b:=(aa ρ 0 4).era 15) bI (Eq.symm a)⟩
 simp only [Da] at c3
 refine Sat.br (λc4=>?_) (λc4=>?_)
 ·simp only [Da] at c4
  have a:(aa ρ 0 4).cz (az ρ 71)=({aa ρ 0 4 with clock:=aC ρ 71}:RS).eO:=by unfold RS.cz;exact (if_neg c).trans ((if_neg c2).trans ((if_neg c3).trans (if_pos c4)))
  refine jO (c:=lU) rfl ({aa ρ 0 4 with clock:=aC ρ 71}:RS) ({aa ρ 0 4 with clock:=aC ρ 71}:RS).eO (by decide) (by decide) (ru rfl rfl rfl rfl) ⟨⟨f,k,j⟩,⟨T,.inl (MF c4)⟩,λ_=>hx⟩ bI (λe s hr=>⟨s.1,by rw [<-hr];exact s.2⟩) (λv=>dw v 77/\aa v 0 77=(aa v 0 4).cz (az v 71)) (λe o l=>⟨o,l.trans a.symm⟩) λv hv=>?_
  obtain ⟨⟨f,k,j⟩,a⟩:=hv
  exact Sat.fin ⟨il,Eq.trans (b:=(aa v 0 77)) bI (Eq.symm a.symm)⟩
 ·simp only [Da] at c4
  have a:(aa ρ 0 4).cz (az ρ 71)=aa ρ 0 4:=by unfold RS.cz;exact (if_neg c).trans ((if_neg c2).trans ((if_neg c3).trans ((if_neg c4).trans (if_neg Z))))
  exact Sat.fin ⟨il,Eq.trans (b:=(aa ρ 0 4)) bI (Eq.symm a)⟩
theorem Vu:aK Tryz.prog fH Ed ry :=
 bq bM (E:=Yf) (cs:=xP) rfl Qi aO rfl Yg (by kernel_rfl) (λb h p a=>by
   obtain ⟨-,-,-,-,h⟩:=h
   simp only [List.mem_cons,List.not_mem_nil,or_false] at a
   subst a
   exact beq_eq_false_iff_ne.2 h) Yh
def Hq (ρ:Env):Prop:=dw ρ 4/\zI ρ/\ScB ρ/\JB ρ 71/\(-1000000000000<=ρ.iv 61/\ρ.iv 61<=1000000000000)/\(ρ.iv 22=16->∃d l,(aa ρ 0 4).bK=d :: l/\d∈(aa ρ 0 4).notes)
theorem Yi:aK Tryz.prog fH Hq ry:=gG Vu Ye λe h=>by
 obtain ⟨b,f,c,g,i,d⟩:=h
 by_cases a:e.iv 22=16
 ·exact .inr ⟨b,⟨a,c.1.1,i⟩,d a⟩
 ·exact .inl ⟨b,f,c,g,a⟩
def NL:mo:=[(jD,qN,xL),(iD,zG,gU),(mq,Bo,Ea),(oo,Fe,G7),(fH,Hq,ry)]
theorem aaM:∀k pre post,(k,pre,post)∈NL->kX k=true/\aK Tryz.prog k pre post:=by
 intro k pre post h
 simp only [NL,List.mem_cons,List.not_mem_nil,or_false,Prod.mk.injEq] at h
 rcases h with ⟨rfl,rfl,rfl⟩ | ⟨rfl,rfl,rfl⟩ | ⟨rfl,rfl,rfl⟩ | ⟨rfl,rfl,rfl⟩ | ⟨rfl,rfl,rfl⟩
 ·exact ⟨by kernel_rfl,MM⟩
 ·exact ⟨by kernel_rfl,PZ⟩
 ·exact ⟨by kernel_rfl,XW⟩
 ·exact ⟨by kernel_rfl,aax⟩
 ·exact ⟨by kernel_rfl,Yi⟩
noncomputable def ac2:Ex:={sched:=sched,loops:=[],cons:=[jD,iD,mq,oo,fH],fin:=pQ}
abbrev ac3:List (Nat × CV):=[(143,yu 70 59 7 yN 0),(142,yu 69 70 7 yN 0),(141,yu 68 49 5 yW 0),(127,yl 54 9 5 50 yW 0)]
abbrev xQ:List (Nat × CV):=[(70,yu 70 59 7 yN 0),(69,yu 69 70 7 yN 0),(68,yu 68 49 5 yW 0),(54,yl 54 9 5 50 yW 0)]
abbrev xR:List (Nat × SA):=[(3,yc 3 7),(2,yc 2 7),(1,yc 1 5),(0,yb 0)]
abbrev xS:List (Nat × CV):=[(143,yu 143 132 7 yN 0),(142,yu 142 143 7 yN 0),(141,yu 141 122 5 yW 0),(127,yl 127 9 5 50 yW 0)]
abbrev xU:List (Nat × SA):=[(6,yc 7 7),(5,yc 6 7),(4,yc 5 5)]
def Lf:Out :=
 .br (.ag (.var 22) y1)
 (.fin {lo:=77,ae:=4,iv:=yO [(126,2),(123,2),(120,1),(118,4),(113,4),(108,4),(103,13),(89,4),(84,8)]<|yU (yr 138 74 4<|[])<|yD 73 UU,bv:=[(140,yw 76),(139,yw 75),(131,yw 58),(128,yw 55),(124,.lit true),(121,.lit true),(119,.lit false),(114,.lit false),(109,.lit false),(104,.lit false),(90,.lit false),(85,.lit false)],ct:=[(143,yu 70 59 7 yN 0),(127,yl 54 9 5 50 yW 0)],bk:=[(6,yc 3 7)],nb:=[5,4,5,4]})
 (.br (.ag (.var 22) (.lit 2))
  (.fin {lo:=77,ae:=4,iv:=yO [(138,4),(126,2),(123,2),(120,1),(118,4),(113,4),(108,4),(103,13),(89,4),(84,8)]<|yD 73 UU,bv:=[(140,.lit true),(139,.lit false),(131,yw 58),(128,yw 55),(124,.lit true),(121,.lit true),(119,.lit false),(114,.lit false),(109,.lit false),(104,.lit false),(90,.lit false),(85,.lit false)],ct:=[(143,yu 70 59 7 yN 0),(127,yl 54 9 5 50 yW 0)],bk:=[(6,yc 3 7)],nb:=[5,4,5,4]})
  (.br (.ag (.var 22) (.lit 3))
   (.call 1 {lo:=0,ae:=0,iv:=[(0,yv 1)]} 77 <|
    .fin {lo:=77,ae:=4,iv:=yO [(106,2),(103,4),(98,2)]<|yU [(130,yv 74),(129,yv 74),(108,yv 74),(107,yv 74),(99,.add (.lit 79) (.var 1)),(96,.lit 2),(95,.lit 2)]<|yD 73 jY,bv:=yP [(104,1)]<|yV [(128,.lit true),(109,.lit true)]<|yE 73 kL,ct:=ac3,bk:=[(6,yc 3 7),(5,yc 2 7),(4,yc 1 5)]})
   (.br (.ag (.var 22) (.lit 4))
    (.ob (.inr .i64 (.add (.var 47) y1)) <|
     .call 0 {lo:=0,ae:=0,iv:=yU [(71,.add (.var 47) y1)]<|yD 0 PL,bv:=yE 0 mQ,ct:=xQ,bk:=xR} 77 <|
     .fin {lo:=77,ae:=4,iv:=yD 0 jY,bv:=yE 0 kL,ct:=xS,bk:=xU})
    (.br (.ag (.var 22) (.lit 8))
     (.fin {lo:=77,ae:=4,iv:=yO [(107,3),(103,7)]<|yU [(108,yv 74),(96,.lit 4),(95,.lit 1)]<|yD 73 jY,bv:=yP [(109,1),(104,1)]<|yE 73 kL,ct:=ac3,bk:=[(6,yc 3 7),(5,yc 2 7),(4,yc 1 5)]})
     (.br (.ag (.var 22) (.lit 5))
      (.call 2 {lo:=0,ae:=0,iv:=yD 0 GV,bv:=yE 0 GX,ct:=xQ,bk:=xR} 77 <|
       .fin {lo:=77,ae:=4,iv:=yD 0 jY,bv:=yE 0 kL,ct:=xS,bk:=xU})
      (.br (.ag (.var 22) (.lit 6))
       (.call 2 {lo:=0,ae:=0,iv:=yD 0 GV,bv:=yE 0 GX,ct:=xQ,bk:=xR} 77 <|
        .fin {lo:=77,ae:=4,iv:=yD 0 jY,bv:=yE 0 kL,ct:=xS,bk:=xU})
       (.br (.ag (.var 22) (.lit 7))
        (.call 2 {lo:=0,ae:=0,iv:=yD 0 GV,bv:=yE 0 GX,ct:=xQ,bk:=xR} 77 <|
         .fin {lo:=77,ae:=4,iv:=yD 0 jY,bv:=yE 0 kL,ct:=xS,bk:=xU})
        (.br (.ag (.var 22) (.lit 9))
         (.call 3 {lo:=0,ae:=0,iv:=yD 0 GV,bv:=yE 0 GX,ct:=xQ,bk:=xR} 77 <|
          .fin {lo:=77,ae:=4,iv:=yD 0 jY,bv:=yE 0 kL,ct:=xS,bk:=xU})
         (.br (.ag (.var 22) (.lit 10))
          (.call 3 {lo:=0,ae:=0,iv:=yD 0 GV,bv:=yE 0 GX,ct:=xQ,bk:=xR} 77 <|
           .fin {lo:=77,ae:=4,iv:=yD 0 jY,bv:=yE 0 kL,ct:=xS,bk:=xU})
          (.br (.ag (.var 22) (.lit 11))
           (.call 3 {lo:=0,ae:=0,iv:=yD 0 GV,bv:=yE 0 GX,ct:=xQ,bk:=xR} 77 <|
            .fin {lo:=77,ae:=4,iv:=yD 0 jY,bv:=yE 0 kL,ct:=xS,bk:=xU})
           (.call 4 {lo:=0,ae:=0,iv:=yD 0 GV,bv:=yE 0 GX,ct:=xQ,bk:=xR} 77 <|
            .fin {lo:=77,ae:=4,iv:=yD 0 jY,bv:=yE 0 kL,ct:=xS,bk:=xU})))))))))))
def knT:Kn:=[(.ag (.var 22) (.lit 0),false)]
theorem aaN:exec tab ac2 8000 [] (bZ pQ.f pQ.nv knT pQ.gl pQ.hp pQ.args)=Lf:=by kernel_rfl
def zJ (ρ:Env):Prop:=Hq ρ/\¬ρ.iv 22=0/\(ρ.iv 22=4->0<=ρ.iv 47/\ρ.iv 47<=8)/\(ρ.iv 22=5\/ρ.iv 22=6\/ρ.iv 22=7->0<=ρ.iv 18/\ρ.iv 18<9)
def Qj (ρ:Env):Prop:=dw ρ 77/\aa ρ 0 77=((aa ρ 0 4).aB (az ρ 71)).1
set_option maxHeartbeats 4000000 in
theorem aaO (ρ:Env) (a:zJ ρ.num):Sat Qj NL [] ρ Lf:=by
 replace a:zJ ρ:=a
 obtain ⟨p,t,m,n⟩:=a
 obtain ⟨ok,g,q,r,s,f⟩:=id p
 obtain ⟨j,i,k⟩:=id ok
 unfold Lf
 repeat' first
  | ((refine Sat.br (λc=>?_) (λc=>?_)) <;> simp only [Da] at c)
  | refine Sat.ob (by have:=m ‹_›;simp only [Da];omega) ?_
  | (refine Sat.call (c:=iD) rfl ⟨g.1,g.2.1⟩ λe h=>?_;clear h)
  | refine G8 jD ((aa ρ 0 4).leave (ρ.iv 47+1)) rfl ⟨ok,g,(by have:=m ‹_›;show 0<=ρ.iv 47+1;omega),(by have:=m ‹_›;show ρ.iv 47+1<=9;omega)⟩ λe ⟨j,i,k⟩ o=>?_
  | refine G8 mq ((aa ρ 0 4).kH (az ρ 71)) rfl ⟨ok,g,n (by omega)⟩ λe ⟨j,i,k⟩ o=>?_
  | refine G8 oo ((aa ρ 0 4).gL (az ρ 71)) rfl ⟨ok,g,q.1.1,r⟩ λe ⟨j,i,k⟩ o=>?_
  | refine G8 fH ((aa ρ 0 4).cz (az ρ 71)) rfl ⟨ok,g,q,r,s,λh=>(f h).elim λd h=>h.elim λl h=>⟨d,l,Eq.trans lD h.1,cast (congrArg (λl:List Nt=>d∈l) (Eq.symm lN)) h.2⟩⟩ λe ⟨j,i,k⟩ o=>?_
 all_goals refine Sat.fin ⟨lO,Eq.trans (b:=((aa ρ 0 4).aB (az ρ 71)).1) ?_ rfl⟩
 all_goals (unfold RS.aB;simp only [lS,lT,Nat.reduceAdd];repeat' split)
 all_goals first | omega | exact lf | (refine Eq.trans ?_ ‹aa _ 0 _=_›;exact lf)
theorem aaP:aK Tryz.prog pQ zJ Qj :=
 bq bM (E:=ac2) (cs:=NL) rfl aaM aO rfl aaN (by kernel_rfl) (λb h p a=>by
   obtain ⟨-,h,-⟩:=h
   simp only [knT,List.mem_cons,List.not_mem_nil,or_false] at a
   subst a
   exact beq_eq_false_iff_ne.2 h) aaO
def Yj:SC->Bool
 | .int _ (.lit 0)=>true
 | .bool (.lit false)=>true
 | .dA=>true
 | .hole=>true
 | _=>false
theorem ag4 {ρ:Env} {c:SC} (h:Yj c=true):c.I ρ=0/\c.B ρ=false:=by
 unfold Yj at h
 split at h
 ·exact ⟨rfl,rfl⟩
 ·exact ⟨rfl,rfl⟩
 ·exact ⟨rfl,rfl⟩
 ·exact ⟨rfl,rfl⟩
 ·cases h
theorem MP {ρ:Env}:∀{cs:List SC},cs.all Yj=true->∀p,Yj (cs.getD p .hole)=true
 | [],_,p=>rfl
 | c :: r,h,p=>by
  simp only [List.all_cons,Bool.and_eq_true] at h
  cases p with
  | zero=>exact h.1
  | succ p=>exact MP (ρ:=ρ) h.2 p
theorem zK {ρ:Env} {cs:List SC} {lo p:Nat} (h:(cs.drop lo).all Yj=true) (a:lo<=p):(cs.getD p .hole).I ρ=0/\(cs.getD p .hole).B ρ=false:=by
 have:=MP (ρ:=ρ) h (p-lo)
 rw [show (cs.drop lo).getD (p-lo) .hole=cs.getD p .hole by simp [List.getD_eq_getElem?_getD,List.getElem?_drop,show lo+(p-lo)=p by omega]] at this
 exact ag4 this
def knN:Kn:=[(.aY (.var 0) (.lit 1),false),(.aY (.lit 5) (.var 0),false),(.aY (.var 2) (.lit 1),false),(.aY (.lit 6) (.var 2),false),(.aY (.var 1) (.lit 0),false),(.ah (.var 2) (.var 1),false),(.aY (.var 3) (.lit 1),false),(.aY (.lit 64) (.var 3),false)]
noncomputable def ac4:Ex:={sched:=sched,loops:=[],fin:=q9}
def Lg:Out :=
 .fin {lo:=4,ae:=0,iv:=[yz 65,yz 64,yz 63,yz 62,yz 61,yz 60,yz 59,yz 57,yz 56,yz 53,yz 52,yz 50,yz 49,yz 47,yz 45,yz 44,yz 43,yz 42,yz 40,yz 39,yz 38,yz 37,yz 35,yz 34,yz 33,yz 32,yz 30,yz 29,yz 28,yz 27,yz 26,yz 25,yz 24,yz 23,yz 22,yz 21,yz 20,yz 19,yz 18,yz 16,yz 15,yz 14,yz 13,yz 11,yz 10,yz 9,yz 8,yz 7,yz 6,yz 5,yz 4],bv:=[(67,.lit false),(66,.lit false),(58,.lit true),(55,.lit false),(51,.lit true),(48,.lit true),(46,.lit false),(41,.lit false),(36,.lit false),(31,.lit false),(17,.lit false),(12,.lit false)],ct:=[(54,.ex [y2,y2,y2,y2,y2,y2,y2,y2,y3,y2,y2,y2,y2,y3,y2,y2,y2,y2,y2,y2,y2,y2,y2,y2,y2,y2,y2,y3,y2,y2,y2,y2,y3,y2,y2,y2,y2,y3,y2,y2,y2,y2,y3,y2,.dA,.dA,.int .i64 (.var 0),.int .i64 (.var 1),.int .i64 (.var 2),.int .i64 (.var 3),y2,y2,y2,y2,y3,y2,y2,y2,y2,y3,y2,y2,y2,y2,y3,y2,y2,y2,y2,y3,y2,y2,y2,y2,y3,y2,y2,y2,y2,y3,y2,y2,y2,y2,y3,y2,y2,y2,y2,y3,y2,y2,y2,y2,y3,y3,y2,y2,.dA,y2,y2,y2,y2,y2,y3,y3] 5 0 50)],bk:=[(0,yb 0)],nb:=[3,2,1,3,2,1]}
theorem aaQ:exec tab ac4 8000 [] (bZ q9.f q9.nv knN q9.gl q9.hp q9.args)=Lg:=by kernel_rfl
def Te (ρ:Env):Prop:=(1<=ρ.iv 0/\ρ.iv 0<=5)/\(0<=ρ.iv 1/\ρ.iv 1<ρ.iv 2)/\(1<=ρ.iv 2/\ρ.iv 2<=6)/\1<=ρ.iv 3/\ρ.iv 3<=64
def Qk (ρ:Env):Prop:=dw ρ 4/\aa ρ 0 4=RS.new (ρ.iv 0) (ρ.iv 1) (ρ.iv 2) (ρ.iv 3)
theorem aaR (ρ:Env) (a:Te ρ.num):Sat Qk [] [] ρ Lg:=by
 unfold Lg
 have b:=True.intro
 refine Sat.fin ⟨⟨qE rfl rfl,⟨qE rfl rfl,Int.le_refl 0,.inl rfl⟩,qE rfl rfl⟩,RS.ext' rfl rfl rfl rfl rfl rfl (DX rfl) (oV rfl) rfl rfl rfl rfl (λi=>?_) rfl (DY rfl) rfl rfl⟩
 refine DZ.2 ⟨?_,?_,?_,?_,?_⟩
 ·show ((_:List SC).getD (i * 5+0 * 0+50+0) .hole).I ρ=0
  exact (zK (lo:=50) (by rfl) (by omega)).1
 ·show ((_:List SC).getD (i * 5+0 * 0+50+1) .hole).I ρ=0
  exact (zK (lo:=50) (by rfl) (by omega)).1
 ·show ((_:List SC).getD (i * 5+0 * 0+50+2) .hole).I ρ=0
  exact (zK (lo:=50) (by rfl) (by omega)).1
 ·show ((_:List SC).getD (i * 5+0 * 0+50+3) .hole).I ρ=0
  exact (zK (lo:=50) (by rfl) (by omega)).1
 ·show ((_:List SC).getD (i * 5+0 * 0+50+4) .hole).B ρ=false
  exact (zK (lo:=50) (by rfl) (by omega)).2
theorem aaS:aK Tryz.prog q9 Te Qk :=
 bq bM (E:=ac4) (cs:=[]) rfl (λk pre post h=>by cases h) aO rfl aaQ (by kernel_rfl) (λa h p b=>by
   obtain ⟨⟨a1,a2⟩,⟨c,d⟩,⟨c1,c2⟩,d1,d2⟩:=h
   simp only [knN,List.mem_cons,List.not_mem_nil,or_false] at b
   rcases b with rfl | rfl | rfl | rfl | rfl | rfl | rfl | rfl
   · exact decide_eq_false (show ¬a.num.iv 0<1 by omega)
   · exact decide_eq_false (show ¬5<a.num.iv 0 by omega)
   · exact decide_eq_false (show ¬a.num.iv 2<1 by omega)
   · exact decide_eq_false (show ¬6<a.num.iv 2 by omega)
   · exact decide_eq_false (show ¬a.num.iv 1<0 by omega)
   · exact decide_eq_false (show ¬a.num.iv 2<=a.num.iv 1 by omega)
   · exact decide_eq_false (show ¬a.num.iv 3<1 by omega)
   · exact decide_eq_false (show ¬64<a.num.iv 3 by omega)) aaR
def nJ:dJ:={p9 39 0 [] (.iB [.agg (KQ 138),.one (.bool (.var 152))]) with iV:=153}
def mf:dJ:={p9 38 0 [] (.w (.agg (qZ 138))) with iV:=144}
def knX:Kn:=[(.ag (.var 22) (.lit 0),false)]
noncomputable def Yk:Ex:={sched:=sched,loops:=[],fin:=nJ}
abbrev ac5:List (Nat × CV):=[(137,yu 70 59 7 yN 0),(136,yu 69 70 7 yN 0),(135,yu 68 49 5 yW 0),(121,yl 54 9 5 50 yW 0)]
def Hr:Out :=
 .fin {lo:=71,ae:=4,iv:=yU (yr 150 35 4<|yr 145 30 8<|[])<|yD 67 ang,bv:=yV [(152,.lit true),(151,yw 36),(146,yw 31)]<|yE 67 anh,ct:=ac5,bk:=[(6,yc 3 7),(5,yc 2 7),(4,yc 1 5)]}
theorem Yl:exec tab Yk 8000 [] (bZ nJ.f nJ.nv knX nJ.gl nJ.hp nJ.args)=Hr:=by kernel_rfl
def Bv (ρ:Env):Prop:=dw ρ 4/\¬ρ.iv 22=0
def MQ (ρ:Env):Prop:=dw ρ 71/\(bL ρ 138=(aa ρ 0 4).acc/\ρ.bv 152=true)/\aa ρ 0 71=aa ρ 0 4
theorem Ym (ρ:Env) (a:Bv ρ.num):Sat MQ [] [] ρ Hr:=by
 replace a:Bv ρ:=a
 obtain ⟨⟨f,e,d⟩,c⟩:=a
 unfold Hr
 exact Sat.fin ⟨il,⟨rfl,rfl⟩,Eq.trans (b:=(aa ρ 0 4)) bI (Eq.symm (rfl))⟩
theorem Yn:aK Tryz.prog nJ Bv MQ :=
 bq bM (E:=Yk) (cs:=[]) rfl (λk pre post h=>by cases h) aO rfl Yl (by kernel_rfl) (λb h p a=>by
   obtain ⟨-,h⟩:=h
   simp only [knX,List.mem_cons,List.not_mem_nil,or_false] at a
   subst a
   exact beq_eq_false_iff_ne.2 h) Ym
noncomputable def Tf:Ex:={sched:=sched,loops:=[],fin:=mf}
def Ee:Out :=
 .fin {lo:=71,ae:=4,iv:=yU (yr 141 65 4<|[])<|yD 67 ani,bv:=yV [(143,yw 67),(142,yw 66)]<|yE 67 anj,ct:=ac5,bk:=[(6,yc 3 7),(5,yc 2 7),(4,yc 1 5)]}
theorem Vv:exec tab Tf 8000 [] (bZ mf.f mf.nv [] mf.gl mf.hp mf.args)=Ee:=by kernel_rfl
def xV (ρ:Env):Prop:=dw ρ 4
def JF (ρ:Env):Prop:=dw ρ 71/\az ρ 138=(aa ρ 0 4).bS/\aa ρ 0 71=aa ρ 0 4
theorem Vw (ρ:Env) (a:xV ρ.num):Sat JF [] [] ρ Ee:=by
 replace a:xV ρ:=a
 obtain ⟨e,d,c⟩:=a
 unfold Ee
 exact Sat.fin ⟨il,rfl,Eq.trans (b:=(aa ρ 0 4)) bI (Eq.symm (rfl))⟩
theorem Vx:aK Tryz.prog mf xV JF :=
 bq bM (E:=Tf) (cs:=[]) rfl (λk pre post h=>by cases h) aO rfl Vv (by kernel_rfl) (λb _ p a=>by cases a) Vw
def ac6:Kn:=[(.aY (.var 0) (.lit 0),false),(.aY (.lit 1024) (.var 0),false),(.aY (.var 1) (.lit 0),false),(.aY (.lit 200) (.var 1),false)]
noncomputable def ag5:Ex:={sched:=sched,loops:=[L13],fin:=rU}
abbrev ag6:List (Nat × IE):=[(11,yv 11),(10,yv 10),(8,yv 13),(7,.add (.var 7) y1),(2,.sub (.var 2) y1)]
abbrev ag7:List (Nat × CV):=[(11,yu 9 7 1 yI 0),(10,.up {r:=5,n1:=.var 0,s1:=52,n2:=10,s2:=5,lo:=2,ks:=yW} 1 [] y0),(9,yu 4 0 52 yB 0),(8,yu 3 1 5 yW 0)]
def Ql:Out :=
 .alt
 (.ob (.ah y0 (.var 1)) <|
  .ob (.ah (.mul (.var 1) (.lit 40)) (.lit 281474976710656)) <|
  .ob (.ah (.var 1) (.lit 9223372036854775807)) <|
  .ob (.ah y0 (.var 0)) <|
  .ob (.ah (.mul (.var 0) (.lit 416)) (.lit 281474976710656)) <|
  .ob (.ah (.var 0) (.lit 9223372036854775807)) <|
  .loop 2 {lo:=2,ae:=3,iv:=[yz 11,yz 10,yz 8,yz 7,(2,yv 0)],bv:=[(12,.lit true),(6,.lit true)],ct:=[(5,.up {r:=0,n1:=.var 0,s1:=52,n2:=10,s2:=5,lo:=2,ks:=yW,z:=true} 1 [] y0),(4,.up {r:=0,n1:=.var 0,s1:=52,ks:=yB,z:=true} 0 [] y0),(3,.up {r:=0,n1:=.var 1,s1:=5,ks:=yW,z:=true} 0 [] y0)],nb:=[4,3,4,3]} <|
  .br (.ah y1 (.var 2))
  (.ob (.ah (.mul (.add (.var 7) y1) (.lit 8)) (.lit 140737488355328)) <|
   .ob (.ah y0 (.var 7)) <|
   .ob (.ah (.var 7) (.var 8)) <|
   .ob (.ah (.var 8) (.lit 9223372036854775807)) <|
   .ob (.or (.not (.var 6)) (.ag (.var 7) y0)) <|
   .new 13 [.be (.and (.ah (.add (.var 7) y1) (.var 13)) (.ah (.var 13) (.lit 9223372036854775807)))] <|
   .ob (.inr .i64 (.sub (.var 2) y1)) <|
   .back 0 {lo:=2,ae:=3,iv:=ag6,bv:=[(12,yw 12),(6,.lit false)],ct:=[(9,.up {r:=9,n1:=.add (.var 7) y1,s1:=1,ks:=yI} 0 [⟨0,(.var 7),y0,0,.int .i64 (.var 2)⟩] y0),(5,.up {r:=5,n1:=.var 0,s1:=52,n2:=10,s2:=5,lo:=2,ks:=yW} 1 [] y0),(4,yu 4 0 52 yB 0),(3,yu 3 1 5 yW 0)],bk:=[(4,yb 4),(3,yc 6 1)]})
  (.fin {lo:=2,ae:=0,iv:=[(6,yv 11),(5,yv 10),(4,yv 8),(3,yv 7)],bv:=[(7,yw 12),(2,yw 6)],ct:=ag7,bk:=[(4,yb 4),(3,yc 3 1),(2,yc 1 52),(1,yc 0 5),(0,yb 2)]}))
 (.ob (.ah y0 (.var 0)) <|
  .ob (.ah (.mul (.var 0) (.lit 416)) (.lit 281474976710656)) <|
  .ob (.ah (.var 0) (.lit 9223372036854775807)) <|
  .ob (.ah y0 (.var 1)) <|
  .ob (.ah (.mul (.var 1) (.lit 40)) (.lit 281474976710656)) <|
  .ob (.ah (.var 1) (.lit 9223372036854775807)) <|
  .loop 2 {lo:=2,ae:=3,iv:=[yz 11,yz 10,yz 8,yz 7,(2,yv 0)],bv:=[(12,.lit true),(6,.lit true)],ct:=[(3,.up {r:=0,n1:=.var 1,s1:=5,ks:=yW,z:=true} 0 [] y0),(5,.up {r:=0,n1:=.var 0,s1:=52,n2:=10,s2:=5,lo:=2,ks:=yW,z:=true} 1 [] y0),(4,.up {r:=0,n1:=.var 0,s1:=52,ks:=yB,z:=true} 0 [] y0)],nb:=[4,3,4,3]} <|
  .br (.ah y1 (.var 2))
  (.ob (.ah (.mul (.add (.var 7) y1) (.lit 8)) (.lit 140737488355328)) <|
   .ob (.ah y0 (.var 7)) <|
   .ob (.ah (.var 7) (.var 8)) <|
   .ob (.ah (.var 8) (.lit 9223372036854775807)) <|
   .ob (.or (.not (.var 6)) (.ag (.var 7) y0)) <|
   .new 13 [.be (.and (.ah (.add (.var 7) y1) (.var 13)) (.ah (.var 13) (.lit 9223372036854775807)))] <|
   .ob (.inr .i64 (.sub (.var 2) y1)) <|
   .back 0 {lo:=2,ae:=3,iv:=ag6,bv:=[(12,yw 12),(6,.lit false)],ct:=[(9,.up {r:=9,n1:=.add (.var 7) y1,s1:=1,ks:=yI} 0 [⟨0,(.var 7),y0,0,.int .i64 (.var 2)⟩] y0),(3,yu 3 1 5 yW 0),(5,.up {r:=5,n1:=.var 0,s1:=52,n2:=10,s2:=5,lo:=2,ks:=yW} 1 [] y0),(4,yu 4 0 52 yB 0)],bk:=[(4,yb 4),(3,yc 6 1)]})
  (.fin {lo:=2,ae:=0,iv:=[(6,yv 11),(5,yv 10),(4,yv 8),(3,yv 7)],bv:=[(7,yw 12),(2,yw 6)],ct:=ag7,bk:=[(4,yb 4),(3,yc 3 1),(2,yc 0 52),(1,yc 1 5),(0,yb 2)]}))
theorem aeB:exec tab ag5 8000 [] (bZ rU.f rU.nv ac6 rU.gl rU.hp rU.args)=Ql:=by kernel_rfl
def uC (ρ:Env):Prop:=(0<=ρ.iv 0/\ρ.iv 0<=1024)/\0<=ρ.iv 1/\ρ.iv 1<=200
def Fp (ρ:Env):Prop:=bE ρ 2/\∃p:PS,bA ρ (ρ.iv 1) (ρ.iv 0) 2=p/\p.nb=ρ.iv 1/\p.ns=ρ.iv 0/\p.nf=ρ.iv 0/\p.steps=0/\p.made=0/\p.bP=true/\(∀i,p.bd i=Wd.zero)/\(∀i,p.gen i=0)/\(∀i,p.used i=false)/\(∀i k,p.cell i k=Wd.zero)/\∀i:Nat,(i:Int)<ρ.iv 0->p.fr i=ρ.iv 0-i
def zL (ρ:Env):Prop:=(0<=ρ.iv 2/\ρ.iv 2<=ρ.iv 0)/\bE ρ 6/\ρ.iv 7=ρ.iv 0-ρ.iv 2/\ρ.iv 10=0/\ρ.iv 11=0/\ρ.bv 12=true/\(∀i,bu (ρ.ic 3 i 0) (ρ.bc 3 i 0)=Wd.zero)/\(∀i,ρ.ic 4 i 0 0=0/\ρ.bc 4 i 0 1=false)/\(∀i k,bu (ρ.ic 5 i k) (ρ.bc 5 i k)=Wd.zero)/\∀i:Nat,(i:Int)<ρ.iv 7->ρ.ic 9 i 0 0=ρ.iv 0-i
theorem aaT {q:Env} (a:uC q) {σ:Sub} {k:Out} (d:zL (σ.bT q)) (b:∀r,uC r->zL r->∀Γ,Γ=(λρ':Env=>zL ρ'/\ρ'.iv 2+1<=r.iv 2/\0<=ρ'.iv 2)->Sat Fp [] [λρ'=>zL ρ'/\(ρ'.iv 2).toNat<(r.num.iv 2).toNat] r k):Sat Fp [] [] q (.loop 2 σ k) :=
 Sat.qD zL (λr=>(r.iv 2).toNat) uC d (λ_=>a) λr a c=>b r a c _ rfl
set_option maxHeartbeats 1000000 in
theorem aeC (q:Env) (a:uC q.num):Sat Fp [] [] q Ql:=by
 replace a:uC q:=a
 obtain ⟨⟨a1,a2⟩,a3,a4⟩:=id a
 unfold Ql
 refine Sat.alt ?_ ?_
 all_goals
  refine oS (oS (oS (oS (oS (oS (aaT a ?_ λr A B _ _=>?_))))))
  ·refine ⟨⟨a1,Int.le_refl _⟩,⟨λ_=>rfl,Int.le_refl 0,Int.le_refl 0,by show (0:Int)<=_;decide⟩,?_,rfl,rfl,rfl,λi=>?_,λi=>?_,λi k=>?_,λi e=>?_⟩
   ·show (0:Int)=q.iv 0-q.iv 0
    omega
   ·simp [bu,Wd.zero,-Int.pred_toNat,Na]
   ·simp [-Int.pred_toNat,Na]
   ·simp [bu,Wd.zero,-Int.pred_toNat,Na]
   ·have:(i:Int)<0:=e
    omega
  ·obtain ⟨⟨a1,a2⟩,a3,a4⟩:=A
   obtain ⟨⟨w,s⟩,c,t,m,g,n,j,f,l,b⟩:=B
   refine Sat.br (λd=>?_) (λo=>?_)
   ·simp only [Da] at d
    refine oS (Sat.ob (decide_eq_true c.2.1) (Sat.ob (decide_eq_true c.2.2.1) (Sat.ob (decide_eq_true c.2.2.2) (Sat.ob (dP c) (Sat.uK (λu=>uC u/\zL u/\1<=u.iv 2/\(u.iv 2-1).toNat<(r.num.iv 2).toNat) (λ_=>⟨⟨⟨a1,a2⟩,a3,a4⟩,⟨⟨w,s⟩,c,t,m,g,n,j,f,l,b⟩,d,by show (r.iv 2-1).toNat<(r.iv 2).toNat;omega⟩) λu D p=>?_)))))
    obtain ⟨⟨⟨a1,a2⟩,a3,a4⟩,⟨⟨w,s⟩,c,t,m,g,n,j,f,l,b⟩,d,E⟩:=D
    simp only [Da] at p
    have G:0<=u.iv 7:=c.2.1
    refine oS (Sat.back rfl ⟨⟨⟨by show 0<=u.iv 2-1;omega,by show u.iv 2-1<=u.iv 0;omega⟩,⟨λh=>(by cases h),by show 0<=u.iv 7+1;omega,p.1,p.2⟩,by show u.iv 7+1=u.iv 0-(u.iv 2-1);omega,m,g,n,λi=>?_,λi=>?_,λi k=>?_,λi e=>?_⟩,E⟩)
    ·rw [<-j i]
     simp [bu,-Int.pred_toNat,Na]
    ·obtain ⟨x,y⟩:=f i
     refine ⟨?_,?_⟩
     ·simp [-Int.pred_toNat,Na,x]
     ·simp [-Int.pred_toNat,Na,y]
    ·rw [<-l i k]
     simp [bu,-Int.pred_toNat,Na]
    ·replace e:(i:Int)<u.iv 7+1:=e
     by_cases h:i=(u.iv 7).toNat
     ·subst h
      have:(((u.iv 7).toNat:Nat):Int)=u.iv 7:=by omega
      simp [-Int.pred_toNat,Na]
      omega
     ·have C:=b i (by omega)
      have z:u.iv 0-(i:Int)=(u.iv 0-(i:Int)):=rfl
      simp [-Int.pred_toNat,Na,Ne.symm h,C]
   ·simp only [Da] at o
    have F:r.iv 2=0:=by omega
    refine Sat.fin ⟨c,_,rfl,rfl,rfl,?_,m,g,n,λi=>?_,λi=>?_,λi=>?_,λi k=>?_,λi e=>?_⟩
    ·show r.iv 7=r.iv 0
     omega
    ·rw [<-j i]
     simp [bA,bu,-Int.pred_toNat,Na]
    ·simp [bA,-Int.pred_toNat,Na,(f i).1]
    ·simp [bA,-Int.pred_toNat,Na,(f i).2]
    ·rw [<-l i k]
     simp [bA,bu,-Int.pred_toNat,Na]
    ·replace e:(i:Int)<r.iv 0:=e
     show _=r.iv 0-(i:Int)
     rw [<-b i (by omega)]
     simp [bA,-Int.pred_toNat,Na]
theorem aeD:aK Tryz.prog rU uC Fp :=
 bq bM (E:=ag5) (cs:=[]) rfl (λk pre post h=>by cases h) aO rfl aeB (by kernel_rfl) (λb h p a=>by
   obtain ⟨⟨a1,a2⟩,a3,a4⟩:uC b.num:=h
   simp only [ac6,List.mem_cons,List.not_mem_nil,or_false] at a
   rcases a with rfl | rfl | rfl | rfl <;> simp only [Da] <;> omega) aeC
end Go.Proofs.YthomdlajobnmnaaGreatDoor
namespace Go.Rex
def Env.pull (f:Nat->Nat) (ρ:Env):Env:=⟨λi=>ρ.iv (f i),λi=>ρ.bv (f i),λi=>ρ.vv (f i),λi=>ρ.ic (f i),λi=>ρ.bc (f i),λi=>ρ.vc (f i)⟩
def Env.cat (N:Nat) (ρ e:Env):Env where
 iv:=λi=>if i<N then ρ.iv i else e.iv (i-N)
 bv:=λi=>if i<N then ρ.bv i else e.bv (i-N)
 vv:=λi=>if i<N then ρ.vv i else e.vv (i-N)
 ic:=λi=>if i<N then ρ.ic i else e.ic (i-N)
 bc:=λi=>if i<N then ρ.bc i else e.bc (i-N)
 vc:=λi=>if i<N then ρ.vc i else e.vc (i-N)
def yK (n:Nat) (ν a:Nat->Addr):Nat->Addr:=λk=>if k<n then ν k else a (k-n)
theorem Env.Qm (N:Nat) (ρ e:Env):(ρ.cat N e).pull (N+·)=e:=by
 have h:∀i,¬N+i<N:=λi=>by omega
 have a:∀i,N+i-N=i:=λi=>by omega
 cases e
 simp only [Env.pull,Env.cat,if_neg (h _),a]
theorem Fq (n:Nat) (ν a:Nat->Addr) (k:Nat):yK n ν a (n+k)=a k:=by
 grind [yK]
theorem zM (n:Nat) (ν a:Nat->Addr) {k:Nat} (h:k<n):yK n ν a k=ν k:=if_pos h
theorem bY.cat (N n:Nat) (ρ e:Env) (ν a:Nat->Addr):bY N n ρ (ρ.cat N e) ν (yK n ν a) :=
 ⟨λ_ h=>if_pos h,λ_ h=>if_pos h,λ_ h=>if_pos h,λ_ h=>if_pos h,λ_ h=>if_pos h,λ_ h=>if_pos h,λ_ h=>if_pos h⟩
section
variable (f g:Nat->Nat)
def IE.aX:IE->IE
 | .lit n=>.lit n
 | .var i=>.var (f i)
 | .add a b=>.add a.aX b.aX
 | .sub a b=>.sub a.aX b.aX
 | .mul a b=>.mul a.aX b.aX
 | .div a b=>.div a.aX b.aX
 | .mod a b=>.mod a.aX b.aX
 | .wrap k a=>.wrap k a.aX
 | .sK a b=>.sK a.aX b.aX
 | .imax a b=>.imax a.aX b.aX
 | .cell r a b j=>.cell (f r) a.aX b.aX j
def BE.aX:BE->BE
 | .lit b=>.lit b
 | .var i=>.var (f i)
 | .not a=>.not a.aX
 | .and a b=>.and a.aX b.aX
 | .or a b=>.or a.aX b.aX
 | .ite a b c=>.ite a.aX b.aX c.aX
 | .ag a b=>.ag (a.aX f) (b.aX f)
 | .ah a b=>.ah (a.aX f) (b.aX f)
 | .aY a b=>.aY (a.aX f) (b.aX f)
 | .beq a b=>.beq a.aX b.aX
 | .inr k a=>.inr k (a.aX f)
 | .cell r a b j=>.cell (f r) (a.aX f) (b.aX f) j
def SA.aX (a:SA):SA:={ak:=g a.ak,i1:=a.i1.aX f,s1:=a.s1,i2:=a.i2.aX f,s2:=a.s2,j:=a.j}
def SC.aX:SC->SC
 | .int k e=>.int k (e.aX f)
 | .bool b=>.bool (b.aX f)
 | .str l=>.str l
 | .val i=>.val (f i)
 | .kV r a b j=>.kV (f r) (a.aX f) (b.aX f) j
 | .ptr a=>.ptr (a.aX f g)
 | .dB=>.dB
 | .sl a l c=>.sl (a.aX f g) (l.aX f) (c.aX f)
 | .dA=>.dA
 | .eu k a l c=>.eu (k.aX f) (a.aX f g) (l.aX f) (c.aX f)
 | .fn h d=>.fn h (d.map g)
 | .mI=>.mI
 | .iface t c=>.iface t c.aX
 | .dW=>.dW
 | .jH c x=>.jH (c.aX f) x.aX
 | .mp b=>.mp (g b)
 | .ug=>.ug
 | .rt t b o=>.rt t b o
 | .hole=>.hole
def aU.aX (s:aU):aU:={s with r:=f s.r,n1:=s.n1.aX f}
def Up.aX (u:Up):Up:={g:=u.g,i1:=u.i1.aX f,i2:=u.i2.aX f,j:=u.j,c:=u.c.aX f g}
def SB.aX (b:SB):SB:={b with cs:=b.cs.map (SC.aX f g),bz:=b.bz.map (aU.aX f),ups:=b.ups.map (Up.aX f g),cap:=b.cap.map λx=>(x.1.aX f,x.2),nl:=b.nl.aX f}
variable {f g} {ρ:Env} {ν:Nat->Addr}
theorem IE.gz (e:IE):(e.aX f).den ρ=e.den (ρ.pull f):=by
 induction e <;> simp_all [IE.aX,IE.den,Env.pull]
theorem BE.gz (e:BE):(e.aX f).den ρ=e.den (ρ.pull f):=by
 induction e <;> simp_all [BE.aX,BE.den,IE.gz]
 all_goals rfl
theorem SA.gz (a:SA):(a.aX f g).den ρ ν=a.den (ρ.pull f) (λk=>ν (g k)):=by
 grind [SA.aX,SA.den,SA.off,IE.gz]
theorem SC.gz (c:SC):(c.aX f g).den ρ ν=c.den (ρ.pull f) (λk=>ν (g k)):=by
 induction c with
 | fn h d=>simp only [SC.aX,SC.den,List.map_map];rfl
 | val i=>rfl
 | kV r a b j=>simp only [SC.aX,SC.den,IE.gz];rfl
 | _=>simp_all [SC.aX,SC.den,IE.gz,BE.gz,SA.gz]
theorem SC.Qn (c:SC):(c.aX f g).isHole=c.isHole:=by
 induction c <;> simp_all [SC.aX,SC.isHole]
theorem aU.Qo (s:aU) (a b j:Nat):(s.aX f).base ρ a b j=s.base (ρ.pull f) a b j:=rfl
theorem Bw (gi a c j:Nat) (b:Value):∀us:List Up,dD ρ ν (us.map (Up.aX f g)) gi a c j b=dD (ρ.pull f) (λk=>ν (g k)) us gi a c j b
 | []=>rfl
 | u :: r=>by
  simp only [List.map_cons,dD,Bw gi a c j b r]
  simp only [Up.aX,IE.gz,SC.gz]
theorem SB.kR (b:SB):(b.aX f g).dead ρ=b.dead (ρ.pull f):=by
 grind [SB.dead,SB.aX,BE.gz]
theorem SB.Fs (b:SB) {arr:Array Value}:(b.aX f g).has ρ ν arr↔b.has (ρ.pull f) (λk=>ν (g k)) arr:=by
 constructor
 ·intro h
  refine ⟨λu l=>?_,λd a=>?_,λe n i=>?_,λp c q r=>?_,λy s w x o j d a t=>?_⟩
  ·have:=h.un (u.aX f g) (List.mem_map.2 ⟨u,l,rfl⟩)
   all_goals grind [Up.aX,IE.gz]
  ·have:=h.size (by simp [SB.aX,d]) a
   simpa [SB.aX] using this
  ·have:=h.cap (e.aX f) n (by simp [SB.aX,i])
   simpa only [IE.gz] using this
  ·have:=h.ex p (c.aX f g) (by simp [SB.aX,q]) (by rw [SC.Qn];exact r)
   rwa [SC.gz] at this
  ·have:=h.sg y (s.aX f) (by simp [SB.aX,w]) x o j (by simpa only [aU.aX,IE.gz] using d) a t
   all_goals grind [aU.Qo,SB.aX,Bw,aU.aX]
 ·intro h
  refine ⟨λu l=>?_,λd a=>?_,λe n i=>?_,λp c q r=>?_,λy s w x o j d a t=>?_⟩
  ·simp only [SB.aX,List.mem_map] at l
   obtain ⟨B,m,rfl⟩:=l
   have:=h.un B m
   all_goals grind [Up.aX,IE.gz]
  ·have:=h.size (by simpa [SB.aX] using d) a
   simpa [SB.aX] using this
  ·simp only [SB.aX,Option.map_eq_some_iff] at i
   obtain ⟨⟨A,z⟩,i,a⟩:=i
   simp only [Prod.mk.injEq] at a
   obtain ⟨rfl,rfl⟩:=a
   have:=h.cap A z i
   simpa only [IE.gz] using this
  all_goals grind [SB.aX,Option.map_eq_some_iff,SC.Qn,SC.gz,SB.has.ex,SB.has.sg,Np.sg,aU.aX,IE.gz,aU.Qo,Bw]
theorem SB.Qp (b:SB) {w:World} {k:Nat}:Ah (b.aX f g) w k↔Ah b w k:=by
 unfold Ah
 simp [SB.aX]
end
theorem aD.sub {ρ:Env} {ν:Nat->Addr} {w:World} {H c:List SB} {f g:Nat->Nat} (h:aD ρ ν H w) (s:(List.range c.length).map (λj=>H[g j]?)=c.map λsb=>some (sb.aX f g))
  (t:∀i j,i<c.length->j<c.length->g i=g j->i=j):aD (ρ.pull f) (λk=>ν (g k)) c w:=by
 have at_:∀(k:Nat) (sb:SB),c[k]?=some sb->H[g k]?=some (sb.aX f g):=λk sb e=>by
  have q:=(List.getElem?_eq_some_iff.1 e).1
  have:=congrArg (λl=>l[k]?) s
  all_goals grind
 refine ⟨λi j a b m d d1 d2 r u=>?_,λk sb e hd n=>?_,λk sb e hd n=>?_⟩
 ·refine t i j (List.getElem?_eq_some_iff.1 m).1 (List.getElem?_eq_some_iff.1 d).1 ?_
  exact h.inj (g i) (g j) _ _ (at_ i a m) (at_ j b d) (by rw [SB.kR];exact d1) (by rw [SB.kR];exact d2) r u
 ·obtain ⟨m,o,d,p⟩:=h.ak (g k) _ (at_ k sb e) (by rw [SB.kR];exact hd) n
  exact ⟨m,o,d,SB.Fs sb |>.1 p⟩
 ·obtain ⟨m,o,d,p⟩:=h.rd (g k) _ (at_ k sb e) (by rw [SB.kR];exact hd) n
  all_goals grind [SB.Qp,SB.Fs]
theorem aD.app {ρ:Env} {ν:Nat->Addr} {w:World} {d hq:List SB} {f:Nat->Nat} (t:aD ρ ν d w) (l:aD (ρ.pull f) (λk=>ν (d.length+k)) hq w)
  (hd:∀(i j:Nat) (a b:SB),d[i]?=some a->hq[j]?=some b->a.dead ρ=false->b.dead (ρ.pull f)=false->a.ro=false\/b.ro=false->(ν i).block≠(ν (d.length+j)).block):aD ρ ν (d ++ hq.map (SB.aX f (d.length+·))) w:=by
 have at_:∀(k:Nat) (sb:SB),(d ++ hq.map (SB.aX f (d.length+·)))[k]?=some sb->d[k]?=some sb\/∃j b,k=d.length+j/\hq[j]?=some b/\sb=b.aX f (d.length+·):=λk sb h=>by
  grind
 refine ⟨λi j a b A B d1 d2 r u=>?_,λk sb h c g=>?_,λk sb h c g=>?_⟩
 ·rcases at_ i a A with n | ⟨x,s,rfl,n,rfl⟩
  ·grind [aD.inj,aU.inj,SB.kR]
  ·rw [SB.kR] at d1
   rcases at_ j b B with o | ⟨y,z,rfl,o,rfl⟩
   ·exact absurd u.symm (hd j x b s o n d2 d1 (.inr r))
   ·rw [SB.kR] at d2
    have:=l.inj x y s z n o d1 d2 r u
    omega
 ·rcases at_ k sb h with e | ⟨j,b,rfl,e,rfl⟩
  ·exact t.ak k sb e c g
  ·rw [SB.kR] at c
   obtain ⟨p,m,g2,q⟩:=l.ak j b e c g
   exact ⟨p,m,g2,SB.Fs b |>.2 q⟩
 ·rcases at_ k sb h with e | ⟨j,b,rfl,e,rfl⟩
  ·exact t.rd k sb e c g
  ·rw [SB.kR] at c
   obtain ⟨p,m,g2,q⟩:=l.rd j b e c g
   exact ⟨SB.Qp b |>.2 p,m,SB.Fs b |>.2 g2,q⟩
theorem mJ.sub {z:Nat} {W:Nat->Prop} {ρ:Env} {ν:Nat->Addr} {H a:List SB} {f g:Nat->Nat} (h:mJ z W ρ ν H) (e:(List.range a.length).map (λj=>H[g j]?)=a.map λsb=>some (sb.aX f g)):mJ z W (ρ.pull f) (λk=>ν (g k)) a:=by
 intro k sb c d hd
 have b:=(List.getElem?_eq_some_iff.1 c).1
 have:=congrArg (λl=>l[k]?) e
 simp only [List.getElem?_map,List.getElem?_range b,c,Option.map_some] at this
 have:=h (g k) (sb.aX f g) (Option.some.inj this) d (by rw [SB.kR];exact hd)
 exact this
theorem aeE {z:Nat} {W:Nat->Prop} {ρ:Env} {ν:Nat->Addr} {a:List SB} (h:mJ z W ρ ν a) {b:Nat} (f:jB ρ ν a b):z<=b\/W b:=by
 obtain ⟨k,sb,d,c,e,rfl⟩:=f
 exact h k sb d c e
def o6 (a:List SB):Bool:=a.all λb=>b.gone || (b.own && !b.ro)
theorem xW {a:List SB} (h:o6 a=true) {k:Nat} {sb:SB} (b:a[k]?=some sb) (c:sb.gone=false):sb.own=true/\sb.ro=false:=by
 have:=List.all_eq_true.1 h sb (List.mem_of_getElem? b)
 simpa [c] using this
theorem aD.frame {ρ:Env} {ν:Nat->Addr} {c:List SB} {w w':World} (e:o6 c=true) (h:aD ρ ν c w) (f:∀b,jB ρ ν c b->w'.heap[b]?=w.heap[b]?):aD ρ ν c w':=by
 refine ⟨h.inj,λk sb a hd d=>?_,λk sb a hd d=>?_⟩
 ·obtain ⟨g,i,g2,j⟩:=h.ak k sb a hd d
  refine ⟨g,i,?_,j⟩
  rw [f _ ⟨k,sb,a,(xW e a (SB.dZ hd)).1,hd,rfl⟩]
  exact g2
 ·have:=(xW e a (SB.dZ hd)).2
  rw [d] at this;cases this
def iw (ρ:Env) (ν:Nat->Addr) (a:List SB) (b:Nat):Prop:=∃(k:Nat) (sb:SB),a[k]?=some sb/\sb.dead ρ=false/\b=(ν k).block
theorem mg {ρ:Env} {ν:Nat->Addr} {a:List SB} {b:Nat} (h:jB ρ ν a b):iw ρ ν a b:=by
 obtain ⟨k,sb,c,-,d,rfl⟩:=h
 exact ⟨k,sb,c,d,rfl⟩
theorem Yo {ρ:Env} {ν:Nat->Addr} {a:List SB} (e:o6 a=true) {b:Nat} (h:iw ρ ν a b):jB ρ ν a b:=by
 obtain ⟨k,sb,c,d,rfl⟩:=h
 exact ⟨k,sb,c,(xW e c (SB.dZ d)).1,d,rfl⟩
theorem o7 {ρ:Env} {ν:Nat->Addr} {a:List SB} {w:World} (h:aD ρ ν a w) {b:Nat} (e:iw ρ ν a b):b<w.heap.size:=by
 obtain ⟨k,sb,c,d,rfl⟩:=e
 exact h.lt c d
theorem o8 {nv n:Nat} {ρ ρ':Env} {ν e:Nat->Addr} (d:bY nv n ρ ρ' ν e) {c:List SB} (g:sP nv n c=true) (h:c.length<=n) {b:Nat}:iw ρ' e c b↔iw ρ ν c b:=by
 constructor
 ·rintro ⟨k,sb,a,f,rfl⟩
  have:=(List.getElem?_eq_some_iff.1 a).1
  exact ⟨k,sb,a,by rwa [SB.pG d (jR g k sb a)] at f,by rw [d.bl k (by omega)]⟩
 ·rintro ⟨k,sb,a,f,rfl⟩
  have:=(List.getElem?_eq_some_iff.1 a).1
  exact ⟨k,sb,a,by rwa [SB.pG d (jR g k sb a)],by rw [d.bl k (by omega)]⟩
theorem aD.join {a b:List SB} {N:Nat} {e c:Env} {f d:Nat->Addr} {w:World} (u:aD e f a w) (q:aD c d b w) (l:sP N a.length a=true) (hd:∀x,iw e f a x->iw c d b x->False) :
  aD (e.cat N c) (yK a.length f d) (a ++ b.map (SB.aX (N+·) (a.length+·))) w:=by
 have h:=bY.cat N a.length e c f d
 have n:(e.cat N c).pull (N+·)=c:=Env.Qm N e c
 have r:(λk=>yK a.length f d (a.length+k))=d:=funext λk=>Fq ..
 refine aD.app (u.ext h l (Nat.le_refl _)) (by rw [n,r];exact q) λi j x y g t p m _ o=>?_
 rw [n] at m
 have s:=(List.getElem?_eq_some_iff.1 g).1
 rw [zM _ _ _ s,Fq] at o
 rw [SB.pG h (jR l i x g)] at p
 exact hd _ ⟨i,x,g,p,rfl⟩ ⟨j,y,t,m,o⟩
theorem Yp {a b:List SB} {N:Nat} {f e:Env} {i g:Nat->Addr} (o:sP N a.length a=true) {x:Nat} (h:jB (f.cat N e) (yK a.length i g) (a ++ b.map (SB.aX (N+·) (a.length+·))) x):jB f i a x\/jB e g b x:=by
 have n:=bY.cat N a.length f e i g
 have p:(f.cat N e).pull (N+·)=e:=Env.Qm N f e
 obtain ⟨k,sb,d,l,j,rfl⟩:=h
 rw [List.getElem?_append] at d
 split at d
 ·rename_i m
  rw [SB.pG n (jR o k sb d)] at j
  exact .inl ⟨k,sb,d,l,j,by rw [zM _ _ _ m]⟩
 ·rename_i m
  rw [List.getElem?_map,Option.map_eq_some_iff] at d
  obtain ⟨c,q,rfl⟩:=d
  rw [SB.kR,p] at j
  refine .inr ⟨k-a.length,c,q,l,j,?_⟩
  have:=Fq a.length i g (k-a.length)
  all_goals grind
def aj0 (a:List SB):Bool:=a.all λb=>!b.own
theorem w9 {ρ:Env} {ν:Nat->Addr} {a:List SB} (h:aj0 a=true) {x:Nat} (d:jB ρ ν a x):False:=by
 obtain ⟨k,sb,c,b,-,-⟩:=d
 have:=List.all_eq_true.1 h sb (List.mem_of_getElem? c)
 rw [b] at this
 cases this
theorem aD.zN {ρ:Env} {ν:Nat->Addr} {a:List SB} {w w':World} (d:o6 a=true) (h:aD ρ ν a w) (c:∀b,iw ρ ν a b->w'.heap[b]?=w.heap[b]?):aD ρ ν a w' :=
 h.frame d λb e=>c b (mg e)
theorem mJ.ak {z:Nat} {W:Nat->Prop} {ρ:Env} {ν:Nat->Addr} {a:List SB} (c:o6 a=true) (h:mJ z W ρ ν a) {b:Nat} (d:iw ρ ν a b):z<=b\/W b:=aeE h (Yo c d)
end Go.Rex
namespace Go.Proofs.YthomdlajobnmnaaGreatDoor
open Go.Rex
def oF:List SB:=mO 36 DN 0
def mX:List SB:=DL 0 2 0
structure kr (w:World) (a:Addr) (p:PS) (B:Nat->Prop):Prop where
 ex:∃ρ ν,ν 0=a/\aD ρ ν mX w/\bA ρ (ρ.iv 0) (ρ.iv 1) 2=p/\bE ρ 2/\∀b,iw ρ ν mX b->B b
structure oz (w:World) (dU:Nat->Addr):Prop where
 hp:∃ρ,aD ρ dU oF w
 gl:iU dU (eG DN 0)
theorem NM:o6 mX=true:=by kernel_rfl
section
variable {w w':World} {a:Addr} {p:PS} {B B':Nat->Prop}
theorem kr.frame (h:kr w a p B) (d:∀b,B b->w'.heap[b]?=w.heap[b]?):kr w' a p B:=by
 obtain ⟨e,f,j,g,k,i,c⟩:=h.ex
 exact ⟨e,f,j,g.zN NM λb l=>d b (c b l),k,i,c⟩
theorem kr.mono (h:kr w a p B) (e:∀b,B b->b<w.heap.size->B' b):kr w a p B':=by
 obtain ⟨f,g,j,c,l,i,k⟩:=h.ex
 exact ⟨f,g,j,c,l,i,λb d=>e b (k b d) (o7 c d)⟩
theorem oz.frame {b:Nat->Addr} (h:oz w b) (i:w.heap.size<=w'.heap.size) (d:∀k,k<8->w'.heap[(b k).block]?=w.heap[(b k).block]?):oz w' b:=by
 obtain ⟨⟨e,g⟩,f⟩:=h
 exact ⟨⟨e,g.wM i λk sb c _=>d k (Nat.lt_of_lt_of_le (List.getElem?_eq_some_iff.1 c).1 (by decide))⟩,f⟩
end
structure vE (p:PS) (n m:Int):Prop where
 nb:p.nb=n
 ns:p.ns=m
 nf:p.nf=m
 steps:p.steps=0
 made:p.made=0
 bP:p.bP=true
 bd:∀i,p.bd i=Wd.zero
 gen:∀i,p.gen i=0
 used:∀i,p.used i=false
 cell:∀i k,p.cell i k=Wd.zero
 fr:∀i:Nat,(i:Int)<m->p.fr i=m-i
theorem vE.ok {p:PS} {n m:Int} (h:vE p n m) (c:0<=m/\m<=1024) (d:0<=n/\n<=200):p.OK:=by
 have e:∀k,l8 p.used k=0:=λk=>by
  rw [vz (v:=λ_=>false) λi _=>h.used i,Jv]
 refine ⟨by rw [h.nb];exact d,by rw [h.ns];exact c,by rw [h.nf];exact c.1,by rw [h.made,h.steps];exact ⟨Int.le_refl 0,Int.le_refl 0⟩,λi=>by rw [h.gen,h.made];exact ⟨Int.le_refl 0,Int.le_refl 0⟩,λi a=>?_,λi j a b=>?_,?_⟩
 ·rw [h.nf] at a
  rw [h.fr i a,h.ns]
  exact ⟨by omega,by omega,h.used _⟩
 ·rw [h.nf] at b
  rw [h.fr i (by omega),h.fr j b]
  omega
 ·rw [e,h.nf,h.ns]
  simp
abbrev Nw (w w':World):Prop:=cK w (λ_=>False) w'
theorem NN {ρ:Env} {ν:Nat->Addr} {w:World}:aD ρ ν [] w:=⟨λi j a b h=>by simp at h,λk sb h=>by simp at h,λk sb h=>by simp at h⟩
def evI (f:Nat->Int):Env:=⟨f,λ_=>false,λ_=>undef,λ_ _ _ _=>0,λ_ _ _ _=>false,λ_ _ _ _=>undef⟩
def fN:Nat->Nat
 | 0=>1
 | 1=>0
 | i=>i
theorem ag8:(List.range mX.length).map (λj=>rU.hp'[j]?)=mX.map λsb=>some (sb.aX fN λk=>k):=by kernel_rfl
theorem Vy (m:Int) (h:0<=m/\m<=1024) (w:World) :
  Calls Tryz.prog 16 #[.int .i64 m,.int .i64 85] w λe w'=>∃t p B,e=.returned (.tuple #[.pointer (some t),.nilIface])/\kr w' t p B/\vE p 85 m/\(∀b,B b->w.heap.size<=b)/\Nw w w':=by
 have f:=aeD.run (evI λi=>if i=0 then m else 85) (λ_=>⟨0,0,none⟩) w NN ⟨λg k _ h=>(by cases h),λg H k I _ _ h=>(by cases h)⟩ ⟨h,by show (0:Int)<=85/\(85:Int)<=200;decide⟩
 refine Calls.mono f ?_
 rintro e w' ⟨c,n,u,rfl,C,a,s,A,G⟩
 have l:c.iv 0=m:=(u.iv 0 (by decide)).trans rfl
 have F:c.iv 1=85:=(u.iv 1 (by decide)).trans rfl
 have x:∀b,¬jB (evI λi=>if i=0 then m else 85) (λ_=>(⟨0,0,none⟩:Addr)) rU.hp b:=λb ⟨k,sb,d,_⟩=>by
  have d:([]:List SB)[k]?=some sb:=d
  simp at d
 obtain ⟨p,o,y⟩:=G
 replace o:bA c (c.iv 1) (c.iv 0) 2=p:=o
 refine ⟨n 0,p,iw (c.pull fN) n mX,rfl,⟨c.pull fN,n,rfl,C.sub ag8 λi j _ _ h=>h,o,A,λ_ h=>h⟩,?_,λb z=>?_,⟨a.os,a.tape,a.output,a.size,λk d _=>a.block k d (x k)⟩⟩
 ·obtain ⟨a1,a2,a3,a4,a5,a6,a7,a8,D,q,r⟩:=y
  exact ⟨a1.trans F,a2.trans l,a3.trans l,a4,a5,a6,a7,a8,D,q,λi E=>(r i (by show (i:Int)<c.iv 0;rw [l];exact E)).trans (by show c.iv 0-i=m-i;rw [l])⟩
 ·rcases (s.sub ag8).ak NM z with h | h
  ·exact h
  ·exact absurd h (x b)
def rZ (a:Ac):Value:=.agg #[.int .i64 a.kind,.int .i64 a.slot,.int .i64 a.gen,.int .i64 a.field,.int .i64 a.ay.slot,.int .i64 a.ay.gen,.int .i64 a.ay.tag,.int .i64 a.ay.num,.bool a.ay.mark,.int .i64 a.new.slot,.int .i64 a.new.gen,.int .i64 a.new.tag,.int .i64 a.new.num,.bool a.new.mark]
def iy (x:Rp):Value:=.agg #[.int .i64 x.word.slot,.int .i64 x.word.gen,.int .i64 x.word.tag,.int .i64 x.word.num,.bool x.word.mark,.bool x.ok]
def NP (a:Ac):Env where
 iv:=λi=>([a.kind,a.slot,a.gen,a.field,a.ay.slot,a.ay.gen,a.ay.tag,a.ay.num,0,a.new.slot,a.new.gen,a.new.tag,a.new.num,0]:List Int).getD i 0
 bv:=λi=>if i=8 then a.ay.mark else a.new.mark
 vv:=λ_=>undef
 ic:=λ_ _ _ _=>0
 bc:=λ_ _ _ _=>false
 vc:=λ_ _ _ _=>undef
def fD:Nat->Nat
 | 0=>14
 | 1=>15
 | i=>i+31
def gD:Nat->Nat
 | 0=>8
 | 1=>9
 | 2=>10
 | k=>k+10
theorem ag9:(List.range mX.length).map (λj=>qC.hp'[gD j]?)=mX.map λsb=>some (sb.aX fD gD):=by kernel_rfl
theorem aha:∀i j,i<mX.length->j<mX.length->gD i=gD j->i=j:=by
 have:∀i,i<5->∀j,j<5->gD i=gD j->i=j:=by decide
 intro i j b a
 exact this i b j a
theorem ac8 {w:World} {D:Addr} {p p':PS} {B:Nat->Prop} {g:Nat->Addr} {a:Ac} {x:Rp} (hs:oz w g) (hp:kr w D p B) (hz:∀k,k<8->¬B (g k).block) (z:p.OK) (t:p.steps<=1000000) (y:p.act a=(p',some x)) :
  Calls Tryz.prog 32 #[.pointer (some D),rZ a] w λe w'=>e=.returned (.tuple #[iy x,.nilIface])/\∃B',kr w' D p' B'/\(∀b,B' b->w.heap.size<=b\/B b)/\cK w B w':=by
 obtain ⟨r,A,rfl,H,rfl,S,s⟩:=hp.ex
 obtain ⟨⟨K,O⟩,Q⟩:=hs
 have L:∀x,iw (NP a) g oF x->∃k,k<8/\x=(g k).block:=by
  rintro x ⟨k,sb,I,_,rfl⟩
  exact ⟨k,Nat.lt_of_lt_of_le (List.getElem?_eq_some_iff.1 I).1 (by decide),rfl⟩
 have u:aD (NP a) g oF w:=aD.ext (nv:=0) (n:=8) ⟨λi h=>absurd h (Nat.not_lt_zero _),λi h=>absurd h (Nat.not_lt_zero _),λi h=>absurd h (Nat.not_lt_zero _),λi h=>absurd h (Nat.not_lt_zero _),λi h=>absurd h (Nat.not_lt_zero _),λi h=>absurd h (Nat.not_lt_zero _),λi h=>rfl⟩ (by kernel_rfl) (by decide) O
 have j:=aD.join (N:=14) u H (by kernel_rfl) λx I W=>by
  obtain ⟨k,G,rfl⟩:=L x I
  exact hz k G (s _ W)
 have U:qC.hp=oF ++ mX.map (SB.aX (14+·) (oF.length+·)):=by kernel_rfl
 rw [<-U] at j
 have M:∀x,jB ((NP a).cat 14 r) (yK oF.length g A) qC.hp x->B x:=by
  intro x y
  rw [U] at y
  rcases Yp (by kernel_rfl) y with q | q
  ·exact (w9 (by kernel_rfl) q).elim
  ·exact s _ (mg q)
 obtain ⟨ρ,d⟩:∃ρ,ρ=(NP a).cat 14 r:=⟨_,rfl⟩
 obtain ⟨ν,P⟩:∃ν,ν=yK oF.length g A:=⟨_,rfl⟩
 have V:ν 8=A 0:=by rw [P];rfl
 have Y:bA ρ (ρ.iv 14) (ρ.iv 15) 16=bA r (r.iv 0) (r.iv 1) 2:=by rw [d];rfl
 have T:bL ρ 0=a:=by rw [d];rfl
 have hG:iU ν qC.gl:=by
  refine iU.ext (nv:=0) (n:=8) (ρ:=K) (ρ':=ρ) (ν:=g) ⟨λi h=>absurd h (Nat.not_lt_zero _),λi h=>absurd h (Nat.not_lt_zero _),λi h=>absurd h (Nat.not_lt_zero _),λi h=>absurd h (Nat.not_lt_zero _),λi h=>absurd h (Nat.not_lt_zero _),λi h=>absurd h (Nat.not_lt_zero _),λi h=>?_⟩ (by kernel_rfl) Q
  rw [P,zM _ _ _ (Nat.lt_of_lt_of_le h (by decide))]
 have C:bE ρ 16:=by
  rw [d]
  exact S
 have m:(qC.args.map (·.den ρ ν)).toArray=#[.pointer (some (A 0)),rZ a]:=by
  rw [<-V,<-T]
  rfl
 rw [<-d,<-P] at j M
 rw [<-Y] at z t y
 have f:=agN.run ρ ν w j hG ⟨C,z,t⟩
 rw [m] at f
 refine Calls.mono f ?_
 rintro ev w' ⟨ρ',J,l,rfl,Z,c,R,X,o,q3⟩
 have F:bA ρ' (ρ'.iv 14) (ρ'.iv 15) 16=bA ρ (ρ.iv 14) (ρ.iv 15) 16:=by
  unfold bA
  simp (disch:=decide) only [l.iv,l.bv,l.ic,l.bc]
 have E:bL ρ' 0=a:=by
  rw [<-T]
  unfold bL aC
  simp (disch:=decide) only [l.iv,l.bv]
 replace o:(bA ρ' (ρ'.iv 14) (ρ'.iv 15) 16).act (bL ρ' 0)=(bA ρ' (ρ'.iv 14) (ρ'.iv 15) 33,if ρ'.bv 32=true then some (az ρ' 26) else none):=o
 rw [F,E,y] at o
 have q:ρ'.bv 32=true:=by
  cases h:ρ'.bv 32 with
  | true=>rfl
  | false=>rw [h] at o;cases o
 rw [q,if_pos rfl,Prod.mk.injEq,Option.some.injEq] at o
 obtain ⟨rfl,rfl⟩:=o
 refine ⟨?_,iw (ρ'.pull fD) (λk=>J (gD k)) mX,⟨ρ'.pull fD,λk=>J (gD k),?_,Z.sub ag9 aha,rfl,X,λ_ h=>h⟩,λb h=>((R.sub ag9).ak NM h).imp id (M b),c.os,c.tape,c.output,c.size,λk G hn=>c.block k G λh=>hn (M k h)⟩
 ·show Ending.returned (.tuple #[_,if ρ'.bv 32=true then _ else _])=_
  rw [q]
  rfl
 ·show J 8=A 0
  rw [l.bl 8 (by decide),V]
def dO:List SB:=PH 0 4 0
theorem Bz:o6 dO=true:=by kernel_rfl
def evF (E M T N:Int):Env:=evI λi=>([E,M,T,N]:List Int).getD i 0
theorem Vz (E M T N:Int) (p:1<=E/\E<=5) (m:0<=M/\M<T) (r:1<=T/\T<=6) (j:1<=N/\N<=64) (w:World) :
  Calls Tryz.prog 34 #[.int .i64 E,.int .i64 M,.int .i64 T,.int .i64 N] w λe w'=>∃ρ ν,e=.returned (.tuple #[.pointer (some (ν 0)),.nilIface])/\(aD ρ ν dO w'/\aa ρ 0 4=RS.new E M T N/\dw ρ 4/\∀b,iw ρ ν dO b->w.heap.size<=b)/\Nw w w':=by
 have d:=aaS.run (evF E M T N) (λ_=>⟨0,0,none⟩) w NN ⟨λg k _ h=>(by cases h),λg t k u _ _ h=>(by cases h)⟩ ⟨p,m,r,j.1,j.2⟩
 refine Calls.mono d ?_
 rintro e w' ⟨ρ,ν,f,rfl,q,a,i,o,s⟩
 have l:∀b,¬jB (evF E M T N) (λ_=>(⟨0,0,none⟩:Addr)) q9.hp b:=λb ⟨k,sb,c,_⟩=>by
  have c:([]:List SB)[k]?=some sb:=c
  simp at c
 refine ⟨ρ,ν,rfl,⟨q,Eq.trans s ?_,o,λb n=>(i.ak Bz n).elim id λh=>absurd h (l b)⟩,a.os,a.tape,a.output,a.size,λk c _=>a.block k c (l k)⟩
 show RS.new (ρ.iv 0) (ρ.iv 1) (ρ.iv 2) (ρ.iv 3)=_
 rw [f.iv 0 (by decide),f.iv 1 (by decide),f.iv 2 (by decide),f.iv 3 (by decide)]
 rfl
end Go.Proofs.YthomdlajobnmnaaGreatDoor
