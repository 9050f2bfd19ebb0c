/- part 5 of the proof -/
import Derived.Maps.AppendAt
import Derived.Great.BuildSlice
import Derived.Test.YthomdlajobnmnaaGreatDoorX4
set_option linter.unusedSimpArgs false
set_option linter.unusedVariables false
namespace Go.Rex
structure Mo (g:Nat) (w w':World):Prop where
 os:w'.os=w.os
 tape:w'.tape=w.tape
 output:w'.output=w.output
 size:w'.heap.size=w.heap.size
 block:∀k,k≠g→w'.heap[k]?=w.heap[k]?
section
variable {P:Program} {ρ:Env} {ν:Nat→Addr}
theorem SB.PW {sb sb':SB} {l:Loc} {c:SC} (h:sb.write l c=some sb'):(sb'.t=sb.t∧sb'.ro=sb.ro∧sb'.own=sb.own∧sb'.nl=sb.nl∧sb'.gone=sb.gone)∧c.isHole=false:=by
 unfold SB.write at h
 split at h
 ·cases h
 rename_i hc
 cases l <;> simp only at h <;> split at h <;> simp at h <;> subst h <;> exact ⟨⟨rfl,rfl,rfl,rfl,rfl⟩,by simpa using hc⟩
theorem Gb {g:Nat} {t:TypeId} {a:SA}:∀{cs:List SC} {k:Nat} {sb sb':SB} {os:List BE} {arr:Array Value} {w:World},
  w.heap[g]?=some (.cells arr t (0,0))→sb.has ρ ν arr→wT sb a cs k=some (sb',os)→(∀o∈os,o.den ρ=true) →
  ∃mq w',(storeCells ⟨g,a.off ρ,none⟩ (cs.map (·.den ρ ν)) k).run P w=.ok () w'∧w'.heap[g]?=some (.cells mq t (0,0))∧Mo g w w'∧sb'.has ρ ν mq∧(sb'.t=sb.t∧sb'.ro=sb.ro∧sb'.own=sb.own∧sb'.nl=sb.nl∧sb'.gone=sb.gone)
 | [],k,sb,sb',os,arr,w,hg,hb,h,_=>by
  simp only [wT,Option.some.injEq,Prod.mk.injEq] at h
  obtain ⟨rfl,rfl⟩:=h
  exact ⟨arr,w,rfl,hg,⟨rfl,rfl,rfl,rfl,fun _ _=>rfl⟩,hb,rfl,rfl,rfl,rfl,rfl⟩
 | c :: r,k,sb,sb',os,arr,w,hg,hb,h,ho=>by
  unfold wT at h
  split at h
  ·cases h
  rename_i l hl
  split at h
  ·cases h
  rename_i sb1 hw
  split at h
  ·cases h
  rename_i sb2 os2 hr
  simp only [Option.some.injEq,Prod.mk.injEq] at h
  obtain ⟨rfl,rfl⟩:=h
  obtain ⟨Xy,hpos⟩:=SB.Ug (ρ:=ρ) hl
  obtain ⟨hb1,hlt⟩:=SB.DW (ν:=ν) hb Xy (fun o hm=>ho o (by simp [hm])) hw
  obtain ⟨ht,hh⟩:=SB.PW hw
  rw [hpos] at hb1 hlt
  have hcell:w.cell? ⟨g,a.off ρ+k,none⟩=some (arr[a.off ρ+k]'hlt):=by
   rw [cell_of_row w g _ arr t (0,0) hg];exact Array.getElem?_eq_getElem hlt
  have hfro:=frozen_of_row w g (a.off ρ+k) arr t hg
  have hst:(store ⟨g,a.off ρ+k,none⟩ (c.den ρ ν)).run P w=.ok () (w.setCell ⟨g,a.off ρ+k,none⟩ (c.den ρ ν)):=by
   rw [run_store P w _ _ _ (SC.sI c hh),hcell]
   simp [hfro]
  obtain ⟨mq,w',h1,h2,h3,h4,h5⟩:=Gb (w:=w.setCell ⟨g,a.off ρ+k,none⟩ (c.den ρ ν)) (Go.heap_setCell_same w g _ arr t _ hg) hb1 hr (fun o hm=>ho o (by simp [hm]))
  refine ⟨mq,w',?_,h2,⟨h3.os,h3.tape,h3.output,by rw [h3.size];simp,fun j hj=>by rw [h3.block j hj];exact heap_setCell_other w _ j _ hj⟩,h4,h5.1.trans ht.1,h5.2.1.trans ht.2.1,h5.2.2.1.trans ht.2.2.1,h5.2.2.2.1.trans ht.2.2.2.1,h5.2.2.2.2.trans ht.2.2.2.2⟩
  have hadd:(⟨g,a.off ρ,none⟩:Addr).add k=⟨g,a.off ρ+k,none⟩:=by simp [Addr.add]
  simp only [List.map_cons,storeCells,Sem.run_bind,hadd,hst,Result.andThen_ok,h1]
theorem Bi (a:Addr) (n:Nat):(a.add n).block=a.block:=by
 unfold Addr.add
 split <;> rfl
theorem aH.qB {hp:List SB} {w w':World} (h:aH ρ ν hp w) (hz:w.heap.size≤w'.heap.size) (hk:∀(k:Nat) (sb:SB),hp[k]?=some sb→sb.dead ρ=false→w'.heap[(ν k).block]?=w.heap[(ν k).block]?):aH ρ ν hp w':=by
 refine ⟨h.inj,fun k sb hs hg hr=>?_,fun k sb hs hg hr=>?_⟩
 ·obtain ⟨h0,cs,h1,h2⟩:=h.aC k sb hs hg hr
  exact ⟨h0,cs,by rw [hk k sb hs hg];exact h1,h2⟩
 ·obtain ⟨h0,cs,h1,h2⟩:=h.rd k sb hs hg hr
  refine ⟨h0.of id rfl hz (hk k sb hs hg),cs,h1,fun p v hp=>?_⟩
  rw [World.cell?_of_block (w:=w) (w':=w')]
  ·exact h2 p v hp
  ·rw [Bi];exact hk k sb hs hg
theorem aH.set {hp:List SB} {w w':World} (h:aH ρ ν hp w) {b:Nat} {sb sb':SB} {mq:Array Value} (hb:hp[b]?=some sb) (hg:sb.dead ρ=false) (hr:sb.ro=false) (hO:Mo (ν b).block w w')
  (h':fC w'.heap[(ν b).block]? sb'.t mq) (hs:sb'.has ρ ν mq) (hr':sb'.ro=false):aH ρ ν (hp.set b sb') w':=by
 have hlt:b<hp.length:=(List.getElem?_eq_some_iff.1 hb).1
 have old:∀(i:Nat) (a:SB),(hp.set b sb')[i]?=some a→a.dead ρ=false→∃a0,hp[i]?=some a0∧a0.dead ρ=false∧(a.ro=false→a0.ro=false):=by
  intro i a hi ha
  by_cases hib:b=i
  ·subst hib;exact ⟨sb,hb,hg,fun _=>hr⟩
  ·rw [List.getElem?_set_ne hib] at hi;exact ⟨a,hi,ha,id⟩
 have oth:∀(k:Nat) (s:SB),hp[k]?=some s→s.dead ρ=false→b≠k→w'.heap[(ν k).block]?=w.heap[(ν k).block]?:=by
  intro k s hk hgs hne
  exact hO.block _ fun e=>hne (h.inj _ _ _ _ hb hk hg hgs hr e.symm)
 refine ⟨fun i j x y hi hj gx gy rx he=>?_,fun k s hk hgs hrs=>?_,fun k s hk hgs hrs=>?_⟩
 ·obtain ⟨a0,ha,ga,ra⟩:=old i x hi gx
  obtain ⟨b0,hb',gb,_⟩:=old j y hj gy
  exact h.inj i j a0 b0 ha hb' ga gb (ra rx) he
 ·by_cases hkb:b=k
  ·subst hkb
   rw [List.getElem?_set_self hlt] at hk
   simp at hk
   subst hk
   exact ⟨(h.aC b sb hb hg hr).1,mq,h',hs⟩
  ·rw [List.getElem?_set_ne hkb] at hk
   rw [oth k s hk hgs hkb]
   exact h.aC k s hk hgs hrs
 ·by_cases hkb:b=k
  ·subst hkb
   rw [List.getElem?_set_self hlt] at hk
   simp at hk
   subst hk
   rw [hr'] at hrs;cases hrs
  ·rw [List.getElem?_set_ne hkb] at hk
   obtain ⟨h0,cs,h1,h2⟩:=h.rd k s hk hgs hrs
   refine ⟨h0.of id rfl (Nat.le_of_eq hO.size.symm) (oth k s hk hgs hkb),cs,h1,fun p v hp=>?_⟩
   rw [World.cell?_of_block (w:=w) (w':=w')]
   ·exact h2 p v hp
   ·rw [Bi];exact oth k s hk hgs hkb
theorem aH.push {hp:List SB} {w:World} (h:aH ρ ν hp w) {sb:SB} {arr:Array Value} (h0:ν hp.length=⟨(ν hp.length).block,0,none⟩) (hn:fC w.heap[(ν hp.length).block]? sb.t arr)
  (hs:sb.has ρ ν arr) (hr:sb.ro=false) (hne:∀(k:Nat) (s:SB),hp[k]?=some s→s.dead ρ=false→(ν k).block≠(ν hp.length).block):aH ρ ν (hp ++ [sb]) w:=by
 have Gc:∀(i:Nat) (a:SB),(hp ++ [sb])[i]?=some a→hp[i]?=some a∨(i=hp.length∧a=sb):=by
  intro i a hi
  rw [List.getElem?_append] at hi
  split at hi
  ·exact .inl hi
  ·rename_i hlt
   rw [List.getElem?_singleton] at hi
   split at hi
   ·rename_i h0
    simp at hi
    exact .inr ⟨by omega,hi.symm⟩
   ·cases hi
 refine ⟨fun i j x y hi hj gx gy rx he=>?_,fun k s hk hg hrs=>?_,fun k s hk hg hrs=>?_⟩
 ·rcases Gc i x hi with h1 | ⟨h1,_⟩ <;> rcases Gc j y hj with h2 | ⟨h2,_⟩
  ·exact h.inj i j x y h1 h2 gx gy rx he
  ·subst h2;exact absurd he (hne i x h1 gx)
  ·subst h1;exact absurd he.symm (hne j y h2 gy)
  ·rw [h1,h2]
 ·rcases Gc k s hk with hk | ⟨rfl,rfl⟩
  ·exact h.aC k s hk hg hrs
  ·exact ⟨h0,arr,hn,hs⟩
 ·rcases Gc k s hk with hk | ⟨rfl,rfl⟩
  ·exact h.rd k s hk hg hrs
  ·rw [hr] at hrs;cases hrs
theorem aH.drop {hp:List SB} {w:World} (h:aH ρ ν hp w) (b:Nat):aH ρ ν (hp.modify b fun s=>{s with gone:=true}) w:=by
 have old:∀(i:Nat) (a:SB),(hp.modify b fun s=>{s with gone:=true})[i]?=some a→a.dead ρ=false→hp[i]?=some a∧i≠b:=by
  intro i a hi ha
  rw [List.getElem?_modify] at hi
  cases hx:hp[i]? with
  | none=>simp [hx] at hi
  | some x =>
   by_cases hbi:b=i
   ·simp [hx,hbi] at hi
    subst hi
    simp [SB.dead] at ha
   ·simp [hx,hbi] at hi
    exact ⟨by rw [hi],fun e=>hbi e.symm⟩
 exact ⟨fun i j x y hi hj gx gy rx he=>h.inj i j x y (old i x hi gx).1 (old j y hj gy).1 gx gy rx he,fun k s hk hg hr=>h.aC k s (old k s hk hg).1 hg hr,fun k s hk hg hr=>h.rd k s (old k s hk hg).1 hg hr⟩
theorem Rv {ops:Array Oper} {tmps:Array Value} {j:Nat} {d:Tmp} (hd:(ops[j]?).bind (·.dst)=some d) :
  yielded ops tmps j=match tmps.getD d undef with | .bool b=>some b | _=>none:=by
 simp only [yielded,hd,Option.bind_some]
 rw [Array.getD_eq_getD_getElem?]
 cases tmps[d]? with
 | none=>simp [undef]
 | some v=>cases v <;> rfl
theorem Mq {ops:Array Oper} {fr:Fr} {a:Act} (hf:ou ρ ν fr a) {o:Oper} {g:BE} (h:KR ops fr o=some g):Region.wanted o (yielded ops a.tmps)=g.den ρ:=by
 unfold KR at h
 unfold Region.wanted
 split at h
 ·rename_i hg
  simp at h
  subst h
  simp [hg,BE.den]
 ·rename_i j want hg
  rw [hg]
  simp only
  split at h
  ·cases h
  rename_i d hd
  rw [Rv hd]
  split at h
  ·rename_i b hb
   rw [hf d _ hb]
   simp at h
   subst h
   cases want <;> simp [SV.den,SW.den,SC.den,BE.iP]
  ·rename_i c b hb
   rw [hf d _ hb]
   simp at h
   subst h
   rw [BE.xR]
   cases hc:c.den ρ <;> cases want <;> simp [SV.den,SW.den,SC.den,BE.iP,hc,undef]
  ·rename_i hb
   rw [hf d _ hb]
   simp at h
   subst h
   simp [SV.den,BE.den]
  ·cases h
end
theorem yL {t:Tr} {σ:Sub} {hp':List SB}:∀{Ts:List SB} {k0:Nat} {hp res:List SB},nI t σ hp' Ts k0 hp=some res→(∀j a,assoc j σ.bk=some a→a.aC<hp.length) →
  res.length=hp.length∧∀i,(∃j T a U sb,Ts[j]?=some T∧T.own=true∧T.gone=false∧assoc (k0+j) σ.bk=some a∧a.aC=i∧hp'[k0+j]?=some U∧U.tr t=some sb∧res[i]?=some sb) ∨
   ((∀j T a,Ts[j]?=some T→T.own=true→T.gone=false→assoc (k0+j) σ.bk=some a→a.aC≠i)∧res[i]?=hp[i]?)
 | [],k0,hp,res,h,_=>by
  simp only [nI,Option.some.injEq] at h
  subst h
  exact ⟨rfl,fun i=>.inr ⟨fun j T a hj=>by simp at hj,rfl⟩⟩
 | T :: r,k0,hp,res,h,hb=>by
  have shift:∀{j:Nat},k0+1+j=k0+(j+1):=by intro j;omega
  have skip:nI t σ hp' r (k0+1) hp=some res→((T.own && !T.gone)=true→assoc k0 σ.bk=none)→res.length=hp.length∧∀i,(∃j T' a U sb,(T :: r)[j]?=some T'∧T'.own=true∧T'.gone=false∧assoc (k0+j) σ.bk=some a∧a.aC=i∧hp'[k0+j]?=some U∧U.tr t=some sb∧res[i]?=some sb) ∨
    ((∀j T' a,(T :: r)[j]?=some T'→T'.own=true→T'.gone=false→assoc (k0+j) σ.bk=some a→a.aC≠i)∧res[i]?=hp[i]?):=by
   intro h hn
   obtain ⟨h1,h2⟩:=yL h hb
   refine ⟨h1,fun i=>?_⟩
   rcases h2 i with ⟨j,T',a,U,sb,e1,e2,e3,e4,e5,e6,e7,e8⟩ | ⟨h3,h4⟩
   ·exact .inl ⟨j+1,T',a,U,sb,by simpa using e1,e2,e3,by rw [←shift];exact e4,e5,by rw [←shift];exact e6,e7,e8⟩
   ·refine .inr ⟨fun j T' a hj ho hg ha=>?_,h4⟩
    cases j with
    | zero =>
     simp at hj
     subst hj
     rw [Nat.add_zero,hn (by simp [ho,hg])] at ha
     cases ha
    | succ j=>exact h3 j T' a (by simpa using hj) ho hg (by rw [shift];exact ha)
  simp only [nI] at h
  split at h
  ·rename_i hown
   simp only [Bool.and_eq_true,Bool.not_eq_true'] at hown
   split at h
   ·rename_i a ha
    split at h
    ·rename_i sb hsb
     obtain ⟨U,hU,htr⟩:=Option.bind_eq_some_iff.1 hsb
     obtain ⟨h1,h2⟩:=yL h (fun j a' h'=>by rw [List.length_set];exact hb j a' h')
     rw [List.length_set] at h1
     refine ⟨h1,fun i=>?_⟩
     rcases h2 i with ⟨j,T',a',U',sb',e1,e2,e3,e4,e5,e6,e7,e8⟩ | ⟨h3,h4⟩
     ·exact .inl ⟨j+1,T',a',U',sb',by simpa using e1,e2,e3,by rw [←shift];exact e4,e5,by rw [←shift];exact e6,e7,e8⟩
     ·by_cases hi:a.aC=i
      ·subst hi
       refine .inl ⟨0,T,a,U,sb,rfl,hown.1,hown.2,ha,rfl,hU,htr,?_⟩
       rw [h4,List.getElem?_set_self (hb _ _ ha)]
      ·refine .inr ⟨fun j T' a' hj ho hg ha'=>?_,by rw [h4,List.getElem?_set_ne hi]⟩
       cases j with
       | zero =>
        rw [Nat.add_zero,ha] at ha'
        cases ha'
        exact hi
       | succ j=>exact h3 j T' a' (by simpa using hj) ho hg (by rw [shift];exact ha')
    ·cases h
   ·rename_i hnone
    exact skip h fun _=>hnone
  ·rename_i hown
   exact skip h fun hc=>absurd hc hown
theorem Eo {t:Tr}:∀{l l':List SB},F8 t l=some l'→l'.length=l.length∧∀(p:Nat) (c':SB),l'[p]?=some c'→∃c,l[p]?=some c∧c.tr t=some c'
 | [],l',h=>by simp [F8] at h;subst h;exact ⟨rfl,fun p c h=>by simp at h⟩
 | c :: r,l',h=>by
  obtain ⟨x,y,h1,h2,rfl⟩:=fT h
  obtain ⟨h3,h4⟩:=Eo h2
  refine ⟨by simp [h3],fun p c' hp=>?_⟩
  cases p with
  | zero=>simp at hp;subst hp;exact ⟨c,rfl,h1⟩
  | succ p=>simpa using h4 p c' (by simpa using hp)
theorem JI:∀{hp hp':List SB},Bf hp hp'=true→∀(k:Nat) (T U:SB),hp[k]?=some T→hp'[k]?=some U→T.own=true→U.gone=true∨(T.ro=false∧U.ro=false∧T.nl=U.nl)
 | [],_,_,k,T,U,h,_,_=>by simp at h
 | _ :: _,[],_,k,T,U,_,h,_=>by simp at h
 | x :: r,y :: s,h,k,T,U,hT,hU,ho=>by
  simp only [Bf,Bool.and_eq_true,Bool.or_eq_true,Bool.not_eq_true'] at h
  cases k with
  | zero =>
   simp at hT hU
   subst hT hU
   rcases h.1 with (h | h) | h
   ·rw [ho] at h;cases h
   ·exact .inl h
   ·exact .inr ⟨h.1.1,h.1.2,BE.aD h.2⟩
  | succ k=>exact JI h.2 k T U (by simpa using hT) (by simpa using hU) ho
theorem JJ:∀{hp:List SB},Ga hp=true→∀(k:Nat) (T:SB),hp[k]?=some T→T.gone=true∨(T.own=true∧T.ro=false)
 | [],_,k,T,h=>by simp at h
 | x :: r,h,k,T,hT=>by
  simp only [Ga,Bool.and_eq_true,Bool.or_eq_true,Bool.not_eq_true'] at h
  cases k with
  | zero=>simp at hT;subst hT;exact h.1
  | succ k=>exact JJ h.2 k T (by simpa using hT)
theorem Mr {nv n:Nat} {σ:Sub} (h:F9 nv n σ=true):(∀i e,assoc i σ.iv=some e→e.sc nv=true)∧(∀i e,assoc i σ.bv=some e→e.sc nv=true)∧(∀i e,assoc i σ.vv=some e→e.sc nv n=true) ∧
  (∀i e,assoc i σ.bk=some e→e.sc nv n=true):=by
 simp only [F9,Bool.and_eq_true,List.all_eq_true] at h
 exact ⟨fun i e he=>h.1.1.1 _ (j5 he),fun i e he=>h.1.1.2 _ (j5 he),fun i e he=>h.1.2 _ (j5 he),fun i e he=>h.2 _ (j5 he)⟩
def fH (d m:Nat) (ρ cB:Env):Env where
 iv:=fun i=>if i<d then ρ.iv i else cB.iv (i-d+m)
 bv:=fun i=>if i<d then ρ.bv i else cB.bv (i-d+m)
 vv:=fun i=>if i<d then ρ.vv i else cB.vv (i-d+m)
 ic:=fun i=>if i<d then ρ.ic i else cB.ic (i-d+m)
 bc:=fun i=>if i<d then ρ.bc i else cB.bc (i-d+m)
 vc:=fun i=>if i<d then ρ.vc i else cB.vc (i-d+m)
def mg (n0 n:Nat) (ν fA:Nat→Addr):Nat→Addr:=fun i=>if i<n0 then ν i else fA (i-n0+n)
theorem Ep (d m n0 n:Nat) (ρ cB:Env) (ν fA:Nat→Addr):dF d n0 ρ (fH d m ρ cB) ν (mg n0 n ν fA) :=
 ⟨fun i hi=>by simp [fH,hi],fun i hi=>by simp [fH,hi],fun i hi=>by simp [fH,hi],fun i hi=>by simp [fH,hi],fun i hi=>by simp [fH,hi],fun i hi=>by simp [fH,hi],fun i hi=>by simp [mg,hi]⟩
section
variable {σ:Sub} {m d n n0:Nat} {ρ cB:Env} {ν fA:Nat→Addr}
theorem Ms (h0:σ.lo=0) (h1:σ.ah=0) (hs:F9 d n0 σ=true) (hA:dF m n (σ.env ρ ν) cB (σ.fK ρ ν) fA):Trd ⟨σ,m,d,n,n0⟩ cB (fH d m ρ cB) fA (mg n0 n ν fA):=by
 obtain ⟨s1,s2,s3,s4⟩:=Mr hs
 have hag:=Ep d m n0 n ρ cB ν fA
 refine ⟨fun i e hi he=>?_,fun i e hi he=>?_,fun i e hi he=>?_,fun i hi=>?_,fun i hi=>?_,fun i hi=>?_,fun i hi=>?_,fun i hi=>?_,fun i hi=>?_,fun k a hk ha hb=>?_,fun k hk=>?_⟩
 ·rw [IE.aL hag (s1 i e he),hA.iv i hi];simp [Sub.env,Sub.ag,h0,show assoc i σ.iv=some e from he]
 ·rw [BE.aL hag (s2 i e he),hA.bv i hi];simp [Sub.env,Sub.ag,h0,show assoc i σ.bv=some e from he]
 ·rw [SC.aL hag (s3 i e he),hA.vv i hi];simp [Sub.env,h0,show assoc i σ.vv=some e from he]
 ·have e:i-m+d-d+m=i:=by have:m≤i:=hi;omega
  have q:¬(i-m+d<d):=by omega
  simp only [fH]
  rw [if_neg q,e]
 ·have e:i-m+d-d+m=i:=by have:m≤i:=hi;omega
  have q:¬(i-m+d<d):=by omega
  simp only [fH]
  rw [if_neg q,e]
 ·have e:i-m+d-d+m=i:=by have:m≤i:=hi;omega
  have q:¬(i-m+d<d):=by omega
  simp only [fH]
  rw [if_neg q,e]
 ·have e:i-m+d-d+m=i:=by have:m≤i:=hi;omega
  have q:¬(i-m+d<d):=by omega
  simp only [fH]
  rw [if_neg q,e]
 ·have e:i-m+d-d+m=i:=by have:m≤i:=hi;omega
  have q:¬(i-m+d<d):=by omega
  simp only [fH]
  rw [if_neg q,e]
 ·have e:i-m+d-d+m=i:=by have:m≤i:=hi;omega
  have q:¬(i-m+d<d):=by omega
  simp only [fH]
  rw [if_neg q,e]
 ·have hsc:=s4 k a ha
  simp only [SA.sc,Bool.and_eq_true,Nat.blt_eq] at hsc
  rw [hA.bl k hk]
  simp [mg,hsc.1.1,Sub.fK,h1,show assoc k σ.bk=some a from ha,SA.den,SA.CO (ρ:=ρ) hb,Addr.add_zero]
 ·have e:k-n+n0-n0+n=k:=by have:n≤k:=hk;omega
  have q:¬(k-n+n0<n0):=by omega
  simp only [mg]
  rw [if_neg q,e]
theorem abq {k:dQ} {hp Mt new:List SB} {os:List BE} {w w':World} {z:Nat} {W:Nat→Prop} (hwf:ku k=true) (h0:σ.lo=0) (h1:σ.ah=0) (hi:nS σ k.hp hp=some os) (ho:∀o∈os,o.den ρ=true)
  (hs:F9 d hp.length σ=true) (hsc:qp d hp.length hp=true) (hh:aH ρ ν hp w) (hown:kY z W ρ ν hp) (hz:z≤w.heap.size)
  (hA:dF k.nv k.hp.length (σ.env ρ ν) cB (σ.fK ρ ν) fA) (hP:aH cB fA k.hp' w') (hW:bA w (jm (σ.env ρ ν) (σ.fK ρ ν) k.hp) w') (hO:kY w.heap.size (jm (σ.env ρ ν) (σ.fK ρ ν) k.hp) cB fA k.hp')
  (h2:nI ⟨σ,k.nv,d,k.hp.length,hp.length⟩ σ k.hp' k.hp 0 hp=some Mt) (h3:F8 ⟨σ,k.nv,d,k.hp.length,hp.length⟩ (k.hp'.drop k.hp.length)=some new) :
  aH (fH d k.nv ρ cB) (mg hp.length k.hp.length ν fA) (Mt ++ new) w'∧kY z W (fH d k.nv ρ cB) (mg hp.length k.hp.length ν fA) (Mt ++ new)∧Mt.length=hp.length∧∀b,jm (σ.env ρ ν) (σ.fK ρ ν) k.hp b→z≤b∨W b:=by
 have H:=Ms h0 h1 hs hA
 have hag:=Ep d k.nv hp.length k.hp.length ρ cB ν fA
 simp only [ku,Bool.and_eq_true] at hwf
 obtain ⟨⟨⟨⟨wf1,wf2⟩,wf3⟩,wf4⟩,wf5⟩:=hwf
 obtain ⟨s1,s2,s3,s4⟩:=Mr hs
 obtain ⟨hlen,hcl⟩:=yL h2 (fun j a ha=>by
   have:=s4 j a ha
   simp only [SA.sc,Bool.and_eq_true,Nat.blt_eq] at this
   exact this.1.1)
 simp only [Nat.zero_add] at hcl
 obtain ⟨hnl,hnew⟩:=Eo h3
 generalize ajg:fH d k.nv ρ cB=ρ' at *
 generalize qC:mg hp.length k.hp.length ν fA=aK at *
 have target:∀(j:Nat) (T:SB),k.hp[j]?=some T→T.own=true→T.dead (σ.env ρ ν)=false→∃a A,assoc j σ.bk=some a∧hp[a.aC]?=some A∧A.dead ρ=false∧A.own=true∧A.ro=false∧σ.fK ρ ν j=ν a.aC:=by
  intro j T hj hT hd
  obtain ⟨a,A,hB⟩:=oz hi ho hj hd
  have hb:=hB.aC
  simp only [Sub.aC,h1] at hb
  have hbk:∃a',assoc j σ.bk=some a'∧a'.aC=a.aC:=by
   have h0:Nat.blt j 0=false:=by cases j <;> rfl
   rw [h0] at hb
   simpa using hb
  obtain ⟨a',ha',e⟩:=hbk
  have hro:T.ro=false:=by
   have hg:=SB.dP hd
   have hx:∃U,k.hp'[j]?=some U:=by
    have:j<k.hp'.length:=Nat.lt_of_lt_of_le (List.getElem?_eq_some_iff.1 hj).1 (by simpa using wf2)
    exact ⟨_,List.getElem?_eq_getElem this⟩
   obtain ⟨U,hU⟩:=hx
   cases hr:T.ro with
   | false=>rfl
   | true =>
    exfalso
    unfold nS at hi
    split at hi
    ·obtain ⟨os',q1,q2⟩:=Eh hi j T hj
     rw [Nat.zero_add] at q1
     unfold LV at q1
     have h0:Nat.blt j σ.ah=false:=by rw [h1];cases j <;> rfl
     rw [hg,h0,ha'] at q1
     simp only [Bool.false_eq_true,if_false] at q1
     split at q1
     ·unfold Eg at q1
      simp [hT,hr] at q1
     ·cases q1
    ·cases hi
  obtain ⟨r1,r2⟩:=hB.ro hro
  refine ⟨a',A,ha',by rw [e];exact hB.hp,hB.live,hB.own hT,r1,?_⟩
  rw [hB.fK,r2,Addr.add_zero,e]
 have Rw:∀(i:Nat) (s:SB),hp[i]?=some s→s.dead ρ=false→(∀j T a,k.hp[j]?=some T→T.own=true→T.gone=false→assoc j σ.bk=some a→a.aC≠i)→¬jm (σ.env ρ ν) (σ.fK ρ ν) k.hp (ν i).block:=by
  rintro i s hi' hd hno ⟨j,T,hj,hT,JK,hb⟩
  obtain ⟨a,A,ha,hA',Mw,_,hAr,vV⟩:=target j T hj hT JK
  rw [vV] at hb
  exact hno j T a hj hT (SB.dP JK) ha (hh.inj _ _ A s hA' hi' Mw hd hAr hb.symm)
 have kinds:∀(i:Nat) (s:SB),(Mt ++ new)[i]?=some s→s.dead ρ'=false →
   (hp[i]?=some s∧s.dead ρ=false∧(∀j T a,k.hp[j]?=some T→T.own=true→T.gone=false→assoc j σ.bk=some a→a.aC≠i)∧aK i=ν i) ∨
   (∃j U,k.hp'[j]?=some U∧U.dead cB=false∧s.t=U.t∧s.ro=false∧U.ro=false∧(∀arr,U.has cB fA arr→s.has ρ' aK arr)∧aK i=fA j ∧
     ((j<k.hp.length∧∃a A,assoc j σ.bk=some a∧a.aC=i∧hp[i]?=some A∧A.dead ρ=false∧A.own=true∧A.ro=false∧aK i=ν i)∨(hp.length≤i∧j=k.hp.length+(i-hp.length)∧U.own=true))):=by
  intro i s hs' hd
  rw [List.getElem?_append] at hs'
  split at hs'
  ·rename_i hlt
   rw [hlen] at hlt
   have XJ:aK i=ν i:=by rw [←qC];simp [mg,hlt]
   rcases hcl i with ⟨j,T,a,U,sb,e1,e2,e3,e4,e5,e6,e7,e8⟩ | ⟨q1,q2⟩
   ·rw [e8] at hs'
    simp at hs'
    subst hs'
    obtain ⟨g1,g2,g3,g4,g5,g6⟩:=SB.ZP H e7 (SB.dP hd)
    have JL:U.dead cB=false:=by
     unfold SB.dead at hd ⊢
     rw [g1,←g5]
     simp at hd
     simp [hd.2]
    rcases JI wf4 j T U e1 e6 e2 with hc | ⟨c1,c2,c3⟩
    ·rw [g1] at hc;cases hc
    have JK:T.dead (σ.env ρ ν)=false:=by
     have hjlt:j<k.hp.length:=(List.getElem?_eq_some_iff.1 e1).1
     have hTs:=jg wf3 j T e1
     have:=SB.ZL hA hTs e3
     unfold SB.dead at JL ⊢
     rw [e3,Bool.false_or,←this,c3]
     simp at JL
     exact JL.2
    obtain ⟨a',A,ha,hA',Mw,JM,hAr,vV⟩:=target j T e1 e2 JK
    rw [e4] at ha
    cases ha
    have hjlt:j<k.hp.length:=(List.getElem?_eq_some_iff.1 e1).1
    refine .inr ⟨j,U,e6,JL,g2,g3.trans c2,c2,g6,?_,.inl ⟨hjlt,a,A,e4,e5,by rw [←e5];exact hA',Mw,JM,hAr,XJ⟩⟩
    rw [XJ,hA.bl j hjlt,vV,e5]
   ·rw [q2] at hs'
    exact .inl ⟨hs',by rwa [SB.nA hag (jg hsc i s hs')] at hd,q1,XJ⟩
  ·rename_i hge
   rw [hlen] at hge hs'
   obtain ⟨U,hU,htr⟩:=hnew _ s hs'
   rw [List.getElem?_drop] at hU
   obtain ⟨g1,g2,g3,g4,g5,g6⟩:=SB.ZP H htr (SB.dP hd)
   have JL:U.dead cB=false:=by
    unfold SB.dead at hd ⊢
    rw [g1,←g5]
    simp at hd
    simp [hd.2]
   have hcn:=JJ wf5 (i-hp.length) U (by rw [List.getElem?_drop];exact hU)
   rcases hcn with hcn | ⟨c1,c2⟩
   ·rw [g1] at hcn;cases hcn
   refine .inr ⟨k.hp.length+(i-hp.length),U,hU,JL,g2,g3.trans c2,c2,g6,?_,.inr ⟨by omega,rfl,c1⟩⟩
   rw [←qC]
   have:¬i<hp.length:=by omega
   simp only [mg,if_neg this]
   congr 1
   omega
 have Mx:∀(i:Nat) (s:SB) (j:Nat) (U:SB),hp[i]?=some s→s.dead ρ=false→(∀j T a,k.hp[j]?=some T→T.own=true→T.gone=false→assoc j σ.bk=some a→a.aC≠i) →
   k.hp'[j]?=some U→U.own=true→U.dead cB=false→(ν i).block≠(fA j).block:=by
  intro i s j U hi' hd hno hU hUo JL he
  rcases hO j U hU hUo JL with h | h
  ·have:=hh.lt hi' hd
   omega
  ·rw [←he] at h
   exact Rw i s hi' hd hno h
 refine ⟨⟨fun i j x y hx hy dx dy rx he=>?_,fun i s hs' hd hr=>?_,fun i s hs' hd hr=>?_⟩,fun i s hs' hso hd=>?_,hlen,fun b hb=>?_⟩
 ·rcases kinds i x hx dx with ⟨a1,a2,a3,a4⟩ | ⟨j1,U1,b1,b2,b3,b4,b5,b6,b7,b8⟩
  ·rcases kinds j y hy dy with ⟨c1,c2,c3,c4⟩ | ⟨j2,U2,d1,d2,d3,d4,d5,d6,d7,d8⟩
   ·rw [a4,c4] at he
    exact hh.inj i j x y a1 c1 a2 c2 rx he
   ·rcases d8 with ⟨e1,a,A,e2,e3,e4,e5,e6,e7,e8⟩ | ⟨e1,e2,e3⟩
    ·rw [a4,e8] at he
     exact (hh.inj j i A x e4 a1 e5 a2 e7 he.symm).symm
    ·rw [a4,d7] at he
     exact absurd he (Mx i x j2 U2 a1 a2 a3 d1 e3 d2)
  ·rcases kinds j y hy dy with ⟨c1,c2,c3,c4⟩ | ⟨j2,U2,d1,d2,d3,d4,d5,d6,d7,d8⟩
   ·rcases b8 with ⟨e1,a,A,e2,e3,e4,e5,e6,e7,e8⟩ | ⟨e1,e2,e3⟩
    ·rw [e8,c4] at he
     exact hh.inj i j A y e4 c1 e5 c2 e7 he
    ·rw [b7,c4] at he
     exact absurd he.symm (Mx j y j1 U1 c1 c2 c3 b1 e3 b2)
   ·rw [b7,d7] at he
    have hj:=hP.inj j1 j2 U1 U2 b1 d1 b2 d2 b5 he
    subst hj
    rcases b8 with ⟨e1,a,A,e2,e3,e4,e5,e6,e7,e8⟩ | ⟨e1,e2,e3⟩ <;> rcases d8 with ⟨f1,a',A',f2,f3,f4,f5,f6,f7,f8⟩ | ⟨f1,f2,f3⟩
    ·rw [e2] at f2
     cases f2
     rw [←e3,←f3]
    ·omega
    ·omega
    ·omega
 ·rcases kinds i s hs' hd with ⟨a1,a2,a3,a4⟩ | ⟨j1,U1,b1,b2,b3,b4,b5,b6,b7,b8⟩
  ·obtain ⟨q0,arr,q1,q2⟩:=hh.aC i s a1 a2 hr
   rw [a4]
   refine ⟨q0,arr,?_,SB.Au hag (jg hsc i s a1) (SB.dP a2) q2⟩
   rw [hW.block _ (hh.lt a1 a2) (Rw i s a1 a2 a3)]
   exact q1
  ·obtain ⟨q0,arr,q1,q2⟩:=hP.aC j1 U1 b1 b2 b5
   rw [b7]
   exact ⟨q0,arr,by rw [b3];exact q1,b6 arr q2⟩
 ·rcases kinds i s hs' hd with ⟨a1,a2,a3,a4⟩ | ⟨j1,U1,b1,b2,b3,b4,b5,b6,b7,b8⟩
  ·obtain ⟨q0,arr,q1,q2⟩:=hh.rd i s a1 a2 hr
   rw [a4]
   refine ⟨q0.of id rfl hW.size (hW.block _ (hh.lt a1 a2) (Rw i s a1 a2 a3)),arr,SB.Au hag (jg hsc i s a1) (SB.dP a2) q1,fun p v hp=>?_⟩
   rw [World.cell?_of_block (w:=w) (w':=w')]
   ·exact q2 p v hp
   ·rw [Bi];exact hW.block _ (hh.lt a1 a2) (Rw i s a1 a2 a3)
  ·rw [b4] at hr;cases hr
 ·rcases kinds i s hs' hd with ⟨a1,a2,a3,a4⟩ | ⟨j1,U1,b1,b2,b3,b4,b5,b6,b7,b8⟩
  ·rw [a4];exact hown i s a1 hso a2
  ·rcases b8 with ⟨e1,a,A,e2,e3,e4,e5,e6,e7,e8⟩ | ⟨e1,e2,e3⟩
   ·rw [e8];exact hown i A e4 e6 e5
   ·rw [b7]
    rcases hO j1 U1 b1 e3 b2 with h | ⟨j,T,hj,hT,JK,hb⟩
    ·exact .inl (Nat.le_trans hz h)
    ·obtain ⟨a,A,ha,hA',Mw,JM,hAr,vV⟩:=target j T hj hT JK
     rw [hb,vV]
     exact hown _ A hA' JM Mw
 ·obtain ⟨j,T,hj,hT,JK,hb⟩:=hb
  obtain ⟨a,A,ha,hA',Mw,JM,hAr,vV⟩:=target j T hj hT JK
  rw [hb,vV]
  exact hown _ A hA' JM Mw
end
theorem UF (k:Option Kd) (i:Int) (b:Bool) (v:Value):(om k i b v).oneCell'=true:=by
 unfold om
 split
 ·rfl
 ·rfl
 ·exact DV v
theorem Gd:∀{l:List SC},CP l=false→∀c∈l,c.isHole=false
 | [],_,c,h=>by cases h
 | d :: r,h,c,hc=>by
  simp only [CP,Bool.or_eq_false_iff] at h
  rcases List.mem_cons.1 hc with rfl | hc
  ·exact h.1
  ·exact Gd h.2 c hc
section
variable {ρ:Env} {ν:Nat→Addr}
theorem MB (a b:IE):(a.Ma b).den ρ=a.den ρ * b.den ρ:=by
 unfold IE.Ma
 split
 ·rename_i h1 h2;simp [IE.aN h1,IE.aN h2,IE.den]
 ·rfl
structure Rx (ρ:Env) (ν:Nat→Addr) (ks:List Kd) (size n:Nat) (xs:List Value) (cv:CV):Prop where
 len:xs.length=n * size
 at_:∀i j,i<n→j<size→xs[i * size+j]?=some (om ks[j]? (cv.I ρ i 0 j) (cv.B ρ i 0 j) (cv.V ρ ν i 0 j))
structure Dst (ρ:Env) (ν:Nat→Addr) (w:World) (hp:List SB) (te:TI) (e:TypeId) (b:Option Nat) (c:BE) (v0:Value) (n:Nat) (xs:List Value):Prop where
 own:w.ownsRow 0 e te.size v0 n xs
 nil:c.den ρ=true↔v0=.slice none 0 0
 aC:v0.ownBlock=none∨∃k sb0,b=some k∧v0.ownBlock=some (ν k).block∧hp[k]?=some sb0∧sb0.dead ρ=false∧sb0.ro=false∧sb0.own=true
def CU (ρ:Env) (ν:Nat→Addr) (size n:Nat) (xs:List Value):Old→Prop
 | .cells cs=>cs.length=n * size∧∀(p:Nat) (c:SC),cs[p]?=some c→c.isHole=false→xs[p]?=some (c.den ρ ν)
 | .PM g us=>g.s1=size∧g.n2=1∧g.s2=0∧g.lo=0∧g.ks.length=size∧(∀u∈us,0≤u.i1.den ρ∧0≤u.i2.den ρ)∧∀i j,i<n→j<size→xs[i * size+j]?=some (cK ρ ν us 0 i 0 j (g.base ρ i 0 j))
theorem JN {w:World} {hp:List SB} (hh:aH ρ ν hp w) {te:TI} {e:TypeId} {c:BE} {a:SA} {len cap:IE} {os0:List BE} {b:Option Nat} {c':BE} {len':IE} {old:Old} {os:List BE}
  (h:F6 te e hp c a len cap os0=some (b,c',len',old,os)) (ho:∀o∈os,o.den ρ=true) :
  c'=c∧len'=len∧(∀o∈os0,o.den ρ=true)∧(c.den ρ=true→len.den ρ=0→CU ρ ν te.size 0 [] old) ∧
  (c.den ρ=false→∃n xs,Dst ρ ν w hp te e b c (SC.den ρ ν (.sl a len cap)) n xs∧len.den ρ=(n:Int)∧CU ρ ν te.size n xs old):=by
 unfold F6 at h
 split at h
 case h_2=>cases h
 rename_i sb0 vX
 split at h
 ·cases h
 rename_i hc
 simp only [Bool.or_eq_true,Bool.not_eq_true',not_or,Bool.not_eq_true,beq_eq_false_iff_ne,ne_eq,Decidable.not_not,Bool.not_eq_false] at hc
 obtain ⟨⟨⟨⟨⟨⟨⟨d1,d0⟩,d2⟩,d3⟩,d4⟩,d5⟩,d6⟩,d7⟩:=hc
 have d7':=BE.aD d7
 have ha:=SA.CO (ρ:=ρ) d6
 obtain ⟨ce,cn,hce,e1,e2⟩:∃ce cn,sb0.cap=some (ce,cn)∧ce.same cap=true∧cn=te.size:=by
  unfold ZR at d5
  split at d5
  ·rename_i c n hc
   exact ⟨c,n,hc,by simpa using d5⟩
  ·cases d5
 have ahB:=IE.aD e1
 have base:∀(os':List BE),(∀o∈(BE.ai (.lit 0) len :: .ai len cap :: .ai cap (.lit 9223372036854775807) :: os0),o.den ρ=true)→0≤len.den ρ∧len.den ρ≤cap.den ρ∧cap.den ρ≤9223372036854775807∧∀o∈os0,o.den ρ=true:=by
  intro _ hq
  have a1:=of_decide_eq_true (hq _ (by simp):BE.den ρ (.ai (.lit 0) len)=true)
  have a2:=of_decide_eq_true (hq _ (by simp):BE.den ρ (.ai len cap)=true)
  have a3:=of_decide_eq_true (hq _ (by simp):BE.den ρ (.ai cap (.lit 9223372036854775807))=true)
  exact ⟨a1,a2,a3,fun o hm=>hq o (by simp [hm])⟩
 have live:0≤len.den ρ→len.den ρ≤cap.den ρ→cap.den ρ≤9223372036854775807→c.den ρ=false→∃arr:Array Value,sb0.has ρ ν arr ∧
   Dst ρ ν w hp te e (some a.aC) c (SC.den ρ ν (.sl a len cap)) (len.den ρ).toNat (arr.toList.take ((len.den ρ).toNat * te.size))∧(arr.toList.take ((len.den ρ).toNat * te.size)).length=(len.den ρ).toNat * te.size:=by
  intro b1 b2 b3 hcf
  have hd:sb0.dead ρ=false:=by simp [SB.dead,d1,d7',hcf]
  obtain ⟨hz,arr,harr,hhas⟩:=hh.aC _ _ vX hd d2
  replace harr:=harr.cells d0
  rw [d4] at harr
  obtain ⟨k1,k2⟩:=hhas.cap _ _ hce
  rw [ahB] at k1 k2
  rw [e2] at k2
  have hLc:(len.den ρ).toNat≤(cap.den ρ).toNat:=by omega
  have hle:(len.den ρ).toNat * te.size≤arr.size:=by rw [k2];exact Nat.mul_le_mul_right _ hLc
  have hl:(arr.toList.take ((len.den ρ).toNat * te.size)).length=(len.den ρ).toNat * te.size:=by rw [List.length_take,Array.length_toList,Nat.min_eq_left hle]
  have hdst:SC.den ρ ν (.sl a len cap)=.slice (some ⟨(ν a.aC).block,0,none⟩) (len.den ρ).toNat (cap.den ρ).toNat:=by
   simp only [SC.den,SA.den,ha,Addr.add_zero]
   rw [←hz]
  refine ⟨arr,hhas,⟨⟨hl,.inr ⟨(ν a.aC).block,(cap.den ρ).toNat,arr,hdst,Nat.zero_le _,harr,hLc,by simp only [maxLen];omega,k2,rfl⟩⟩,?_,?_⟩,hl⟩
  ·rw [hcf,hdst];simp
  ·exact .inr ⟨a.aC,sb0,rfl,by rw [hdst];rfl,vX,hd,d2,by simpa using d3⟩
 simp only at h
 split at h
 ·
  rename_i hseg
  split at h
  ·rename_i L hL
   split at h
   ·rename_i hLl
    simp only [decide_eq_true_eq] at hLl
    simp only [Option.some.injEq,Prod.mk.injEq] at h
    obtain ⟨rfl,rfl,rfl,rfl,rfl⟩:=h
    obtain ⟨b1,b2,b3,b4⟩:=base os0 ho
    have eL:=IE.aN (ρ:=ρ) hL
    refine ⟨rfl,rfl,b4,fun _ h0=>?_,fun hcf=>?_⟩
    ·have:L.toNat=0:=by rw [eL] at h0;omega
     simp [CU,this]
    ·obtain ⟨arr,hhas,hD,hl⟩:=live b1 b2 b3 hcf
     have eL':(len.den ρ).toNat=L.toNat:=by rw [eL]
     refine ⟨_,_,hD,by omega,?_,fun p x hp hx=>?_⟩
     ·rw [List.length_take,Nat.min_eq_left hLl,eL']
     ·have hpl:p<L.toNat * te.size:=by
       have:=(List.getElem?_eq_some_iff.1 hp).1
       rw [List.length_take,Nat.min_eq_left hLl] at this
       exact this
      rw [List.getElem?_take_of_lt hpl] at hp
      rw [eL',List.getElem?_take_of_lt hpl]
      simpa using hhas.ex p x hp hx
   ·cases h
  ·cases h
 ·rename_i g hseg
  split at h
  ·rename_i hcond
   simp only [Bool.and_eq_true,beq_iff_eq,List.isEmpty_iff] at hcond
   obtain ⟨⟨⟨⟨⟨⟨q1,q3⟩,q4⟩,q5⟩,q6⟩,q7⟩,q8⟩:=hcond
   simp only [Option.some.injEq,Prod.mk.injEq] at h
   obtain ⟨rfl,rfl,rfl,rfl,rfl⟩:=h
   have hle:=of_decide_eq_true (ho _ (by simp):BE.den ρ (.ai len g.n1)=true)
   obtain ⟨b1,b2,b3,b4⟩:=base os0 (fun o hm=>ho o (List.mem_cons_of_mem _ hm))
   refine ⟨rfl,rfl,b4,fun hct h0=>?_,fun hcf=>?_⟩
   ·refine ⟨q3,q4,q5,q6,q7,?_,fun i j hi=>by omega⟩
    intro u hu
    simp only [Bool.or_eq_true,List.isEmpty_iff] at q8
    rcases q8 with q8 | q8
    ·rw [q8] at hu;cases hu
    ·rw [BE.aD q8] at hct;cases hct
   ·obtain ⟨arr,hhas,hD,hl⟩:=live b1 b2 b3 hcf
    refine ⟨_,_,hD,by omega,q3,q4,q5,q6,q7,hhas.un,fun i j hi hj=>?_⟩
    have hin:i * te.size+j<(len.den ρ).toNat * te.size:=by
     have:(i+1) * te.size≤(len.den ρ).toNat * te.size:=Nat.mul_le_mul_right _ hi
     rw [Nat.add_mul] at this
     omega
    rw [List.getElem?_take_of_lt hin]
    have:=hhas.sg 0 g (by rw [hseg];rfl) i 0 j (by omega) (by omega) (by rw [q7];exact hj)
    rw [q3,q5,q6,Nat.zero_mul] at this
    simpa using this
  ·cases h
 ·cases h
theorem pQ {len:IE} (m:Nat) (h:0≤len.den ρ):((len.iO (.lit (m:Nat))).den ρ).toNat=(len.den ρ).toNat+m∧(len.iO (.lit (m:Nat))).den ρ=len.den ρ+m:=by
 rw [IE.kL]
 simp only [IE.den]
 constructor
 ·omega
 ·trivial
theorem MC {len:IE} (h:0≤len.den ρ) (size:Nat):∀(news:List SC) (p:Nat),∀u∈uV len news size p,0≤u.i1.den ρ∧0≤u.i2.den ρ
 | [],_,_,hu=>by cases hu
 | c :: r,p,u,hu=>by
  simp only [uV] at hu
  rcases List.mem_cons.1 hu with rfl | hu
  ·obtain ⟨-,h2⟩:=pQ (len:=len) (p / size) h
   simp only
   rw [h2]
   exact ⟨Int.add_nonneg h (Int.natCast_nonneg _),Int.le_refl 0⟩
  ·exact MC h size r (p+1) u hu
theorem JO {len:IE} (h:0≤len.den ρ) {size i1 j:Nat} (us:List Up) (b:Value) (hi:i1<(len.den ρ).toNat):∀(news:List SC) (p:Nat),
  cK ρ ν (uV len news size p ++ us) 0 i1 0 j b=cK ρ ν us 0 i1 0 j b
 | [],_=>rfl
 | c :: r,p=>by
  simp only [uV,List.cons_append,cK,(pQ (len:=len) (p / size) h).1]
  rw [if_neg (by rintro ⟨-,h1,-⟩;have:=Nat.le_add_right (len.den ρ).toNat (p / size);omega)]
  exact JO h us b hi r (p+1)
theorem JP {len:IE} (h:0≤len.den ρ) {size i j:Nat} (hj:j<size) (us:List Up) (b:Value):∀(news:List SC) (p:Nat),p≤i * size+j→∀(c:SC),
  news[i * size+j-p]?=some c→cK ρ ν (uV len news size p ++ us) 0 ((len.den ρ).toNat+i) 0 j b=c.den ρ ν
 | [],_,_,c,hc=>by simp at hc
 | d :: r,p,hp,c,hc=>by
  simp only [uV,List.cons_append,cK,(pQ (len:=len) (p / size) h).1,IE.den]
  by_cases he:p=i * size+j
  ·subst he
   simp at hc
   subst hc
   have h1:(i * size+j) / size=i:=by rw [Nat.mul_comm,Nat.mul_add_div (by omega),Nat.div_eq_of_lt hj,Nat.add_zero]
   have h2:(i * size+j) % size=j:=by rw [Nat.mul_comm,Nat.mul_add_mod,Nat.mod_eq_of_lt hj]
   simp [h1,h2]
  ·rw [if_neg]
   ·refine JP h hj us b r (p+1) (by omega) c ?_
    have:i * size+j-p=(i * size+j-(p+1))+1:=by omega
    rw [this] at hc
    simpa using hc
   ·rintro ⟨-,h1,-,h2⟩
    apply he
    have:=Nat.div_add_mod p size
    have h3:p / size=i:=by omega
    rw [h3,h2,Nat.mul_comm] at this
    exact this.symm
theorem ME {w:World} {hp:List SB} (hh:aH ρ ν hp w) {te:TI} {e:TypeId} {dst:SV} {b:Option Nat} {c:BE} {len:IE} {old:Old} {os:List BE}
  (h:KQ te e hp dst=some (b,c,len,old,os)) (ho:∀o∈os,o.den ρ=true) :
  ∃n xs,Dst ρ ν w hp te e b c (dst.den ρ ν) n xs∧len.den ρ=(n:Int)∧CU ρ ν te.size n xs old:=by
 unfold KQ at h
 split at h
 ·simp only [Option.some.injEq,Prod.mk.injEq] at h
  obtain ⟨rfl,rfl,rfl,rfl,rfl⟩:=h
  exact ⟨0,[],⟨World.ownsRow_nil w 0 e te.size,by simp [BE.den,SV.den,SW.den,SC.den],.inl rfl⟩,rfl,by simp,fun p c hp=>by simp at hp⟩
 ·rename_i a l cap
  obtain ⟨rfl,rfl,-,-,h2⟩:=JN (ν:=ν) hh h ho
  exact h2 rfl
 ·rename_i c0 a l cap
  obtain ⟨rfl,rfl,h0,h1,h2⟩:=JN (ν:=ν) hh h ho
  cases hc:c.den ρ with
  | true =>
   have hl:=yf (h0 _ (List.mem_singleton.2 rfl)) hc
   refine ⟨0,[],⟨?_,?_,.inl ?_⟩,by rw [hl];rfl,h1 hc hl⟩
   ·simp only [SV.den,SW.den,SC.den,hc,if_true];exact World.ownsRow_nil w 0 e te.size
   ·simp [SV.den,SW.den,SC.den,hc]
   ·simp only [SV.den,SW.den,SC.den,hc,if_true];rfl
  | false =>
   obtain ⟨n,xs,hD,hn,hO⟩:=h2 hc
   have e:SV.den ρ ν (.w (.one (.fw c a len cap)))=SC.den ρ ν (.sl a len cap):=by simp [SV.den,SW.den,SC.den,hc]
   exact ⟨n,xs,by rw [e];exact hD,hn,hO⟩
 ·cases h
theorem UG {ks:List Kd} {cs:List SC} {p:Nat} (h:CK cs ks p=true) {j:Nat} {k:Kd} (hj:ks[j]?=some k):∃c,cs[p+j]?=some c∧nC k c=true∧c.isHole=false:=by
 obtain ⟨c,hc,hk⟩:=Ec h j k hj
 refine ⟨c,hc,hk,?_⟩
 cases k <;> cases c <;> simp_all [nC,SC.isHole]
theorem abr {te:TI} {len:IE} {old:Old} {n:Nat} {xs:List Value} (hz:te.zero.length=te.size) (hn:len.den ρ=(n:Int)) (hl:xs.length=n * te.size) (hO:CU ρ ν te.size n xs old) (hf:F7 te len old=true) :
  Rx ρ ν (te.zero.map qz) te.size n xs (qN te old):=by
 refine ⟨hl,fun i j hi hj=>?_⟩
 obtain ⟨kj,hkj⟩:∃k,(te.zero.map qz)[j]?=some k:=⟨_,List.getElem?_eq_getElem (by simpa [hz] using hj)⟩
 cases old with
 | cells cs =>
  obtain ⟨h1,h2⟩:=hO
  unfold F7 at hf
  simp only at hf
  split at hf
  ·rename_i L hL
   rw [IE.aN hL] at hn
   have hfa:=Ed (Ee hf i (by omega)) 0 (by omega)
   obtain ⟨c,hc,hk,hh⟩:=UG hfa hkj
   have hpos:i * te.size+j=0+i * te.size+0 * 0+j:=by omega
   rw [h2 (i * te.size+j) c (by rw [hpos];exact hc) hh,hkj,Us hk]
   have hgd:cs.getD (i * te.size+0 * 0+0+j) .hole=c:=by
    rw [List.getD_eq_getElem?_getD,show i * te.size+0 * 0+0+j=0+i * te.size+0 * 0+j by omega,hc];rfl
   simp only [qN,CV.I,CV.B,CV.V,hgd]
  ·cases hf
 | PM g us =>
  obtain ⟨h1,h2,h3,h4,h5,h6,h7⟩:=hO
  simp only [F7,Bool.and_eq_true] at hf
  have hks:=pG hf.1
  rw [h7 i j hi hj,Rh (by rw [h5];exact hj) hf.2,hks]
  simp [qN,CV.I,CV.B,CV.V,IE.den]
theorem ac1 {w:World} {hp:List SB} (hh:aH ρ ν hp w) {te:TI} {c:BE} {a:SA} {n:IE} {cv:CV} {os:List BE} (hz:te.zero.length=te.size) (h:Rq te hp c a n=some (cv,os)) (ho:∀o∈os,o.den ρ=true) :
  0≤n.den ρ∧(c.den ρ=false→∃news:List Value,Rx ρ ν (te.zero.map qz) te.size (n.den ρ).toNat news cv∧(∀j u,news[j]?=some u→w.cell? ((a.den ρ ν).add j)=some u)∧∀u∈news,u.oneCell'=true):=by
 unfold Rq at h
 split at h
 ·cases h
 rename_i sb hsb
 split at h
 ·cases h
 rename_i hc
 simp only [Bool.or_eq_true,Bool.not_eq_true',not_or,Bool.not_eq_true,Bool.not_eq_false] at hc
 obtain ⟨⟨⟨d1,d0⟩,d2⟩,d3⟩:=hc
 split at h
 case h_2=>cases h
 rename_i g hseg
 split at h
 case h_2=>cases h
 rename_i sh hsh
 split at h
 case isFalse=>cases h
 rename_i hcond
 simp only [Bool.and_eq_true,beq_iff_eq] at hcond
 obtain ⟨⟨⟨⟨⟨q1,q2⟩,q3⟩,q4⟩,q5⟩,q6⟩:=hcond
 simp only [Option.some.injEq,Prod.mk.injEq] at h
 obtain ⟨rfl,rfl⟩:=h
 have b0:=of_decide_eq_true (ho _ (by simp):BE.den ρ (.ai (.lit 0) n)=true)
 have b1:=of_decide_eq_true (ho _ (by simp):BE.den ρ (.ai (.lit 0) sh)=true)
 have b2:=of_decide_eq_true (ho _ (by simp):BE.den ρ (.ai (sh.iO n) g.n1)=true)
 rw [IE.kL] at b2
 simp only [IE.den] at b0 b1
 refine ⟨b0,fun hcf=>?_⟩
 have hks:=pG q5
 have hkl:g.ks.length=te.size:=by rw [hks,List.length_map,hz]
 have hd:sb.dead ρ=false:=by
  have:sb.nl.den ρ=false:=by
   by_cases hx:sb.nl.same c=true
   ·rw [BE.aD hx];exact hcf
   ·have:=BE.aD (d3.resolve_left hx)
    rw [this];rfl
  simp [SB.dead,d1,this]
 obtain ⟨arr,hhas,harr⟩:=hh.cells hsb hd (fun _=>d0)
 let f:Nat→Nat→Value:=fun i j=>om (te.zero.map qz)[j]? ((CV.up g 0 sb.ups sh).I ρ i 0 j) ((CV.up g 0 sb.ups sh).B ρ i 0 j) ((CV.up g 0 sb.ups sh).V ρ ν i 0 j)
 have hcell:∀i j,i<(n.den ρ).toNat→j<te.size→arr[a.off ρ+(i * te.size+j)]?=some (f i j):=by
  intro i j hi hj
  have hi':(((sh.den ρ).toNat+i:Nat):Int)<g.n1.den ρ:=by omega
  have:=hhas.sg 0 g (by rw [hseg];rfl) ((sh.den ρ).toNat+i) 0 j hi' (by omega) (by omega)
  rw [SA.LU hsh]
  rw [q1,q3,q4] at this
  rw [show (sh.den ρ).toNat * te.size+(i * te.size+j)=((sh.den ρ).toNat+i) * te.size+0 * 0+0+j by rw [Nat.add_mul];omega,this,Rh (by omega) q6,hks]
  rfl
 refine ⟨(List.range ((n.den ρ).toNat * te.size)).map fun p=>f (p / te.size) (p % te.size),⟨by simp,fun i j hi hj=>?_⟩,fun j u hj=>?_,fun u hu=>?_⟩
 ·have hlt:i * te.size+j<(n.den ρ).toNat * te.size:=by
   have:(i+1) * te.size≤(n.den ρ).toNat * te.size:=Nat.mul_le_mul_right _ hi
   rw [Nat.add_mul] at this
   omega
  rw [List.getElem?_map,List.getElem?_range hlt]
  have h1:(i * te.size+j) / te.size=i:=by rw [Nat.mul_comm,Nat.mul_add_div (by omega),Nat.div_eq_of_lt hj,Nat.add_zero]
  have h2:(i * te.size+j) % te.size=j:=by rw [Nat.mul_comm,Nat.mul_add_mod,Nat.mod_eq_of_lt hj]
  simp only [Option.map_some,h1,h2,f]
 ·rw [List.getElem?_map] at hj
  simp only [Option.map_eq_some_iff] at hj
  obtain ⟨p,hp,rfl⟩:=hj
  have hpl:=(List.getElem?_eq_some_iff.1 hp).1
  rw [List.length_range] at hpl
  rw [List.getElem?_range hpl] at hp
  simp at hp
  subst hp
  have hs:0<te.size:=by
   rcases Nat.eq_zero_or_pos te.size with h0 | h0
   ·rw [h0] at hpl;omega
   ·exact h0
  have h1:=hcell (j / te.size) (j % te.size) ((Nat.div_lt_iff_lt_mul hs).2 hpl) (Nat.mod_lt _ hs)
  rw [show j / te.size * te.size+j % te.size=j by rw [Nat.mul_comm];exact Nat.div_add_mod j te.size] at h1
  unfold SA.den
  rw [Addr.add_add]
  exact harr _ _ h1
 ·simp only [List.mem_map] at hu
  obtain ⟨p,-,rfl⟩:=hu
  exact UF _ _ _ _
end
theorem Gf {P:Program} {w:World} {t ty e:TypeId} {te:TI} (ht:P.underlying t=some (.slice e)) (hte:ql P e te) (hs:0<te.size) (hby:0<te.bytes) {v0:Value} {n:Nat} {xs:List Value} (hown:w.ownsRow 0 e te.size v0 n xs)
  (src:Option Addr) (m cx:Nat) (h0:src=none→m=0) (news:List Value) (hl:news.length=m * te.size) (hnews:∀A,src=some A→∀j u,news[j]?=some u→w.cell? (A.add j)=some u) (h1:∀u∈news,u.oneCell'=true)
  (hb:(n+m) * te.bytes≤140737488355328) :
  ∃v' w',(Builtin.append_ #[t,t] ty #[v0,.slice src m cx]).run P w=.ok v' w'∧w.grownBy w' v0.ownBlock∧(v'=.slice none 0 0↔v0=.slice none 0 0∧m=0) ∧
   (v'=Value.slice none 0 0∨∃(g cap:Nat) (cur:Array Value),v'=.slice (some ⟨g,0,none⟩) (n+m) cap∧w'.heap[g]?=some (.cells cur e (0,0))∧n+m≤cap∧cap≤maxLen∧cur.size=cap * te.size∧cur.toList.take ((n+m) * te.size)=xs ++ news ∧
     (v0.ownBlock=some g∨g=w.heap.size)):=by
 obtain ⟨i,z,hi,hsz,hz,hzc,hza,hzl,hbt⟩:=hte.info
 have hzs:z.cells.size=te.size:=by
  have:=oL (ρ:={}) (ν:=fun _=>⟨0,0,none⟩) hzc
  rw [←Array.length_toList,this,List.length_map,hzl]
 have hn63:n+m≤maxLen:=by
  have:(n+m) * 1≤(n+m) * te.bytes:=Nat.mul_le_mul_left _ hby
  simp only [maxLen]
  omega
 have fin:∀(v':Value) (w':World),w'.ownsRow 0 e te.size v' (n+m) (xs ++ news)→(v'.ownBlock=v0.ownBlock∨v'.ownBlock=some w.heap.size)→(v'=Value.slice none 0 0∨∃(g cap:Nat) (cur:Array Value),v'=.slice (some ⟨g,0,none⟩) (n+m) cap∧w'.heap[g]?=some (.cells cur e (0,0))∧n+m≤cap∧cap≤maxLen∧cur.size=cap * te.size∧cur.toList.take ((n+m) * te.size)=xs ++ news ∧
       (v0.ownBlock=some g∨g=w.heap.size)):=by
  intro v' w' ho hat
  rcases ho.2 with ⟨rfl,h⟩ | ⟨g,cap,cur,rfl,-,h3,h4,h5,h6,h7⟩
  ·exact .inl rfl
  ·refine .inr ⟨g,cap,cur,rfl,h3,h4,h5,h6,h7,?_⟩
   rcases hat with h | h
   ·exact .inl (by rw [←h];rfl)
   ·refine .inr ?_
    have h':some g=some w.heap.size:=h
    exact Option.some.inj h'
 cases src with
 | some A =>
  obtain ⟨v',w',hr,ho,hg,hnil,hat⟩:=run_append_own_at (P:=P) w 0 t ty e i z te.size te.bytes ht hi hz hsz hbt hzs hs v0 n xs hown A m cx news hl (hnews A rfl) h1 hn63 hb (Nat.zero_le _)
  exact ⟨v',w',hr,hg,hnil,fin v' w' ho hat⟩
 | none =>
  have hm:=h0 rfl
  subst hm
  have hn:news=[]:=List.eq_nil_of_length_eq_zero (by simpa using hl)
  subst hn
  refine ⟨v0,w,?_,⟨rfl,rfl,rfl,Nat.le_refl _,fun _ _ _=>rfl⟩,by simp,fin v0 w (by simpa using hown) (.inl rfl)⟩
  rcases hown.2 with ⟨rfl,rfl⟩ | ⟨g,cap,cur,rfl,-,h3,h4,h5,h6,h7⟩
  ·simp [Builtin.append_,run_underlying ht,sizeOf,typeInfo,hi,Builtin.lenOf,Builtin.firstCells]
  ·simp [Builtin.append_,run_underlying ht,sizeOf,typeInfo,hi,Builtin.lenOf,Builtin.firstCells,h4,storeCells]
def jT (ν:Nat→Addr) (n g:Nat):Nat→Addr:=fun k=>if k=n then ⟨g,0,none⟩ else ν k
def Bj (ρ:Env) (i:Nat) (x:Int):Env:={ρ with iv:=fun j=>if j=i then x else ρ.iv j}
theorem XK (nv n:Nat) (ρ:Env) (ν:Nat→Addr) (g:Nat):dF nv n ρ ρ ν (jT ν n g) :=
 ⟨fun _ _=>rfl,fun _ _=>rfl,fun _ _=>rfl,fun _ _=>rfl,fun _ _=>rfl,fun _ _=>rfl,fun i hi=>by simp [jT,show i≠n by omega]⟩
theorem XL (nv n:Nat) (ρ:Env) (ν:Nat→Addr) (g:Nat) (x:Int):dF nv n ρ (Bj ρ nv x) ν (jT ν n g) :=
 ⟨fun i hi=>by simp [Bj,show i≠nv by omega],fun _ _=>rfl,fun _ _=>rfl,fun _ _=>rfl,fun _ _=>rfl,fun _ _=>rfl,fun i hi=>by simp [jT,show i≠n by omega]⟩
def Gg (ρ:Env) (ν:Nat→Addr) (w:World) (hp:List SB) (nv:Nat) (b:Option Nat) (v:SV) (sb:SB) (fs:List QF) (vr:Value) (w':World):Prop :=
 fs≠[]∧∃(g:Nat) (ρ':Env) (ob:Option Nat),dF nv hp.length ρ ρ' ν (jT ν hp.length g)∧vr=v.den ρ' (jT ν hp.length g)∧(∀f∈fs,f.den ρ')∧sb.ro=false∧w.grownBy w' ob ∧
  (ob=none∨∃k sb0,b=some k∧ob=some (ν k).block∧hp[k]?=some sb0∧sb0.dead ρ=false∧sb0.ro=false∧sb0.own=true) ∧
  (sb.dead ρ'=false→(∃cur,w'.heap[g]?=some (.cells cur sb.t (0,0))∧sb.has ρ' (jT ν hp.length g) cur)∧(ob=some g∨g=w.heap.size))
section
variable {P:Program} {ρ:Env} {ν:Nat→Addr} {w:World} {hp:List SB}
theorem PX {nv n:Nat} {len:IE} {ρ':Env} {cap:Nat} (hl:len.den ρ'=(n:Int)) (hc:ρ'.iv nv=(cap:Int)) (h1:n≤cap) (h2:cap≤maxLen):(Ej nv len).den ρ'=true:=by
 simp only [maxLen] at h2
 simp only [Ej,BE.den,IE.den,hl,hc,Bool.and_eq_true,decide_eq_true_eq]
 omega
theorem DD {len:IE} {n bytes:Nat} (hl:len.den ρ=(n:Int)) (h:(tO len bytes).den ρ=true):n * bytes≤140737488355328:=by
 have:=of_decide_eq_true h
 rw [MB,hl] at this
 simp only [IE.den] at this
 exact Int.ofNat_le.1 (by rw [Int.natCast_mul];exact this)
theorem XM (hh:aH ρ ν hp w) {t ty e:TypeId} {te:TI} (ht:P.underlying t=some (.slice e)) (hte:ql P e te) {nv:Nat} {dst:SV} {m:Nat} {news:List SC} {b:Option Nat} {v:SV} {sb:SB} {k:Nat} {fs:List QF} {os:List BE}
  (h:Ro te e nv hp dst m news=.app b v sb k fs os) (ho:∀o∈os,o.den ρ=true) (A:Addr) (cx:Nat) (hn:∀j c,news[j]?=some c→w.cell? (A.add j)=some (c.den ρ ν)) :
  ∃vr w',(Builtin.append_ #[t,t] ty #[dst.den ρ ν,.slice (some A) m cx]).run P w=.ok vr w'∧Gg ρ ν w hp nv b v sb fs vr w':=by
 unfold Ro at h
 split at h
 ·cases h
 rename_i hc
 simp only [Bool.or_eq_true,decide_eq_true_eq,Bool.not_eq_true',not_or,beq_eq_false_iff_ne,ne_eq,Decidable.not_not,Bool.not_eq_false,Bool.not_eq_true] at hc
 obtain ⟨⟨⟨⟨⟨c1,c2⟩,c3⟩,c4⟩,c5⟩,c6⟩:=hc
 split at h
 ·cases h
 rename_i b' c' len old gH hold
 split at h
 ·cases h
 rename_i yM
 replace yM:len.sc nv=true:=by simpa using yM
 have main:∀(sb:SB) (os:List BE),(∀o∈os,o.den ρ=true)→os=tO (len.iO (.lit m)) te.bytes :: gH→sb.t=e→sb.ro=false→sb.nl=.lit false→sb.gone=false →
   (∀(n:Nat) (xs:List Value) (cur:Array Value) (ρ':Env) (g:Nat),dF nv hp.length ρ ρ' ν (jT ν hp.length g)→len.den ρ=(n:Int)→CU ρ ν te.size n xs old→xs.length=n * te.size→cur.toList.take ((n+m) * te.size)=xs ++ news.map (·.den ρ ν)→(∃cap:Nat,ρ'.iv nv=cap∧cur.size=cap * te.size)→sb.has ρ' (jT ν hp.length g) cur) →
   ∃vr w',(Builtin.append_ #[t,t] ty #[dst.den ρ ν,.slice (some A) m cx]).run P w=.ok vr w' ∧
    Gg ρ ν w hp nv b' (.w (.one (.sl {aC:=hp.length,i1:=.lit 0,s1:=te.size} (len.iO (.lit m)) (.var nv)))) sb [.be (Ej nv (len.iO (.lit m)))] vr w':=by
  intro sb os ho hos ht' hro hnl hgn hhas
  subst hos
  obtain ⟨n,xs,hD,hn',hO⟩:=ME (ν:=ν) hh hold (fun o hm=>ho o (List.mem_cons_of_mem _ hm))
  have hlen:=(pQ (len:=len) (ρ:=ρ) m (by omega)).2
  have hb:=DD (n:=n+m) (by rw [hlen,hn'];simp) (ho _ (List.mem_cons_self ..))
  obtain ⟨vr,w',hr,hg,hnil,hat⟩:=Gf (P:=P) (ty:=ty) ht hte (by omega) (by omega) hD.own (some A) m cx (by simp) (news.map (·.den ρ ν)) (by simpa using c3)
   (fun B hB j u hj=>by
     cases hB
     rw [List.getElem?_map] at hj
     simp only [Option.map_eq_some_iff] at hj
     obtain ⟨c,hc,rfl⟩:=hj
     exact hn j c hc)
   (fun u hu=>by
     simp only [List.mem_map] at hu
     obtain ⟨c,hc,rfl⟩:=hu
     exact SC.sI c (Gd c4 c hc)) hb
  refine ⟨vr,w',hr,?_⟩
  rcases hat with hv | ⟨g,cap,cur,hv,bV,h1,h2,h3,h4,h5⟩
  ·exact absurd (hnil.1 hv).2 c5
  ·have hag:=XL nv hp.length ρ ν g cap
   have hlen':(len.iO (.lit m)).den (Bj ρ nv cap)=((n+m:Nat):Int):=by
    rw [IE.kL,IE.aL hag yM,hn'];simp [IE.den]
   refine ⟨by simp,g,Bj ρ nv cap,(dst.den ρ ν).ownBlock,hag,?_,?_,hro,hg,?_,fun _=>⟨⟨cur,by rw [ht'];exact bV,?_⟩,h5⟩⟩
   ·have hcv:(IE.var nv).den (Bj ρ nv cap)=(cap:Int):=by simp [IE.den,Bj]
    rw [hv]
    simp only [SV.den,SW.den,SC.den,hlen',hcv,Int.toNat_natCast]
    simp [SA.den,SA.off,IE.den,Addr.add_zero,jT]
   ·intro f hf
    rw [List.mem_singleton.1 hf]
    exact PX hlen' (by simp [Bj]) h1 h2
   ·exact hD.aC
   ·exact hhas n xs cur _ g hag hn' hO hD.own.1 h4 ⟨cap,by simp [Bj],h3⟩
 split at h
 ·rename_i cs
  split at h
  ·cases h
  rename_i Bl
  replace Bl:pF nv hp.length cs=true:=by simpa using Bl
  cases h
  refine main _ _ ho rfl rfl rfl rfl rfl ?_
  intro n xs cur ρ' g hag hn' hO hxl bV hcap
  obtain ⟨o1,o2⟩:=hO
  obtain ⟨cap,hcv,hcs⟩:=hcap
  refine ⟨fun u hu=>(by cases hu),fun _ h=>(by cases h),fun e0 n0 he=>?_,fun p c hp' hh'=>?_,fun gi g hg=>(by simp at hg)⟩
  ·simp only [Option.some.injEq,Prod.mk.injEq] at he
   obtain ⟨rfl,rfl⟩:=he
   simp only [IE.den,hcv]
   exact ⟨Int.natCast_nonneg _,by rw [Int.toNat_natCast];exact hcs⟩
  ·simp only at hp'
   have ahC:p<(n+m) * te.size:=by
    have:=(List.getElem?_eq_some_iff.1 hp').1
    rw [List.length_append,o1,c3,←Nat.add_mul] at this
    exact this
   have h1:(cur.toList.take ((n+m) * te.size))[p]?=some (c.den ρ ν):=by
    rw [bV]
    rw [List.getElem?_append,o1] at hp'
    rw [List.getElem?_append,hxl]
    split at hp'
    ·rename_i hlt
     rw [if_pos hlt]
     exact o2 p c hp' hh'
    ·rename_i hlt
     rw [if_neg hlt,List.getElem?_map,hp'];rfl
   rw [List.getElem?_take_of_lt ahC] at h1
   have hden:c.den ρ' (jT ν hp.length g)=c.den ρ ν:=by
    rcases List.mem_append.1 (List.mem_of_getElem? hp') with hm | hm
    ·exact qw hag Bl c hm
    ·exact qw hag c6 c hm
   rw [hden]
   simpa using h1
 ·rename_i g0 us
  split at h
  ·cases h
  rename_i Bl
  replace Bl:(CV.up g0 0 us (.lit 0)).sc nv hp.length=true:=by simpa using Bl
  simp only [CV.sc,Bool.and_eq_true,Nat.blt_eq] at Bl
  obtain ⟨⟨⟨gr,gn⟩,gu⟩,-⟩:=Bl
  cases h
  refine main _ _ ho rfl rfl rfl rfl rfl ?_
  intro n xs cur ρ' g hag hn' hO hxl bV hcap
  obtain ⟨q1,q2,q3,q4,q5,q6,q7⟩:=hO
  obtain ⟨cap,hcv,hcs⟩:=hcap
  have hl0:0≤len.den ρ:=by omega
  have hl0':0≤len.den ρ':=by rw [IE.aL hag yM];exact hl0
  refine ⟨fun u hu=>?_,fun h=>(by cases h),fun e0 n0 he=>?_,fun p c hp hh=>(by simp at hp),fun gi g' hg i1 i2 j a1 a2 a3=>?_⟩
  ·rcases List.mem_append.1 hu with hu | hu
   ·exact MC hl0' te.size news 0 u hu
   ·obtain ⟨e1,e2,-⟩:=CF hag gu u hu
    rw [e1,e2]
    exact q6 u hu
  ·simp only [Option.some.injEq,Prod.mk.injEq] at he
   obtain ⟨rfl,rfl⟩:=he
   simp only [IE.den,hcv]
   exact ⟨Int.natCast_nonneg _,by rw [Int.toNat_natCast];exact hcs⟩
  ·cases gi with
   | succ gi=>simp at hg
   | zero =>
    simp at hg
    subst hg
    simp only at a1 a2 a3 ⊢
    have hb:({g0 with n1:=len.iO (.lit (m:Nat))}:ae).base ρ' i1 i2 j=g0.base ρ i1 i2 j:=by
     rw [←ae.Ea hag g0 gr];rfl
    rw [hb]
    rw [q2] at a2
    have hi2:i2=0:=by omega
    subst hi2
    rw [(pQ m hl0').2,IE.aL hag yM,hn'] at a1
    rw [q5] at a3
    rw [q1,q3,q4,Nat.zero_mul]
    simp only [Nat.add_zero]
    have hi1:i1<n+m:=by omega
    have hpos:i1 * te.size+j<(n+m) * te.size:=by
     have:(i1+1) * te.size≤(n+m) * te.size:=Nat.mul_le_mul_right _ hi1
     rw [Nat.add_mul] at this
     omega
    have h1:cur[i1 * te.size+j]?=(xs ++ news.map (·.den ρ ν))[i1 * te.size+j]?:=by
     rw [←bV,List.getElem?_take_of_lt hpos]
     simp
    have hln:(len.den ρ').toNat=n:=by rw [IE.aL hag yM,hn'];simp
    rw [h1,List.getElem?_append,hxl]
    by_cases hlt:i1<n
    ·have hin:i1 * te.size+j<n * te.size:=by
      have:(i1+1) * te.size≤n * te.size:=Nat.mul_le_mul_right _ hlt
      rw [Nat.add_mul] at this
      omega
     rw [if_pos hin,JO hl0' us _ (by rw [hln];exact hlt),yx hag gu]
     exact q7 i1 j hlt a3
    ·have hge:n * te.size≤i1 * te.size:=Nat.mul_le_mul_right _ (by omega)
     rw [if_neg (by omega),List.getElem?_map]
     obtain ⟨i,rfl⟩:∃i,i1=n+i:=⟨i1-n,by omega⟩
     have hidx:(n+i) * te.size+j-n * te.size=i * te.size+j:=by rw [Nat.add_mul];omega
     rw [hidx]
     have hlt2:i * te.size+j<news.length:=by
      rw [c3]
      have:(i+1) * te.size≤m * te.size:=Nat.mul_le_mul_right _ (by omega)
      rw [Nat.add_mul] at this
      omega
     rw [List.getElem?_eq_getElem hlt2]
     have hun:=JP (ν:=jT ν hp.length g) hl0' a3 us (g0.base ρ (n+i) 0 j) news 0 (Nat.zero_le _) (news[i * te.size+j]) (by rw [Nat.sub_zero];exact List.getElem?_eq_getElem hlt2)
     rw [hln] at hun
     rw [hun]
     rw [qw hag c6 _ (List.getElem_mem hlt2)]
     rfl
theorem SC.ac2 {nv n:Nat} {ρ':Env} {aK:Nat→Addr} (hA:dF nv n ρ ρ' ν aK) {c:SC} (h:c.sc nv n=true):c.I ρ'=c.I ρ∧c.B ρ'=c.B ρ:=by
 cases c <;> simp only [SC.I,SC.B,and_self,true_and,and_true]
 ·exact IE.aL hA h
 ·exact BE.aL hA h
theorem Er {nv n:Nat} {ρ':Env} {aK:Nat→Addr} (hA:dF nv n ρ ρ' ν aK):∀{us:List Up},rV nv n us=true→∀g i1 i2 j,(∀b,aj ρ' us g i1 i2 j b=aj ρ us g i1 i2 j b)∧(∀b,ak ρ' us g i1 i2 j b=ak ρ us g i1 i2 j b)
 | [],_=>fun _ _ _ _=>⟨fun _=>rfl,fun _=>rfl⟩
 | u :: r,hs=>fun g i1 i2 j=>by
  simp only [rV,Bool.and_eq_true] at hs
  obtain ⟨e1,e2⟩:=SC.ac2 hA hs.1.2
  obtain ⟨r1,r2⟩:=Er hA hs.2 g i1 i2 j
  constructor
  ·intro b
   simp only [aj,IE.aL hA hs.1.1.1,IE.aL hA hs.1.1.2,e1,r1]
  ·intro b
   simp only [ak,IE.aL hA hs.1.1.1,IE.aL hA hs.1.1.2,e2,r2]
theorem CV.aL {nv n:Nat} {ρ':Env} {aK:Nat→Addr} (hA:dF nv n ρ ρ' ν aK) {c:CV} (h:c.sc nv n=true) (i1 i2 j:Nat):c.I ρ' i1 i2 j=c.I ρ i1 i2 j∧c.B ρ' i1 i2 j=c.B ρ i1 i2 j:=by
 cases c with
 | up g gi us sh =>
  simp only [CV.sc,Bool.and_eq_true,Nat.blt_eq] at h
  obtain ⟨⟨⟨h1,h2⟩,h3⟩,h4⟩:=h
  simp only [CV.I,CV.B,IE.aL hA h4,(Er hA h3 _ _ _ _).1,(Er hA h3 _ _ _ _).2,ae.I,ae.B,hA.ic g.r h1,hA.bc g.r h1,and_self]
 | ex cs s1 s2 lo =>
  simp only [CV.sc] at h
  simp only [CV.I,CV.B,List.getD_eq_getElem?_getD]
  cases hc:cs[i1 * s1+i2 * s2+lo+j]? with
  | none=>exact ⟨rfl,rfl⟩
  | some c =>
   have:∀{l:List SC},pF nv n l=true→∀c∈l,c.sc nv n=true:=by
    intro l
    induction l with
    | nil=>intro _ c hc;cases hc
    | cons d r ih =>
     intro hs c hc
     simp only [pF,Bool.and_eq_true] at hs
     rcases List.mem_cons.1 hc with rfl | hc
     ·exact hs.1
     ·exact ih hs.2 c hc
   exact SC.ac2 hA (this h c (List.mem_of_getElem? hc))
theorem Ry (hh:aH ρ ν hp w) {t ty e:TypeId} {te:TI} (ht:P.underlying t=some (.slice e)) (hte:ql P e te) {nv:Nat} {dst:SV} {n:IE} {cv:CV} {os0:List BE} {b:Option Nat} {v:SV} {sb:SB} {k:Nat} {fs:List QF} {os:List BE}
  (h:iR te e nv hp dst n cv os0=.app b v sb k fs os) (ho:∀o∈os,o.den ρ=true) (src:Option Addr) (cx:Nat) (h0:src=none→n.den ρ=0)
  (hn:(∀o∈os0,o.den ρ=true)→te.zero.length=te.size→0≤n.den ρ∧∃news:List Value,Rx ρ ν (te.zero.map qz) te.size (n.den ρ).toNat news cv∧(∀A,src=some A→∀j u,news[j]?=some u→w.cell? (A.add j)=some u)∧∀u∈news,u.oneCell'=true) :
  (∀o∈os0,o.den ρ=true)∧∃vr w',(Builtin.append_ #[t,t] ty #[dst.den ρ ν,.slice src (n.den ρ).toNat cx]).run P w=.ok vr w'∧Gg ρ ν w hp nv b v sb fs vr w':=by
 unfold iR at h
 split at h
 ·cases h
 rename_i hc
 simp only [Bool.or_eq_true,decide_eq_true_eq,Bool.not_eq_true',not_or,beq_eq_false_iff_ne,ne_eq,Decidable.not_not,Bool.not_eq_false] at hc
 obtain ⟨⟨⟨⟨c1,c2⟩,c3⟩,c4⟩,c5⟩:=hc
 split at h
 ·cases h
 rename_i b' c' len old gH hold
 split at h
 ·cases h
 rename_i yM
 simp only [Bool.or_eq_true,Bool.not_eq_true',not_or,Bool.not_eq_false] at yM
 obtain ⟨⟨⟨l1,l2⟩,l3⟩,l4⟩:=yM
 simp only [ER.app.injEq] at h
 obtain ⟨rfl,rfl,rfl,rfl,rfl,rfl⟩:=h
 have ho0:∀o∈os0,o.den ρ=true:=fun o hm=>ho o (by simp [hm])
 refine ⟨ho0,?_⟩
 obtain ⟨n0,news,hN,hsrc,hone⟩:=hn ho0 c3
 obtain ⟨nn,xs,hD,hn',hO⟩:=ME (ν:=ν) hh hold (fun o hm=>ho o (by simp [hm]))
 have hX:=abr c3 hn' hD.own.1 hO l3
 have hlen:(len.iO n).den ρ=((nn+(n.den ρ).toNat:Nat):Int):=by rw [IE.kL,hn'];omega
 have hb:=DD (n:=nn+(n.den ρ).toNat) hlen (ho _ (List.mem_cons_self ..))
 obtain ⟨vr,w',hr,hg,hnil,hat⟩:=Gf (P:=P) (ty:=ty) ht hte (by omega) (by omega) hD.own src (n.den ρ).toNat cx (fun hs=>by rw [h0 hs];rfl) news hN.len hsrc hone hb
 refine ⟨vr,w',hr,?_⟩
 let mk:Nat→Env:=fun cap=>{ρ with
   iv:=fun i=>if i=nv then (cap:Int) else ρ.iv i
   ic:=fun r=>if r=nv+1 then fun i _ j=>if i<nn then (qN te old).I ρ i 0 j else cv.I ρ (i-nn) 0 j else ρ.ic r
   bc:=fun r=>if r=nv+1 then fun i _ j=>if i<nn then (qN te old).B ρ i 0 j else cv.B ρ (i-nn) 0 j else ρ.bc r
   vc:=fun r=>if r=nv+1 then fun i _ j=>if i<nn then (qN te old).V ρ ν i 0 j else cv.V ρ ν (i-nn) 0 j else ρ.vc r}
 have hag:∀cap g,dF nv hp.length ρ (mk cap) ν (jT ν hp.length g):=fun cap g =>
  ⟨fun i hi=>by simp [mk,show i≠nv by omega],fun _ _=>rfl,fun _ _=>rfl,fun i hi=>by simp [mk,show i≠nv+1 by omega],fun i hi=>by simp [mk,show i≠nv+1 by omega],fun i hi=>by simp [mk,show i≠nv+1 by omega],fun i hi=>by simp [jT,show i≠hp.length by omega]⟩
 have hkd:∀cap,(c'.rJ (BE.rM n (.lit 0))).den (mk cap)=true↔vr=.slice none 0 0:=by
  intro cap
  rw [BE.xR,BE.xX,BE.aL (hag cap 0) l2,IE.aL (hag cap 0) c5,hnil]
  simp only [IE.den,Bool.and_eq_true,beq_iff_eq,hD.nil]
  constructor
  ·rintro ⟨a,b⟩;exact ⟨a,by omega⟩
  ·rintro ⟨a,b⟩;exact ⟨a,by omega⟩
 have hlen':∀cap,(len.iO n).den (mk cap)=((nn+(n.den ρ).toNat:Nat):Int):=by
  intro cap
  rw [IE.kL,IE.aL (hag cap 0) l1,IE.aL (hag cap 0) c5,←hlen,IE.kL]
 have hcv:∀cap,(IE.var nv).den (mk cap)=(cap:Int):=by intro cap;simp [IE.den,mk]
 have ac3:vr=.slice none 0 0→nn+(n.den ρ).toNat=0:=by
  intro hv
  obtain ⟨h1,h2⟩:=hnil.1 hv
  have:=hD.own.2
  rcases this with ⟨_,hz⟩ | ⟨g,cap,cur,hv',-⟩
  ·omega
  ·rw [h1] at hv';cases hv'
 have ahD:∀cap,QF.den (mk cap) (.cat (nv+1) len (qN te old) n cv):=by
  intro cap i j
  simp only [IE.aL (hag cap 0) l1,IE.aL (hag cap 0) c5,(CV.aL (hag cap 0) l4 _ _ _).1,(CV.aL (hag cap 0) l4 _ _ _).2,(CV.aL (hag cap 0) c4 _ _ _).1,(CV.aL (hag cap 0) c4 _ _ _).2,hn']
  refine ⟨fun hi=>?_,fun hi=>?_⟩
  ·have:i<nn:=by omega
   simp [mk,this]
  ·have h1:¬nn+i<nn:=by omega
   simp [mk,h1]
 have hfs:∀cap,nn+(n.den ρ).toNat≤cap→cap≤maxLen→(vr=.slice none 0 0→cap=0)→∀f∈[QF.be (Ej nv (len.iO n)),.be (df (c'.rJ (BE.rM n (.lit 0))) (len.iO n)),.be (df (c'.rJ (BE.rM n (.lit 0))) (.var nv)),.cat (nv+1) len (qN te old) n cv],f.den (mk cap):=by
  intro cap q1 q2 q3 f hf
  have ac4:∀l:IE,(vr=.slice none 0 0→l.den (mk cap)=0)→(df (c'.rJ (BE.rM n (.lit 0))) l).den (mk cap)=true:=by
   intro l hl
   simp only [df,BE.den,BE.iP,IE.den,Bool.or_eq_true,Bool.not_eq_true',beq_iff_eq]
   cases hk:(c'.rJ (BE.rM n (.lit 0))).den (mk cap) with
   | false=>exact .inl rfl
   | true=>exact .inr (hl ((hkd cap).1 hk))
  simp only [List.mem_cons,List.not_mem_nil,or_false] at hf
  rcases hf with rfl | rfl | rfl | rfl
  ·exact PX (hlen' cap) (hcv cap) q1 q2
  ·exact ac4 _ fun hv=>by rw [hlen',ac3 hv];rfl
  ·exact ac4 _ fun hv=>by rw [hcv,q3 hv];rfl
  ·exact ahD cap
 rcases hat with hv | ⟨g,cap,cur,hv,bV,h1,h2,h3,h4,h5⟩
 ·refine ⟨by simp,0,mk 0,(dst.den ρ ν).ownBlock,hag 0 0,?_,hfs 0 (by rw [ac3 hv];exact Nat.le_refl 0) (Nat.zero_le _) (fun _=>rfl),rfl,hg,hD.aC,fun hd=>?_⟩
  ·have hk:=(hkd 0).2 hv
   split
   ·rename_i hkl
    rw [hkl] at hk
    cases hk
   ·simp only [SV.den,SW.den,SC.den,hk,if_true,hv]
  ·have hk:=(hkd 0).2 hv
   simp [SB.dead,hk] at hd
 ·have PY:vr≠.slice none 0 0:=by rw [hv];simp
  have hk:(c'.rJ (BE.rM n (.lit 0))).den (mk cap)=false:=by
   rw [←Bool.not_eq_true];exact fun h=>PY ((hkd cap).1 h)
  refine ⟨by simp,g,mk cap,(dst.den ρ ν).ownBlock,hag cap g,?_,hfs cap h1 h2 (fun h=>absurd h PY),rfl,hg,hD.aC,fun _=>⟨⟨cur,bV,?_⟩,h5⟩⟩
  ·have hden:Value.slice (some ⟨g,0,none⟩) (nn+(n.den ρ).toNat) cap=SC.den (mk cap) (jT ν hp.length g) (.sl {aC:=hp.length,i1:=.lit 0,s1:=te.size} (len.iO n) (.var nv)):=by
    simp only [SC.den,hlen',hcv,Int.toNat_natCast]
    simp [SA.den,SA.off,IE.den,Addr.add_zero,jT]
   rw [hv,hden]
   split
   ·rfl
   ·simp only [SV.den,SW.den,SC.den,hk,Bool.false_eq_true,if_false]
  ·refine ⟨fun u hu=>(by cases hu),fun h=>(by cases h),fun e0 n0 he=>?_,fun p c hp hh=>(by simp at hp),fun gi g' hg' i1 i2 j a1 a2 a3=>?_⟩
   ·simp only [Option.some.injEq,Prod.mk.injEq] at he
    obtain ⟨rfl,rfl⟩:=he
    rw [hcv]
    exact ⟨Int.natCast_nonneg _,by rw [Int.toNat_natCast];exact h3⟩
   ·cases gi with
    | succ gi=>simp at hg'
    | zero =>
     simp at hg'
     subst hg'
     simp only at a1 a2 a3 ⊢
     rw [hlen'] at a1
     have hi2:i2=0:=by omega
     subst hi2
     have hi1:i1<nn+(n.den ρ).toNat:=by omega
     have hj:j<te.size:=by rw [List.length_map,c3] at a3;exact a3
     have hpos:i1 * te.size+j<(nn+(n.den ρ).toNat) * te.size:=by
      have:(i1+1) * te.size≤(nn+(n.den ρ).toNat) * te.size:=Nat.mul_le_mul_right _ hi1
      rw [Nat.add_mul] at this
      omega
     have e1:cur[i1 * te.size+j]?=(xs ++ news)[i1 * te.size+j]?:=by
      rw [←h4,List.getElem?_take_of_lt hpos]
      simp
     rw [ae.CJ _ rfl]
     simp only [cK]
     rw [show i1 * te.size+0 * 0+0+j=i1 * te.size+j by omega,e1,List.getElem?_append,hX.len]
     by_cases hlt:i1<nn
     ·have hin:i1 * te.size+j<nn * te.size:=by
       have:(i1+1) * te.size≤nn * te.size:=Nat.mul_le_mul_right _ hlt
       rw [Nat.add_mul] at this
       omega
      rw [if_pos hin,hX.at_ i1 j hlt hj]
      simp [mk,hlt]
     ·have hge:nn * te.size≤i1 * te.size:=Nat.mul_le_mul_right _ (by omega)
      rw [if_neg (by omega)]
      have hidx:i1 * te.size+j-nn * te.size=(i1-nn) * te.size+j:=by rw [Nat.sub_mul];omega
      rw [hidx,hN.at_ (i1-nn) j (by omega) hj]
      simp [mk,hlt]
end
end Go.Rex
