/- part 5 of the proof -/
import Derived.Maps.AppendAt
import Derived.Great.BuildSlice
import Derived.Test.YthomdlajobnmnaaGreatDoorX4
set_option linter.unusedSimpArgs false
set_option linter.unusedVariables false
namespace Go.Rex
structure UE (g:Nat) (w w':World):Prop where
 os:w'.os=w.os
 tape:w'.tape=w.tape
 output:w'.output=w.output
 size:w'.heap.size=w.heap.size
 block:∀k,k≠g->w'.heap[k]?=w.heap[k]?
section
variable {P:Program} {ρ:Env} {ν:Nat->Addr}
theorem SB.aec {sb a:SB} {l:Loc} {c:SC} (h:sb.write l c=some a):(a.t=sb.t/\a.ro=sb.ro/\a.own=sb.own/\a.nl=sb.nl/\a.gone=sb.gone)/\c.isHole=false:=by
 unfold SB.write at h
 all_goals grind
theorem Ji {g:Nat} {t:TypeId} {a:SA}:∀{cs:List SC} {k:Nat} {sb b:SB} {os:List BE} {arr:Array Value} {w:World},
  w.heap[g]?=some (.cells arr t (0,0))->sb.has ρ ν arr->zo sb a cs k=some (b,os)->(∀o∈os,o.den ρ=true) ->
  ∃x w',(storeCells ⟨g,a.off ρ,none⟩ (cs.map (·.den ρ ν)) k).run P w=.ok () w'/\w'.heap[g]?=some (.cells x t (0,0))/\UE g w w'/\b.has ρ ν x/\(b.t=sb.t/\b.ro=sb.ro/\b.own=sb.own/\b.nl=sb.nl/\b.gone=sb.gone)
 | [],k,sb,b,os,arr,w,i,y,h,_=>by
  simp only [zo,Option.some.injEq,Prod.mk.injEq] at h
  obtain ⟨rfl,rfl⟩:=h
  exact ⟨arr,w,rfl,i,⟨rfl,rfl,rfl,rfl,λ_ _=>rfl⟩,y,rfl,rfl,rfl,rfl,rfl⟩
 | c :: r,k,sb,b,os,arr,w,i,y,h,C=>by
  unfold zo at h
  split at h
  ·cases h
  rename_i l J
  split at h
  ·cases h
  rename_i N B
  split at h
  ·cases h
  rename_i G E L
  simp only [Option.some.injEq,Prod.mk.injEq] at h
  obtain ⟨rfl,rfl⟩:=h
  obtain ⟨M,n⟩:=SB.Wv (ρ:=ρ) J
  obtain ⟨u,d⟩:=SB.Zq (ν:=ν) y M (λo A=>C o (by simp [A])) B
  obtain ⟨f,K⟩:=SB.aec B
  rw [n] at u d
  have e:w.cell? ⟨g,a.off ρ+k,none⟩=some (arr[a.off ρ+k]'d):=by
   rw [cell_of_row w g _ arr t (0,0) i];exact Array.getElem?_eq_getElem d
  have m:=frozen_of_row w g (a.off ρ+k) arr t i
  have z:(store ⟨g,a.off ρ+k,none⟩ (c.den ρ ν)).run P w=.ok () (w.setCell ⟨g,a.off ρ+k,none⟩ (c.den ρ ν)):=by
   rw [run_store P w _ _ _ (SC.vJ c K),e]
   simp [m]
  obtain ⟨x,w',I,F,s,H,p⟩:=Ji (w:=w.setCell ⟨g,a.off ρ+k,none⟩ (c.den ρ ν)) (Go.heap_setCell_same w g _ arr t _ i) u L (λo A=>C o (by simp [A]))
  refine ⟨x,w',?_,F,⟨s.os,s.tape,s.output,by rw [s.size];simp,λj D=>by rw [s.block j D];exact heap_setCell_other w _ j _ D⟩,H,p.1.trans f.1,p.2.1.trans f.2.1,p.2.2.1.trans f.2.2.1,p.2.2.2.1.trans f.2.2.2.1,p.2.2.2.2.trans f.2.2.2.2⟩
  have q:(⟨g,a.off ρ,none⟩:Addr).add k=⟨g,a.off ρ+k,none⟩:=by simp [Addr.add]
  simp only [List.map_cons,storeCells,Sem.run_bind,q,z,Result.andThen_ok,I]
theorem Dt (a:Addr) (n:Nat):(a.add n).block=a.block:=by
 unfold Addr.add
 split <;> rfl
theorem aD.wM {a:List SB} {w w':World} (h:aD ρ ν a w) (l:w.heap.size<=w'.heap.size) (i:∀(k:Nat) (sb:SB),a[k]?=some sb->sb.dead ρ=false->w'.heap[(ν k).block]?=w.heap[(ν k).block]?):aD ρ ν a w':=by
 refine ⟨h.inj,λk sb b c d=>?_,λk sb b c d=>?_⟩
 ·obtain ⟨g,f,e,j⟩:=h.ak k sb b c d
  all_goals grind
 ·obtain ⟨g,f,e,j⟩:=h.rd k sb b c d
  refine ⟨g.of id rfl l (i k sb b c),f,e,λp v a=>?_⟩
  rw [World.cell?_of_block (w:=w) (w':=w')]
  all_goals grind [Dt]
theorem aD.set {l:List SB} {w w':World} (h:aD ρ ν l w) {b:Nat} {sb g:SB} {r:Array Value} (q:l[b]?=some sb) (u:sb.dead ρ=false) (A:sb.ro=false) (z:UE (ν b).block w w')
  (h':jl w'.heap[(ν b).block]? g.t r) (F:g.has ρ ν r) (B:g.ro=false):aD ρ ν (l.set b g) w':=by
 have n:b<l.length:=(List.getElem?_eq_some_iff.1 q).1
 have ay:∀(i:Nat) (a:SB),(l.set b g)[i]?=some a->a.dead ρ=false->∃t,l[i]?=some t/\t.dead ρ=false/\(a.ro=false->t.ro=false):=by
  grind
 have ni:∀(k:Nat) (s:SB),l[k]?=some s->s.dead ρ=false->b≠k->w'.heap[(ν k).block]?=w.heap[(ν k).block]?:=by
  intro k s f c o
  exact z.block _ λe=>o (h.inj _ _ _ _ q f u c A e.symm)
 refine ⟨λi j x y K L J H I M=>?_,λk s f c m=>?_,λk s f c m=>?_⟩
 ·grind [aD.inj,aU.inj]
 ·by_cases d:b=k
  ·subst d
   rw [List.getElem?_set_self n] at f
   simp at f
   subst f
   exact ⟨(h.ak b sb q u A).1,r,h',F⟩
  ·rw [List.getElem?_set_ne d] at f
   rw [ni k s f c d]
   exact h.ak k s f c m
 ·by_cases d:b=k
  ·grind
  ·rw [List.getElem?_set_ne d] at f
   obtain ⟨C,D,E,G⟩:=h.rd k s f c m
   refine ⟨C.of id rfl (Nat.le_of_eq z.size.symm) (ni k s f c d),D,E,λp v l=>?_⟩
   rw [World.cell?_of_block (w:=w) (w':=w')]
   all_goals grind [Dt]
theorem aD.push {b:List SB} {w:World} (h:aD ρ ν b w) {sb:SB} {arr:Array Value} (n:ν b.length=⟨(ν b.length).block,0,none⟩) (u:jl w.heap[(ν b.length).block]? sb.t arr)
  (q:sb.has ρ ν arr) (B:sb.ro=false) (m:∀(k:Nat) (s:SB),b[k]?=some s->s.dead ρ=false->(ν k).block≠(ν b.length).block):aD ρ ν (b ++ [sb]) w:=by
 have e:∀(i:Nat) (a:SB),(b ++ [sb])[i]?=some a->b[i]?=some a\/(i=b.length/\a=sb):=by
  grind
 refine ⟨λi j x y t z r o p A=>?_,λk s d g c=>?_,λk s d g c=>?_⟩
 ·rcases e i x t with l | ⟨l,_⟩ <;> rcases e j y z with f | ⟨f,_⟩
  ·exact h.inj i j x y l f r o p A
  all_goals grind
 ·rcases e k s d with d | ⟨rfl,rfl⟩
  ·exact h.ak k s d g c
  ·exact ⟨n,arr,u,q⟩
 all_goals grind [Np.rd,aD.rd]
theorem aD.drop {d:List SB} {w:World} (h:aD ρ ν d w) (b:Nat):aD ρ ν (d.modify b λs=>{s with gone:=true}) w:=by
 have ay:∀(i:Nat) (a:SB),(d.modify b λs=>{s with gone:=true})[i]?=some a->a.dead ρ=false->d[i]?=some a/\i≠b:=by
  intro i a e t
  rw [List.getElem?_modify] at e
  cases p:d[i]? with
  | none=>simp [p] at e
  | some x =>
   by_cases n:b=i
   ·grind [SB.dead]
   all_goals grind
 exact ⟨λi j x y e q m l o r=>h.inj i j x y (ay i x e m).1 (ay j y q l).1 m l o r,λk s f c g=>h.ak k s (ay k s f c).1 c g,λk s f c g=>h.rd k s (ay k s f c).1 c g⟩
theorem UF {ops:Array Oper} {tmps:Array Value} {j:Nat} {d:Tmp} (hd:(ops[j]?).bind (·.dst)=some d) :
  yielded ops tmps j=match tmps.getD d undef with | .bool b=>some b | _=>none:=by
 simp only [yielded,hd,Option.bind_some]
 rw [Array.getD_eq_getD_getElem?]
 cases tmps[d]? with
 | none=>simp [undef]
 | some v=>cases v <;> rfl
theorem O9 {ops:Array Oper} {fr:Fr} {a:Act} (f:qI ρ ν fr a) {o:Oper} {g:BE} (h:Nv ops fr o=some g):Region.wanted o (yielded ops a.tmps)=g.den ρ:=by
 unfold Nv at h
 unfold Region.wanted
 split at h
 ·grind [BE.den]
 ·rename_i j want i
  rw [i]
  simp only
  split at h
  ·cases h
  rename_i d hd
  rw [UF hd]
  split at h
  ·rename_i b e
   rw [f d _ e]
   all_goals grind [SV.den,SW.den,SC.den,BE.jW]
  ·rename_i c b e
   rw [f d _ e]
   simp at h
   subst h
   rw [BE.Af]
   cases k:c.den ρ <;> cases want <;> simp [SV.den,SW.den,SC.den,BE.jW,k,undef]
  ·rename_i e
   rw [f d _ e]
   all_goals grind [SV.den,BE.den]
  ·cases h
end
theorem AZ {t:Tr} {σ:Sub} {e:List SB}:∀{D:List SB} {d:Nat} {f res:List SB},pM t σ e D d f=some res->(∀j a,assoc j σ.bk=some a->a.ak<f.length) ->
  res.length=f.length/\∀i,(∃j T a U sb,D[j]?=some T/\T.own=true/\T.gone=false/\assoc (d+j) σ.bk=some a/\a.ak=i/\e[d+j]?=some U/\U.tr t=some sb/\res[i]?=some sb) \/
   ((∀j T a,D[j]?=some T->T.own=true->T.gone=false->assoc (d+j) σ.bk=some a->a.ak≠i)/\res[i]?=f[i]?)
 | [],d,f,res,h,_=>by
  simp only [pM,Option.some.injEq] at h
  subst h
  exact ⟨rfl,λi=>.inr ⟨λj T a l=>by simp at l,rfl⟩⟩
 | T :: r,d,f,res,h,y=>by
  have shift:∀{j:Nat},d+1+j=d+(j+1):=by intro j;omega
  have skip:pM t σ e r (d+1) f=some res->((T.own && !T.gone)=true->assoc d σ.bk=none)->res.length=f.length/\∀i,(∃j c a U sb,(T :: r)[j]?=some c/\c.own=true/\c.gone=false/\assoc (d+j) σ.bk=some a/\a.ak=i/\e[d+j]?=some U/\U.tr t=some sb/\res[i]?=some sb) \/
    ((∀j c a,(T :: r)[j]?=some c->c.own=true->c.gone=false->assoc (d+j) σ.bk=some a->a.ak≠i)/\res[i]?=f[i]?):=by
   intro h O
   obtain ⟨q,w⟩:=AZ h y
   refine ⟨q,λi=>?_⟩
   rcases w i with ⟨j,c,a,U,sb,I,C,J,K,u,z,x,F⟩ | ⟨G,p⟩
   ·exact .inl ⟨j+1,c,a,U,sb,by simpa using I,C,J,by rw [<-shift];exact K,u,by rw [<-shift];exact z,x,F⟩
   ·refine .inr ⟨λj c a l s o m=>?_,p⟩
    cases j with
    | zero =>
     simp at l
     subst l
     rw [Nat.add_zero,O (by simp [s,o])] at m
     cases m
    | succ j=>exact G j c a (by simpa using l) s o (by rw [shift];exact m)
  simp only [pM] at h
  split at h
  ·rename_i b
   simp only [Bool.and_eq_true,Bool.not_eq_true'] at b
   split at h
   ·rename_i a m
    split at h
    ·rename_i sb A
     obtain ⟨U,N,E⟩:=Option.bind_eq_some_iff.1 A
     obtain ⟨q,w⟩:=AZ h (λj n M=>by rw [List.length_set];exact y j n M)
     rw [List.length_set] at q
     refine ⟨q,λi=>?_⟩
     rcases w i with ⟨j,c,n,L,B,I,C,J,K,u,z,x,F⟩ | ⟨G,p⟩
     ·exact .inl ⟨j+1,c,n,L,B,by simpa using I,C,J,by rw [<-shift];exact K,u,by rw [<-shift];exact z,x,F⟩
     ·by_cases H:a.ak=i
      ·subst H
       refine .inl ⟨0,T,a,U,sb,rfl,b.1,b.2,m,rfl,N,E,?_⟩
       rw [p,List.getElem?_set_self (y _ _ m)]
      ·refine .inr ⟨λj c n l s o g=>?_,by rw [p,List.getElem?_set_ne H]⟩
       cases j with
       | zero =>
        rw [Nat.add_zero,m] at g
        cases g
        exact H
       | succ j=>exact G j c n (by simpa using l) s o (by rw [shift];exact g)
    ·cases h
   ·rename_i k
    exact skip h λ_=>k
  ·rename_i b
   exact skip h λP=>absurd P b
theorem GI {t:Tr}:∀{l a:List SB},Jc t l=some a->a.length=l.length/\∀(p:Nat) (c':SB),a[p]?=some c'->∃c,l[p]?=some c/\c.tr t=some c'
 | [],a,h=>by simp [Jc] at h;subst h;exact ⟨rfl,λp c h=>by simp at h⟩
 | c :: r,a,h=>by
  obtain ⟨x,y,f,d,rfl⟩:=gJ h
  obtain ⟨g,e⟩:=GI d
  refine ⟨by simp [g],λp c' b=>?_⟩
  cases p with
  | zero=>simp at b;subst b;exact ⟨c,rfl,f⟩
  | succ p=>simpa using e p c' (by simpa using b)
theorem Ml:∀{d a:List SB},Dq d a=true->∀(k:Nat) (T U:SB),d[k]?=some T->a[k]?=some U->T.own=true->U.gone=true\/(T.ro=false/\U.ro=false/\T.nl=U.nl)
 | [],_,_,k,T,U,h,_,_=>by simp at h
 | _ :: _,[],_,k,T,U,_,h,_=>by simp at h
 | x :: r,y :: s,h,k,T,U,b,c,e=>by
  simp only [Dq,Bool.and_eq_true,Bool.or_eq_true,Bool.not_eq_true'] at h
  cases k with
  | zero =>
   simp at b c
   subst b c
   rcases h.1 with (h | h) | h
   ·rw [e] at h;cases h
   ·exact .inl h
   ·exact .inr ⟨h.1.1,h.1.2,BE.aA h.2⟩
  | succ k=>exact Ml h.2 k T U (by simpa using b) (by simpa using c) e
theorem Mm:∀{b:List SB},Jh b=true->∀(k:Nat) (T:SB),b[k]?=some T->T.gone=true\/(T.own=true/\T.ro=false)
 | [],_,k,T,h=>by simp at h
 | x :: r,h,k,T,a=>by
  simp only [Jh,Bool.and_eq_true,Bool.or_eq_true,Bool.not_eq_true'] at h
  cases k with
  | zero=>simp at a;subst a;exact h.1
  | succ k=>exact Mm h.2 k T (by simpa using a)
theorem Pf {nv n:Nat} {σ:Sub} (h:Jd nv n σ=true):(∀i e,assoc i σ.iv=some e->e.sc nv=true)/\(∀i e,assoc i σ.bv=some e->e.sc nv=true)/\(∀i e,assoc i σ.vv=some e->e.sc nv n=true) /\
  (∀i e,assoc i σ.bk=some e->e.sc nv n=true):=by
 simp only [Jd,Bool.and_eq_true,List.all_eq_true] at h
 exact ⟨λi e a=>h.1.1.1 _ (kE a),λi e a=>h.1.1.2 _ (kE a),λi e a=>h.1.2 _ (kE a),λi e a=>h.2 _ (kE a)⟩
def fq (d m:Nat) (ρ a:Env):Env where
 iv:=λi=>if i<d then ρ.iv i else a.iv (i-d+m)
 bv:=λi=>if i<d then ρ.bv i else a.bv (i-d+m)
 vv:=λi=>if i<d then ρ.vv i else a.vv (i-d+m)
 ic:=λi=>if i<d then ρ.ic i else a.ic (i-d+m)
 bc:=λi=>if i<d then ρ.bc i else a.bc (i-d+m)
 vc:=λi=>if i<d then ρ.vc i else a.vc (i-d+m)
def oh (n0 n:Nat) (ν a:Nat->Addr):Nat->Addr:=λi=>if i<n0 then ν i else a (i-n0+n)
theorem GJ (d m n0 n:Nat) (ρ b:Env) (ν c:Nat->Addr):bY d n0 ρ (fq d m ρ b) ν (oh n0 n ν c) :=
 ⟨λi a=>by simp [fq,a],λi a=>by simp [fq,a],λi a=>by simp [fq,a],λi a=>by simp [fq,a],λi a=>by simp [fq,a],λi a=>by simp [fq,a],λi a=>by simp [oh,a]⟩
section
variable {σ:Sub} {m d n n0:Nat} {ρ dN:Env} {ν fJ:Nat->Addr}
theorem Pg (g:σ.lo=0) (r:σ.ae=0) (o:Jd d n0 σ=true) (h:bY m n (σ.env ρ ν) dN (σ.eX ρ ν) fJ):WQ ⟨σ,m,d,n,n0⟩ dN (fq d m ρ dN) fJ (oh n0 n ν fJ):=by
 obtain ⟨s1,s2,s3,s4⟩:=Pf o
 have f:=GJ d m n0 n ρ dN ν fJ
 refine ⟨λi e b c=>?_,λi e b c=>?_,λi e b c=>?_,λi b=>?_,λi b=>?_,λi b=>?_,λi b=>?_,λi b=>?_,λi b=>?_,λk a l p q=>?_,λk l=>?_⟩
 ·rw [IE.aT f (s1 i e c),h.iv i b];simp [Sub.env,Sub.bT,g,show assoc i σ.iv=some e from c]
 ·rw [BE.aT f (s2 i e c),h.bv i b];simp [Sub.env,Sub.bT,g,show assoc i σ.bv=some e from c]
 ·rw [SC.aT f (s3 i e c),h.vv i b];simp [Sub.env,g,show assoc i σ.vv=some e from c]
 ·grind [fq]
 ·grind [fq]
 ·grind [fq]
 ·grind [fq]
 ·grind [fq]
 ·grind [fq]
 ·have j:=s4 k a p
  simp only [SA.sc,Bool.and_eq_true,Nat.blt_eq] at j
  all_goals grind [bY.bl,oh,Sub.eX,assoc,SA.den,SA.EW,Addr.add_zero]
 all_goals grind [oh]
theorem aed {k:dJ} {f Ph new:List SB} {os:List BE} {w w':World} {z:Nat} {W:Nat->Prop} (hwf:kX k=true) (h0:σ.lo=0) (h1:σ.ae=0) (hi:qh σ k.hp f=some os) (ho:∀o∈os,o.den ρ=true)
  (hs:Jd d f.length σ=true) (M:sP d f.length f=true) (P:aD ρ ν f w) (l:mJ z W ρ ν f) (hz:z<=w.heap.size)
  (hA:bY k.nv k.hp.length (σ.env ρ ν) dN (σ.eX ρ ν) fJ) (hP:aD dN fJ k.hp' w') (hW:cK w (jB (σ.env ρ ν) (σ.eX ρ ν) k.hp) w') (hO:mJ w.heap.size (jB (σ.env ρ ν) (σ.eX ρ ν) k.hp) dN fJ k.hp')
  (h2:pM ⟨σ,k.nv,d,k.hp.length,f.length⟩ σ k.hp' k.hp 0 f=some Ph) (h3:Jc ⟨σ,k.nv,d,k.hp.length,f.length⟩ (k.hp'.drop k.hp.length)=some new) :
  aD (fq d k.nv ρ dN) (oh f.length k.hp.length ν fJ) (Ph ++ new) w'/\mJ z W (fq d k.nv ρ dN) (oh f.length k.hp.length ν fJ) (Ph ++ new)/\Ph.length=f.length/\∀b,jB (σ.env ρ ν) (σ.eX ρ ν) k.hp b->z<=b\/W b:=by
 have H:=Pg h0 h1 hs hA
 have R:=GJ d k.nv f.length k.hp.length ρ dN ν fJ
 simp only [kX,Bool.and_eq_true] at hwf
 obtain ⟨⟨⟨⟨wf1,wf2⟩,wf3⟩,wf4⟩,wf5⟩:=hwf
 obtain ⟨s1,s2,s3,s4⟩:=Pf hs
 obtain ⟨hlen,hcl⟩:=AZ h2 (λj a K=>by
   have:=s4 j a K
   simp only [SA.sc,Bool.and_eq_true,Nat.blt_eq] at this
   exact this.1.1)
 simp only [Nat.zero_add] at hcl
 obtain ⟨hnl,hnew⟩:=GI h3
 generalize apY:fq d k.nv ρ dN=ρ' at *
 generalize wN:oh f.length k.hp.length ν fJ=aI at *
 have target:∀(j:Nat) (T:SB),k.hp[j]?=some T->T.own=true->T.dead (σ.env ρ ν)=false->∃a A,assoc j σ.bk=some a/\f[a.ak]?=some A/\A.dead ρ=false/\A.own=true/\A.ro=false/\σ.eX ρ ν j=ν a.ak:=by
  intro j T B G hd
  obtain ⟨a,A,Y⟩:=qK hi ho B hd
  have q:=Y.ak
  simp only [Sub.ak,h1] at q
  have hbk:∃a',assoc j σ.bk=some a'/\a'.ak=a.ak:=by
   have h0:Nat.blt j 0=false:=by cases j <;> rfl
   rw [h0] at q
   simpa using q
  obtain ⟨a',ha',e⟩:=hbk
  have hro:T.ro=false:=by
   have hg:=SB.dZ hd
   have hx:∃U,k.hp'[j]?=some U:=by
    have:j<k.hp'.length:=Nat.lt_of_lt_of_le (List.getElem?_eq_some_iff.1 B).1 (by simpa using wf2)
    all_goals grind
   obtain ⟨U,X⟩:=hx
   cases hr:T.ro with
   | false=>rfl
   | true =>
    exfalso
    unfold qh at hi
    split at hi
    ·obtain ⟨os',E,q2⟩:=Gz hi j T B
     rw [Nat.zero_add] at E
     unfold OH at E
     have h0:Nat.blt j σ.ae=false:=by rw [h1];cases j <;> rfl
     all_goals grind [Bool.false_eq_true,Gy]
    ·cases hi
  obtain ⟨r1,r2⟩:=Y.ro hro
  refine ⟨a',A,ha',by rw [e];exact Y.hp,Y.live,Y.own G,r1,?_⟩
  rw [Y.eX,r2,Addr.add_zero,e]
 have ZH:∀(i:Nat) (s:SB),f[i]?=some s->s.dead ρ=false->(∀j T a,k.hp[j]?=some T->T.own=true->T.gone=false->assoc j σ.bk=some a->a.ak≠i)->¬jB (σ.env ρ ν) (σ.eX ρ ν) k.hp (ν i).block:=by
  rintro i s D hd N ⟨j,T,B,G,F,q⟩
  obtain ⟨a,A,K,g,Q,_,t,O⟩:=target j T B G F
  rw [O] at q
  exact N j T a B G (SB.dZ F) K (P.inj _ _ A s g D Q hd t q.symm)
 have kinds:∀(i:Nat) (s:SB),(Ph ++ new)[i]?=some s->s.dead ρ'=false ->
   (f[i]?=some s/\s.dead ρ=false/\(∀j T a,k.hp[j]?=some T->T.own=true->T.gone=false->assoc j σ.bk=some a->a.ak≠i)/\aI i=ν i) \/
   (∃j U,k.hp'[j]?=some U/\U.dead dN=false/\s.t=U.t/\s.ro=false/\U.ro=false/\(∀arr,U.has dN fJ arr->s.has ρ' aI arr)/\aI i=fJ j /\
     ((j<k.hp.length/\∃a A,assoc j σ.bk=some a/\a.ak=i/\f[i]?=some A/\A.dead ρ=false/\A.own=true/\A.ro=false/\aI i=ν i)\/(f.length<=i/\j=k.hp.length+(i-f.length)/\U.own=true))):=by
  intro i s c hd
  rw [List.getElem?_append] at c
  split at c
  ·rename_i hlt
   rw [hlen] at hlt
   have ZI:aI i=ν i:=by rw [<-wN];simp [oh,hlt]
   rcases hcl i with ⟨j,T,a,U,sb,r,J,L,S,I,V,e7,e8⟩ | ⟨E,q2⟩
   ·rw [e8] at c
    simp at c
    subst c
    obtain ⟨g1,g2,g3,g4,g5,g6⟩:=SB.abX H e7 (SB.dZ hd)
    have Z:U.dead dN=false:=by
     grind [SB.dead]
    rcases Ml wf4 j T U r V J with hc | ⟨c1,c2,c3⟩
    ·rw [g1] at hc;cases hc
    have F:T.dead (σ.env ρ ν)=false:=by
     have u:j<k.hp.length:=(List.getElem?_eq_some_iff.1 r).1
     have hTs:=jR wf3 j T r
     have:=SB.abU hA hTs L
     unfold SB.dead at Z ⊢
     all_goals grind
    obtain ⟨a',A,K,g,Q,Mq,t,O⟩:=target j T r J F
    rw [S] at K
    cases K
    have u:j<k.hp.length:=(List.getElem?_eq_some_iff.1 r).1
    refine .inr ⟨j,U,V,Z,g2,g3.trans c2,c2,g6,?_,.inl ⟨u,a,A,S,I,by rw [<-I];exact g,Q,Mq,t,ZI⟩⟩
    rw [ZI,hA.bl j u,O,I]
   ·rw [q2] at c
    exact .inl ⟨c,by rwa [SB.pG R (jR M i s c)] at hd,E,ZI⟩
  ·rename_i hge
   rw [hlen] at hge c
   obtain ⟨U,X,htr⟩:=hnew _ s c
   rw [List.getElem?_drop] at X
   obtain ⟨g1,g2,g3,g4,g5,g6⟩:=SB.abX H htr (SB.dZ hd)
   have Z:U.dead dN=false:=by
    grind [SB.dead]
   have C:=Mm wf5 (i-f.length) U (by rw [List.getElem?_drop];exact X)
   rcases C with C | ⟨c1,c2⟩
   ·rw [g1] at C;cases C
   refine .inr ⟨k.hp.length+(i-f.length),U,X,Z,g2,g3.trans c2,c2,g6,?_,.inr ⟨by omega,rfl,c1⟩⟩
   rw [<-wN]
   have:¬i<f.length:=by omega
   simp only [oh,if_neg this]
   congr 1
   omega
 have am1:∀(i:Nat) (s:SB) (j:Nat) (U:SB),f[i]?=some s->s.dead ρ=false->(∀j T a,k.hp[j]?=some T->T.own=true->T.gone=false->assoc j σ.bk=some a->a.ak≠i) ->
   k.hp'[j]?=some U->U.own=true->U.dead dN=false->(ν i).block≠(fJ j).block:=by
  intro i s j U D hd N X hUo Z he
  rcases hO j U X hUo Z with h | h
  ·have:=P.lt D hd
   omega
  ·rw [<-he] at h
   exact ZH i s D hd N h
 refine ⟨⟨λi j x y hx hy dx dy rx he=>?_,λi s c hd hr=>?_,λi s c hd hr=>?_⟩,λi s c hso hd=>?_,hlen,λb q=>?_⟩
 ·rcases kinds i x hx dx with ⟨a1,a2,a3,a4⟩ | ⟨j1,U1,b1,b2,b3,b4,b5,b6,b7,b8⟩
  ·rcases kinds j y hy dy with ⟨c1,c2,c3,c4⟩ | ⟨j2,U2,d1,d2,d3,d4,d5,d6,d7,d8⟩
   ·grind [aU.inj,aD.inj]
   ·rcases d8 with ⟨r,a,A,J,L,S,I,V,e7,e8⟩ | ⟨r,J,L⟩
    ·rw [a4,e8] at he
     exact (P.inj j i A x S a1 I a2 e7 he.symm).symm
    all_goals grind
  ·rcases kinds j y hy dy with ⟨c1,c2,c3,c4⟩ | ⟨j2,U2,d1,d2,d3,d4,d5,d6,d7,d8⟩
   ·rcases b8 with ⟨r,a,A,J,L,S,I,V,e7,e8⟩ | ⟨r,J,L⟩
    ·grind [aU.inj,aD.inj]
    all_goals grind
   all_goals grind [aU.inj,aD.inj]
 ·rcases kinds i s c hd with ⟨a1,a2,a3,a4⟩ | ⟨j1,U1,b1,b2,b3,b4,b5,b6,b7,b8⟩
  ·obtain ⟨q0,arr,E,q2⟩:=P.ak i s a1 a2 hr
   rw [a4]
   refine ⟨q0,arr,?_,SB.CX R (jR M i s a1) (SB.dZ a2) q2⟩
   rw [hW.block _ (P.lt a1 a2) (ZH i s a1 a2 a3)]
   exact E
  ·obtain ⟨q0,arr,E,q2⟩:=hP.ak j1 U1 b1 b2 b5
   all_goals grind
 ·rcases kinds i s c hd with ⟨a1,a2,a3,a4⟩ | ⟨j1,U1,b1,b2,b3,b4,b5,b6,b7,b8⟩
  ·obtain ⟨q0,arr,E,q2⟩:=P.rd i s a1 a2 hr
   rw [a4]
   refine ⟨q0.of id rfl hW.size (hW.block _ (P.lt a1 a2) (ZH i s a1 a2 a3)),arr,SB.CX R (jR M i s a1) (SB.dZ a2) E,λp v f=>?_⟩
   rw [World.cell?_of_block (w:=w) (w':=w')]
   all_goals grind [Dt,cK.block,UE.block,aD.lt,rD.lt]
  ·rw [b4] at hr;cases hr
 ·rcases kinds i s c hd with ⟨a1,a2,a3,a4⟩ | ⟨j1,U1,b1,b2,b3,b4,b5,b6,b7,b8⟩
  ·rw [a4];exact l i s a1 hso a2
  ·rcases b8 with ⟨r,a,A,J,L,S,I,V,e7,e8⟩ | ⟨r,J,L⟩
   ·rw [e8];exact l i A S V I
   ·rw [b7]
    rcases hO j1 U1 b1 L b2 with h | ⟨j,T,B,G,F,q⟩
    ·exact .inl (Nat.le_trans hz h)
    ·obtain ⟨a,A,K,g,Q,Mq,t,O⟩:=target j T B G F
     rw [q,O]
     exact l _ A g Mq Q
 ·obtain ⟨j,T,B,G,F,q⟩:=q
  obtain ⟨a,A,K,g,Q,Mq,t,O⟩:=target j T B G F
  rw [q,O]
  exact l _ A g Mq Q
end
theorem Xa (k:Option Kd) (i:Int) (b:Bool) (v:Value):(qB k i b v).oneCell'=true:=by
 unfold qB
 split
 ·rfl
 ·rfl
 ·exact Gi v
theorem Jj:∀{l:List SC},EX l=false->∀c∈l,c.isHole=false
 | [],_,c,h=>by cases h
 | d :: r,h,c,a=>by
  simp only [EX,Bool.or_eq_false_iff] at h
  rcases List.mem_cons.1 a with rfl | a
  ·exact h.1
  ·exact Jj h.2 c a
section
variable {ρ:Env} {ν:Nat->Addr}
theorem Pk (a b:IE):(a.OV b).den ρ=a.den ρ * b.den ρ:=by
 unfold IE.OV
 split
 ·rename_i c d;simp [IE.df c,IE.df d,IE.den]
 ·rfl
structure NA (ρ:Env) (ν:Nat->Addr) (ks:List Kd) (size n:Nat) (xs:List Value) (cv:CV):Prop where
 len:xs.length=n * size
 at_:∀i j,i<n->j<size->xs[i * size+j]?=some (qB ks[j]? (cv.I ρ i 0 j) (cv.B ρ i 0 j) (cv.V ρ ν i 0 j))
structure Dst (ρ:Env) (ν:Nat->Addr) (w:World) (hp:List SB) (te:TI) (e:TypeId) (b:Option Nat) (c:BE) (v0:Value) (n:Nat) (xs:List Value):Prop where
 own:w.ownsRow 0 e te.size v0 n xs
 nil:c.den ρ=true↔v0=.slice none 0 0
 ak:v0.ownBlock=none\/∃k sb0,b=some k/\v0.ownBlock=some (ν k).block/\hp[k]?=some sb0/\sb0.dead ρ=false/\sb0.ro=false/\sb0.own=true
def E5 (ρ:Env) (ν:Nat->Addr) (size n:Nat) (d:List Value):Old->Prop
 | .cells b=>b.length=n * size/\∀(p:Nat) (c:SC),b[p]?=some c->c.isHole=false->d[p]?=some (c.den ρ ν)
 | .R8 g a=>g.s1=size/\g.n2=1/\g.s2=0/\g.lo=0/\g.ks.length=size/\(∀u∈a,0<=u.i1.den ρ/\0<=u.i2.den ρ)/\∀i j,i<n->j<size->d[i * size+j]?=some (dD ρ ν a 0 i 0 j (g.base ρ i 0 j))
theorem Mr {w:World} {z:List SB} (hh:aD ρ ν z w) {f:TI} {e:TypeId} {c:BE} {a:SA} {len cap:IE} {m:List BE} {b:Option Nat} {c':BE} {t:IE} {ay:Old} {os:List BE}
  (h:I8 f e z c a len cap m=some (b,c',t,ay,os)) (Q:∀o∈os,o.den ρ=true) :
  c'=c/\t=len/\(∀o∈m,o.den ρ=true)/\(c.den ρ=true->len.den ρ=0->E5 ρ ν f.size 0 [] ay) /\
  (c.den ρ=false->∃n xs,Dst ρ ν w z f e b c (SC.den ρ ν (.sl a len cap)) n xs/\len.den ρ=(n:Int)/\E5 ρ ν f.size n xs ay):=by
 unfold I8 at h
 split at h
 case h_2=>cases h
 rename_i s yF
 split at h
 ·cases h
 rename_i I
 simp only [Bool.or_eq_true,Bool.not_eq_true',not_or,Bool.not_eq_true,beq_eq_false_iff_ne,ne_eq,Decidable.not_not,Bool.not_eq_false] at I
 obtain ⟨⟨⟨⟨⟨⟨⟨d1,d0⟩,d2⟩,d3⟩,d4⟩,d5⟩,d6⟩,d7⟩:=I
 have Y:=BE.aA d7
 have ha:=SA.EW (ρ:=ρ) d6
 obtain ⟨ce,V,X,e1,e2⟩:∃ce V,s.cap=some (ce,V)/\ce.same cap=true/\V=f.size:=by
  unfold abZ at d5
  split at d5
  ·rename_i c n I
   exact ⟨c,n,I,by simpa using d5⟩
  ·cases d5
 have W:=IE.aA e1
 have base:∀(os':List BE),(∀o∈(BE.ah (.lit 0) len :: .ah len cap :: .ah cap (.lit 9223372036854775807) :: m),o.den ρ=true)->0<=len.den ρ/\len.den ρ<=cap.den ρ/\cap.den ρ<=9223372036854775807/\∀o∈m,o.den ρ=true:=by
  intro _ M
  have a1:=of_decide_eq_true (M _ (by simp):BE.den ρ (.ah (.lit 0) len)=true)
  have a2:=of_decide_eq_true (M _ (by simp):BE.den ρ (.ah len cap)=true)
  have a3:=of_decide_eq_true (M _ (by simp):BE.den ρ (.ah cap (.lit 9223372036854775807))=true)
  exact ⟨a1,a2,a3,λo T=>M o (by simp [T])⟩
 have live:0<=len.den ρ->len.den ρ<=cap.den ρ->cap.den ρ<=9223372036854775807->c.den ρ=false->∃arr:Array Value,s.has ρ ν arr /\
   Dst ρ ν w z f e (some a.ak) c (SC.den ρ ν (.sl a len cap)) (len.den ρ).toNat (arr.toList.take ((len.den ρ).toNat * f.size))/\(arr.toList.take ((len.den ρ).toNat * f.size)).length=(len.den ρ).toNat * f.size:=by
  intro J N G l
  have hd:s.dead ρ=false:=by simp [SB.dead,d1,Y,l]
  obtain ⟨hz,arr,k,d⟩:=hh.ak _ _ yF hd d2
  replace k:=k.cells d0
  rw [d4] at k
  obtain ⟨k1,H⟩:=d.cap _ _ X
  rw [W] at k1 H
  rw [e2] at H
  have D:(len.den ρ).toNat<=(cap.den ρ).toNat:=by omega
  have hle:(len.den ρ).toNat * f.size<=arr.size:=by rw [H];exact Nat.mul_le_mul_right _ D
  have K:(arr.toList.take ((len.den ρ).toNat * f.size)).length=(len.den ρ).toNat * f.size:=by rw [List.length_take,Array.length_toList,Nat.min_eq_left hle]
  have q:SC.den ρ ν (.sl a len cap)=.slice (some ⟨(ν a.ak).block,0,none⟩) (len.den ρ).toNat (cap.den ρ).toNat:=by
   simp only [SC.den,SA.den,ha,Addr.add_zero]
   rw [<-hz]
  refine ⟨arr,d,⟨⟨K,.inr ⟨(ν a.ak).block,(cap.den ρ).toNat,arr,q,Nat.zero_le _,k,D,by simp only [maxLen];omega,H,rfl⟩⟩,?_,?_⟩,K⟩
  ·rw [l,q];simp
  ·exact .inr ⟨a.ak,s,rfl,by rw [q];rfl,yF,hd,d2,by simpa using d3⟩
 simp only at h
 split at h
 ·
  rename_i y
  split at h
  ·rename_i L hL
   split at h
   ·rename_i A
    simp only [decide_eq_true_eq] at A
    simp only [Option.some.injEq,Prod.mk.injEq] at h
    obtain ⟨rfl,rfl,rfl,rfl,rfl⟩:=h
    obtain ⟨J,N,G,b4⟩:=base m Q
    have eL:=IE.df (ρ:=ρ) hL
    refine ⟨rfl,rfl,b4,λ_ h0=>?_,λl=>?_⟩
    ·have:L.toNat=0:=by rw [eL] at h0;omega
     simp [E5,this]
    ·obtain ⟨arr,d,O,K⟩:=live J N G l
     have F:(len.den ρ).toNat=L.toNat:=by rw [eL]
     refine ⟨_,_,O,by omega,?_,λp x z hx=>?_⟩
     ·rw [List.length_take,Nat.min_eq_left A,F]
     ·have C:p<L.toNat * f.size:=by
       have:=(List.getElem?_eq_some_iff.1 z).1
       rw [List.length_take,Nat.min_eq_left A] at this
       exact this
      rw [List.getElem?_take_of_lt C] at z
      rw [F,List.getElem?_take_of_lt C]
      simpa using d.ex p x z hx
   ·cases h
  ·cases h
 ·rename_i g y
  split at h
  ·rename_i r
   simp only [Bool.and_eq_true,beq_iff_eq,List.isEmpty_iff] at r
   obtain ⟨⟨⟨⟨⟨⟨q1,P⟩,q4⟩,U⟩,S⟩,R⟩,B⟩:=r
   simp only [Option.some.injEq,Prod.mk.injEq] at h
   obtain ⟨rfl,rfl,rfl,rfl,rfl⟩:=h
   have hle:=of_decide_eq_true (Q _ (by simp):BE.den ρ (.ah len g.n1)=true)
   obtain ⟨J,N,G,b4⟩:=base m (λo T=>Q o (List.mem_cons_of_mem _ T))
   refine ⟨rfl,rfl,b4,λE h0=>?_,λl=>?_⟩
   ·refine ⟨P,q4,U,S,R,?_,λi j hi=>by omega⟩
    intro u hu
    simp only [Bool.or_eq_true,List.isEmpty_iff] at B
    rcases B with B | B
    ·rw [B] at hu;cases hu
    ·rw [BE.aA B] at E;cases E
   ·obtain ⟨arr,d,O,K⟩:=live J N G l
    refine ⟨_,_,O,by omega,P,q4,U,S,R,d.un,λi j hi hj=>?_⟩
    have Z:i * f.size+j<(len.den ρ).toNat * f.size:=by
     have:(i+1) * f.size<=(len.den ρ).toNat * f.size:=Nat.mul_le_mul_right _ hi
     rw [Nat.add_mul] at this
     omega
    rw [List.getElem?_take_of_lt Z]
    have:=d.sg 0 g (by rw [y];rfl) i 0 j (by omega) (by omega) (by rw [R];exact hj)
    rw [P,U,S,Nat.zero_mul] at this
    simpa using this
  ·cases h
 ·cases h
theorem rQ {len:IE} (m:Nat) (h:0<=len.den ρ):((len.jL (.lit (m:Nat))).den ρ).toNat=(len.den ρ).toNat+m/\(len.jL (.lit (m:Nat))).den ρ=len.den ρ+m:=by
 rw [IE.nG]
 simp only [IE.den]
 constructor
 ·omega
 ·trivial
theorem Pm {len:IE} (h:0<=len.den ρ) (size:Nat):∀(news:List SC) (p:Nat),∀u∈xH len news size p,0<=u.i1.den ρ/\0<=u.i2.den ρ
 | [],_,_,a=>by cases a
 | c :: r,p,u,a=>by
  simp only [xH] at a
  rcases List.mem_cons.1 a with rfl | a
  ·obtain ⟨-,b⟩:=rQ (len:=len) (p / size) h
   simp only
   rw [b]
   exact ⟨Int.add_nonneg h (Int.natCast_nonneg _),Int.le_refl 0⟩
  ·exact Pm h size r (p+1) u a
theorem Ms {len:IE} (h:0<=len.den ρ) {size a j:Nat} (us:List Up) (b:Value) (d:a<(len.den ρ).toNat):∀(news:List SC) (p:Nat),
  dD ρ ν (xH len news size p ++ us) 0 a 0 j b=dD ρ ν us 0 a 0 j b
 | [],_=>rfl
 | c :: r,p=>by
  simp only [xH,List.cons_append,dD,(rQ (len:=len) (p / size) h).1]
  rw [if_neg (by rintro ⟨-,e,-⟩;have:=Nat.le_add_right (len.den ρ).toNat (p / size);omega)]
  exact Ms h us b d r (p+1)
theorem Mt {len:IE} (h:0<=len.den ρ) {size i j:Nat} (f:j<size) (us:List Up) (b:Value):∀(news:List SC) (p:Nat),p<=i * size+j->∀(c:SC),
  news[i * size+j-p]?=some c->dD ρ ν (xH len news size p ++ us) 0 ((len.den ρ).toNat+i) 0 j b=c.den ρ ν
 | [],_,_,c,a=>by simp at a
 | d :: r,p,m,c,a=>by
  simp only [xH,List.cons_append,dD,(rQ (len:=len) (p / size) h).1,IE.den]
  by_cases k:p=i * size+j
  ·subst k
   simp at a
   subst a
   have g:(i * size+j) / size=i:=by rw [Nat.mul_comm,Nat.mul_add_div (by omega),Nat.div_eq_of_lt f,Nat.add_zero]
   have e:(i * size+j) % size=j:=by rw [Nat.mul_comm,Nat.mul_add_mod,Nat.mod_eq_of_lt f]
   simp [g,e]
  ·rw [if_neg]
   ·refine Mt h f us b r (p+1) (by omega) c ?_
    have:i * size+j-p=(i * size+j-(p+1))+1:=by omega
    rw [this] at a
    simpa using a
   ·rintro ⟨-,g,-,e⟩
    apply k
    have:=Nat.div_add_mod p size
    have l:p / size=i:=by omega
    rw [l,e,Nat.mul_comm] at this
    exact this.symm
theorem Pn {w:World} {f:List SB} (q:aD ρ ν f w) {g:TI} {e:TypeId} {dst:SV} {b:Option Nat} {c:BE} {len:IE} {ay:Old} {os:List BE}
  (h:Ns g e f dst=some (b,c,len,ay,os)) (k:∀o∈os,o.den ρ=true) :
  ∃n i,Dst ρ ν w f g e b c (dst.den ρ ν) n i/\len.den ρ=(n:Int)/\E5 ρ ν g.size n i ay:=by
 unfold Ns at h
 split at h
 ·simp only [Option.some.injEq,Prod.mk.injEq] at h
  obtain ⟨rfl,rfl,rfl,rfl,rfl⟩:=h
  exact ⟨0,[],⟨World.ownsRow_nil w 0 e g.size,by simp [BE.den,SV.den,SW.den,SC.den],.inl rfl⟩,rfl,by simp,λp c f=>by simp at f⟩
 ·rename_i a l cap
  obtain ⟨rfl,rfl,-,-,j⟩:=Mr (ν:=ν) q h k
  exact j rfl
 ·rename_i y a l cap
  obtain ⟨rfl,rfl,r,t,j⟩:=Mr (ν:=ν) q h k
  cases d:c.den ρ with
  | true =>
   have m:=Ap (r _ (List.mem_singleton.2 rfl)) d
   refine ⟨0,[],⟨?_,?_,.inl ?_⟩,by rw [m];rfl,t d m⟩
   ·simp only [SV.den,SW.den,SC.den,d,if_true];exact World.ownsRow_nil w 0 e g.size
   ·simp [SV.den,SW.den,SC.den,d]
   ·simp only [SV.den,SW.den,SC.den,d,if_true];rfl
  | false =>
   obtain ⟨n,i,s,x,u⟩:=j d
   have e:SV.den ρ ν (.w (.one (.eu c a len cap)))=SC.den ρ ν (.sl a len cap):=by simp [SV.den,SW.den,SC.den,d]
   exact ⟨n,i,by rw [e];exact s,x,u⟩
 ·cases h
theorem Xb {a:List Kd} {cs:List SC} {p:Nat} (h:ET cs a p=true) {j:Nat} {k:Kd} (d:a[j]?=some k):∃c,cs[p+j]?=some c/\pI k c=true/\c.isHole=false:=by
 obtain ⟨c,e,b⟩:=Gu h j k d
 refine ⟨c,e,b,?_⟩
 cases k <;> cases c <;> simp_all [pI,SC.isHole]
theorem aee {a:TI} {len:IE} {ay:Old} {n:Nat} {m:List Value} (z:a.zero.length=a.size) (D:len.den ρ=(n:Int)) (A:m.length=n * a.size) (q:E5 ρ ν a.size n m ay) (b:I9 a len ay=true) :
  NA ρ ν (a.zero.map sZ) a.size n m (uk a ay):=by
 refine ⟨A,λi j C o=>?_⟩
 obtain ⟨E,e⟩:∃k,(a.zero.map sZ)[j]?=some k:=⟨_,List.getElem?_eq_getElem (by simpa [z] using o)⟩
 cases ay with
 | cells t =>
  obtain ⟨u,p⟩:=q
  unfold I9 at b
  simp only at b
  split at b
  ·rename_i L y
   rw [IE.df y] at D
   have f:=Gv (Gw b i (by omega)) 0 (by omega)
   obtain ⟨c,r,s,B⟩:=Xb f e
   have d:i * a.size+j=0+i * a.size+0 * 0+j:=by omega
   rw [p (i * a.size+j) c (by rw [d];exact r) B,e,WK s]
   have h:t.getD (i * a.size+0 * 0+0+j) .hole=c:=by
    rw [List.getD_eq_getElem?_getD,show i * a.size+0 * 0+0+j=0+i * a.size+0 * 0+j by omega,r];rfl
   simp only [uk,CV.I,CV.B,CV.V,h]
  ·cases b
 | R8 g I =>
  obtain ⟨u,p,G,F,x,H,w⟩:=q
  simp only [I9,Bool.and_eq_true] at b
  have l:=rJ b.1
  rw [w i j C o,Um (by rw [x];exact o) b.2,l]
  simp [uk,CV.I,CV.B,CV.V,IE.den]
theorem afX {w:World} {m:List SB} (X:aD ρ ν m w) {b:TI} {c:BE} {a:SA} {n:IE} {G:CV} {os:List BE} (U:b.zero.length=b.size) (h:Uw b m c a n=some (G,os)) (D:∀o∈os,o.den ρ=true) :
  0<=n.den ρ/\(c.den ρ=false->∃news:List Value,NA ρ ν (b.zero.map sZ) b.size (n.den ρ).toNat news G/\(∀j u,news[j]?=some u->w.cell? ((a.den ρ ν).add j)=some u)/\∀u∈news,u.oneCell'=true):=by
 unfold Uw at h
 split at h
 ·cases h
 rename_i sb C
 split at h
 ·cases h
 rename_i M
 simp only [Bool.or_eq_true,Bool.not_eq_true',not_or,Bool.not_eq_true,Bool.not_eq_false] at M
 obtain ⟨⟨⟨d1,V⟩,d2⟩,d3⟩:=M
 split at h
 case h_2=>cases h
 rename_i g x
 split at h
 case h_2=>cases h
 rename_i k E
 split at h
 case isFalse=>cases h
 rename_i d
 simp only [Bool.and_eq_true,beq_iff_eq] at d
 obtain ⟨⟨⟨⟨⟨R,Z⟩,S⟩,W⟩,T⟩,Q⟩:=d
 simp only [Option.some.injEq,Prod.mk.injEq] at h
 obtain ⟨rfl,rfl⟩:=h
 have H:=of_decide_eq_true (D _ (by simp):BE.den ρ (.ah (.lit 0) n)=true)
 have N:=of_decide_eq_true (D _ (by simp):BE.den ρ (.ah (.lit 0) k)=true)
 have Y:=of_decide_eq_true (D _ (by simp):BE.den ρ (.ah (k.jL n) g.n1)=true)
 rw [IE.nG] at Y
 simp only [IE.den] at H N
 refine ⟨H,λF=>?_⟩
 have r:=rJ T
 have P:g.ks.length=b.size:=by rw [r,List.length_map,U]
 have hd:sb.dead ρ=false:=by
  have:sb.nl.den ρ=false:=by
   by_cases L:sb.nl.same c=true
   ·rw [BE.aA L];exact F
   ·have:=BE.aA (d3.resolve_left L)
    rw [this];rfl
  simp [SB.dead,d1,this]
 obtain ⟨arr,t,s⟩:=X.cells C hd (λ_=>V)
 let f:Nat->Nat->Value:=λi j=>qB (b.zero.map sZ)[j]? ((CV.up g 0 sb.ups k).I ρ i 0 j) ((CV.up g 0 sb.ups k).B ρ i 0 j) ((CV.up g 0 sb.ups k).V ρ ν i 0 j)
 have l:∀i j,i<(n.den ρ).toNat->j<b.size->arr[a.off ρ+(i * b.size+j)]?=some (f i j):=by
  intro i j K q
  have B:(((k.den ρ).toNat+i:Nat):Int)<g.n1.den ρ:=by omega
  have:=t.sg 0 g (by rw [x];rfl) ((k.den ρ).toNat+i) 0 j B (by omega) (by omega)
  rw [SA.OG E]
  rw [R,S,W] at this
  rw [show (k.den ρ).toNat * b.size+(i * b.size+j)=((k.den ρ).toNat+i) * b.size+0 * 0+0+j by rw [Nat.add_mul];omega,this,Um (by omega) Q,r]
  rfl
 refine ⟨(List.range ((n.den ρ).toNat * b.size)).map λp=>f (p / b.size) (p % b.size),⟨by simp,λi j K q=>?_⟩,λj u q=>?_,λu I=>?_⟩
 ·have z:i * b.size+j<(n.den ρ).toNat * b.size:=by
   have:(i+1) * b.size<=(n.den ρ).toNat * b.size:=Nat.mul_le_mul_right _ K
   rw [Nat.add_mul] at this
   omega
  rw [List.getElem?_map,List.getElem?_range z]
  have y:(i * b.size+j) / b.size=i:=by rw [Nat.mul_comm,Nat.mul_add_div (by omega),Nat.div_eq_of_lt q,Nat.add_zero]
  have O:(i * b.size+j) % b.size=j:=by rw [Nat.mul_comm,Nat.mul_add_mod,Nat.mod_eq_of_lt q]
  simp only [Option.map_some,y,O,f]
 ·rw [List.getElem?_map] at q
  simp only [Option.map_eq_some_iff] at q
  obtain ⟨p,m,rfl⟩:=q
  have e:=(List.getElem?_eq_some_iff.1 m).1
  rw [List.length_range] at e
  rw [List.getElem?_range e] at m
  simp at m
  subst m
  have J:0<b.size:=by
   rcases Nat.eq_zero_or_pos b.size with A | A
   ·rw [A] at e;omega
   ·exact A
  have y:=l (j / b.size) (j % b.size) ((Nat.div_lt_iff_lt_mul J).2 e) (Nat.mod_lt _ J)
  rw [show j / b.size * b.size+j % b.size=j by rw [Nat.mul_comm];exact Nat.div_add_mod j b.size] at y
  unfold SA.den
  rw [Addr.add_add]
  exact s _ _ y
 ·simp only [List.mem_map] at I
  obtain ⟨p,-,rfl⟩:=I
  exact Xa _ _ _ _
end
theorem Jk {P:Program} {w:World} {t ty e:TypeId} {a:TI} (p:P.underlying t=some (.slice e)) (r:rD P e a) (U:0<a.size) (C:0<a.bytes) {v0:Value} {n:Nat} {o:List Value} (c:w.ownsRow 0 e a.size v0 n o)
  (src:Option Addr) (m cx:Nat) (L:src=none->m=0) (news:List Value) (I:news.length=m * a.size) (f:∀A,src=some A->∀j u,news[j]?=some u->w.cell? (A.add j)=some u) (Q:∀u∈news,u.oneCell'=true)
  (N:(n+m) * a.bytes<=140737488355328) :
  ∃b w',(Builtin.append_ #[t,t] ty #[v0,.slice src m cx]).run P w=.ok b w'/\w.grownBy w' v0.ownBlock/\(b=.slice none 0 0↔v0=.slice none 0 0/\m=0) /\
   (b=Value.slice none 0 0\/∃(g cap:Nat) (cur:Array Value),b=.slice (some ⟨g,0,none⟩) (n+m) cap/\w'.heap[g]?=some (.cells cur e (0,0))/\n+m<=cap/\cap<=maxLen/\cur.size=cap * a.size/\cur.toList.take ((n+m) * a.size)=o ++ news /\
     (v0.ownBlock=some g\/g=w.heap.size)):=by
 obtain ⟨i,z,E,y,R,D,S,x,s⟩:=r.info
 have F:z.cells.size=a.size:=by
  have:=qR (ρ:={}) (ν:=λ_=>⟨0,0,none⟩) D
  rw [<-Array.length_toList,this,List.length_map,x]
 have k:n+m<=maxLen:=by
  have:(n+m) * 1<=(n+m) * a.bytes:=Nat.mul_le_mul_left _ C
  simp only [maxLen]
  omega
 have fin:∀(b:Value) (w':World),w'.ownsRow 0 e a.size b (n+m) (o ++ news)->(b.ownBlock=v0.ownBlock\/b.ownBlock=some w.heap.size)->(b=Value.slice none 0 0\/∃(g cap:Nat) (cur:Array Value),b=.slice (some ⟨g,0,none⟩) (n+m) cap/\w'.heap[g]?=some (.cells cur e (0,0))/\n+m<=cap/\cap<=maxLen/\cur.size=cap * a.size/\cur.toList.take ((n+m) * a.size)=o ++ news /\
       (v0.ownBlock=some g\/g=w.heap.size)):=by
  intro b w' B d
  rcases B.2 with ⟨rfl,h⟩ | ⟨g,cap,cur,rfl,-,J,q,H,K,G⟩
  ·exact .inl rfl
  ·refine .inr ⟨g,cap,cur,rfl,J,q,H,K,G,?_⟩
   rcases d with h | h
   ·exact .inl (by rw [<-h];rfl)
   ·refine .inr ?_
    have O:some g=some w.heap.size:=h
    exact Option.some.inj O
 cases src with
 | some A =>
  obtain ⟨b,w',T,B,M,l,d⟩:=run_append_own_at (P:=P) w 0 t ty e i z a.size a.bytes p E R y s F U v0 n o c A m cx news I (f A rfl) Q k N (Nat.zero_le _)
  exact ⟨b,w',T,M,l,fin b w' B d⟩
 | none =>
  have W:=L rfl
  subst W
  have V:news=[]:=List.eq_nil_of_length_eq_zero (by simpa using I)
  subst V
  refine ⟨v0,w,?_,⟨rfl,rfl,rfl,Nat.le_refl _,λ_ _ _=>rfl⟩,by simp,fin v0 w (by simpa using c) (.inl rfl)⟩
  rcases c.2 with ⟨rfl,rfl⟩ | ⟨g,cap,cur,rfl,-,J,q,H,K,G⟩
  ·simp [Builtin.append_,run_underlying p,sizeOf,typeInfo,E,Builtin.lenOf,Builtin.firstCells]
  ·simp [Builtin.append_,run_underlying p,sizeOf,typeInfo,E,Builtin.lenOf,Builtin.firstCells,q,storeCells]
def lq (ν:Nat->Addr) (n g:Nat):Nat->Addr:=λk=>if k=n then ⟨g,0,none⟩ else ν k
def wO (ρ:Env) (i:Nat) (x:Int):Env:={ρ with iv:=λj=>if j=i then x else ρ.iv j}
theorem ZJ (nv n:Nat) (ρ:Env) (ν:Nat->Addr) (g:Nat):bY nv n ρ ρ ν (lq ν n g) :=
 ⟨λ_ _=>rfl,λ_ _=>rfl,λ_ _=>rfl,λ_ _=>rfl,λ_ _=>rfl,λ_ _=>rfl,λi a=>by simp [lq,show i≠n by omega]⟩
theorem ZK (nv n:Nat) (ρ:Env) (ν:Nat->Addr) (g:Nat) (x:Int):bY nv n ρ (wO ρ nv x) ν (lq ν n g) :=
 ⟨λi a=>by simp [wO,show i≠nv by omega],λ_ _=>rfl,λ_ _=>rfl,λ_ _=>rfl,λ_ _=>rfl,λ_ _=>rfl,λi a=>by simp [lq,show i≠n by omega]⟩
def Jl (ρ:Env) (ν:Nat->Addr) (w:World) (d:List SB) (nv:Nat) (b:Option Nat) (v:SV) (sb:SB) (fs:List QF) (e:Value) (w':World):Prop :=
 fs≠[]/\∃(g:Nat) (a:Env) (ob:Option Nat),bY nv d.length ρ a ν (lq ν d.length g)/\e=v.den a (lq ν d.length g)/\(∀f∈fs,f.den a)/\sb.ro=false/\w.grownBy w' ob /\
  (ob=none\/∃k c,b=some k/\ob=some (ν k).block/\d[k]?=some c/\c.dead ρ=false/\c.ro=false/\c.own=true) /\
  (sb.dead a=false->(∃cur,w'.heap[g]?=some (.cells cur sb.t (0,0))/\sb.has a (lq ν d.length g) cur)/\(ob=some g\/g=w.heap.size))
section
variable {P:Program} {ρ:Env} {ν:Nat->Addr} {w:World} {hp:List SB}
theorem Sn {nv n:Nat} {len:IE} {ρ':Env} {cap:Nat} (a:len.den ρ'=(n:Int)) (c:ρ'.iv nv=(cap:Int)) (d:n<=cap) (b:cap<=maxLen):(GA nv len).den ρ'=true:=by
 simp only [maxLen] at b
 simp only [GA,BE.den,IE.den,a,c,Bool.and_eq_true,decide_eq_true_eq]
 omega
theorem FO {len:IE} {n bytes:Nat} (a:len.den ρ=(n:Int)) (h:(wE len bytes).den ρ=true):n * bytes<=140737488355328:=by
 have:=of_decide_eq_true h
 rw [Pk,a] at this
 simp only [IE.den] at this
 exact Int.ofNat_le.1 (by rw [Int.natCast_mul];exact this)
theorem ZL (hh:aD ρ ν hp w) {t ty e:TypeId} {a:TI} (ht:P.underlying t=some (.slice e)) (hte:rD P e a) {nv:Nat} {dst:SV} {m:Nat} {news:List SC} {b:Option Nat} {v:SV} {sb:SB} {k:Nat} {fs:List QF} {os:List BE}
  (h:Uv a e nv hp dst m news=.app b v sb k fs os) (S:∀o∈os,o.den ρ=true) (A:Addr) (cx:Nat) (hn:∀j c,news[j]?=some c->w.cell? (A.add j)=some (c.den ρ ν)) :
  ∃K w',(Builtin.append_ #[t,t] ty #[dst.den ρ ν,.slice (some A) m cx]).run P w=.ok K w'/\Jl ρ ν w hp nv b v sb fs K w':=by
 unfold Uv at h
 split at h
 ·cases h
 rename_i L
 simp only [Bool.or_eq_true,decide_eq_true_eq,Bool.not_eq_true',not_or,beq_eq_false_iff_ne,ne_eq,Decidable.not_not,Bool.not_eq_false,Bool.not_eq_true] at L
 obtain ⟨⟨⟨⟨⟨c1,c2⟩,c3⟩,c4⟩,c5⟩,c6⟩:=L
 split at h
 ·cases h
 rename_i b' c' len ay gN hold
 split at h
 ·cases h
 rename_i M
 replace M:len.sc nv=true:=by simpa using M
 have main:∀(sb:SB) (os:List BE),(∀o∈os,o.den ρ=true)->os=wE (len.jL (.lit m)) a.bytes :: gN->sb.t=e->sb.ro=false->sb.nl=.lit false->sb.gone=false ->
   (∀(n:Nat) (G:List Value) (cur:Array Value) (l:Env) (g:Nat),bY nv hp.length ρ l ν (lq ν hp.length g)->len.den ρ=(n:Int)->E5 ρ ν a.size n G ay->G.length=n * a.size->cur.toList.take ((n+m) * a.size)=G ++ news.map (·.den ρ ν)->(∃cap:Nat,l.iv nv=cap/\cur.size=cap * a.size)->sb.has l (lq ν hp.length g) cur) ->
   ∃K w',(Builtin.append_ #[t,t] ty #[dst.den ρ ν,.slice (some A) m cx]).run P w=.ok K w' /\
    Jl ρ ν w hp nv b' (.w (.one (.sl {ak:=hp.length,i1:=.lit 0,s1:=a.size} (len.jL (.lit m)) (.var nv)))) sb [.be (GA nv (len.jL (.lit m)))] K w':=by
  intro sb os S hos ht' hro hnl hgn W
  subst hos
  obtain ⟨n,G,hD,s,O⟩:=Pn (ν:=ν) hh hold (λo V=>S o (List.mem_cons_of_mem _ V))
  have hlen:=(rQ (len:=len) (ρ:=ρ) m (by omega)).2
  have hb:=FO (n:=n+m) (by rw [hlen,s];simp) (S _ (List.mem_cons_self ..))
  obtain ⟨K,w',hr,I,Q,hat⟩:=Jk (P:=P) (ty:=ty) ht hte (by omega) (by omega) hD.own (some A) m cx (by simp) (news.map (·.den ρ ν)) (by simpa using c3)
   (λB hB j u hj=>by
     cases hB
     rw [List.getElem?_map] at hj
     simp only [Option.map_eq_some_iff] at hj
     obtain ⟨c,L,rfl⟩:=hj
     exact hn j c L)
   (λu D=>by
     simp only [List.mem_map] at D
     obtain ⟨c,L,rfl⟩:=D
     exact SC.vJ c (Jj c4 c L)) hb
  refine ⟨K,w',hr,?_⟩
  rcases hat with hv | ⟨g,cap,cur,hv,T,N,h2,h3,h4,h5⟩
  ·exact absurd (Q.1 hv).2 c5
  ·have d:=ZK nv hp.length ρ ν g cap
   have z:(len.jL (.lit m)).den (wO ρ nv cap)=((n+m:Nat):Int):=by
    rw [IE.nG,IE.aT d M,s];simp [IE.den]
   refine ⟨by simp,g,wO ρ nv cap,(dst.den ρ ν).ownBlock,d,?_,?_,hro,I,?_,λ_=>⟨⟨cur,by rw [ht'];exact T,?_⟩,h5⟩⟩
   ·have C:(IE.var nv).den (wO ρ nv cap)=(cap:Int):=by simp [IE.den,wO]
    rw [hv]
    simp only [SV.den,SW.den,SC.den,z,C,Int.toNat_natCast]
    simp [SA.den,SA.off,IE.den,Addr.add_zero,lq]
   ·intro f hf
    rw [List.mem_singleton.1 hf]
    exact Sn z (by simp [wO]) N h2
   ·exact hD.ak
   ·exact W n G cur _ g d s O hD.own.1 h4 ⟨cap,by simp [wO],h3⟩
 split at h
 ·rename_i cs
  split at h
  ·cases h
  rename_i F
  replace F:rH nv hp.length cs=true:=by simpa using F
  cases h
  refine main _ _ S rfl rfl rfl rfl rfl ?_
  intro n G cur l g d s O H T y
  obtain ⟨o1,o2⟩:=O
  obtain ⟨cap,C,J⟩:=y
  refine ⟨λu D=>(by cases D),λ_ h=>(by cases h),λe0 n0 X=>?_,λp c q hh'=>?_,λgi g I=>(by simp at I)⟩
  ·simp only [Option.some.injEq,Prod.mk.injEq] at X
   obtain ⟨rfl,rfl⟩:=X
   simp only [IE.den,C]
   exact ⟨Int.natCast_nonneg _,by rw [Int.toNat_natCast];exact J⟩
  ·simp only at q
   have am3:p<(n+m) * a.size:=by
    have:=(List.getElem?_eq_some_iff.1 q).1
    rw [List.length_append,o1,c3,<-Nat.add_mul] at this
    exact this
   have N:(cur.toList.take ((n+m) * a.size))[p]?=some (c.den ρ ν):=by
    rw [T]
    rw [List.getElem?_append,o1] at q
    rw [List.getElem?_append,H]
    split at q
    ·rename_i r
     rw [if_pos r]
     exact o2 p c q hh'
    ·rename_i r
     rw [if_neg r,List.getElem?_map,q];rfl
   rw [List.getElem?_take_of_lt am3] at N
   have Y:c.den l (lq ν hp.length g)=c.den ρ ν:=by
    rcases List.mem_append.1 (List.mem_of_getElem? q) with V | V
    ·exact sQ d F c V
    ·exact sQ d c6 c V
   rw [Y]
   simpa using N
 ·rename_i g0 us
  split at h
  ·cases h
  rename_i F
  replace F:(CV.up g0 0 us (.lit 0)).sc nv hp.length=true:=by simpa using F
  simp only [CV.sc,Bool.and_eq_true,Nat.blt_eq] at F
  obtain ⟨⟨⟨gr,gn⟩,gu⟩,-⟩:=F
  cases h
  refine main _ _ S rfl rfl rfl rfl rfl ?_
  intro n G cur l g d s O H T y
  obtain ⟨q1,q2,q3,q4,q5,q6,q7⟩:=O
  obtain ⟨cap,C,J⟩:=y
  have hl0:0<=len.den ρ:=by omega
  have x:0<=len.den l:=by rw [IE.aT d M];exact hl0
  refine ⟨λu D=>?_,λh=>(by cases h),λe0 n0 X=>?_,λp c hp hh=>(by simp at hp),λgi g' I i1 i2 j a1 a2 a3=>?_⟩
  ·rcases List.mem_append.1 D with D | D
   ·exact Pm x a.size news 0 u D
   ·obtain ⟨e1,e2,-⟩:=EO d gu u D
    rw [e1,e2]
    exact q6 u D
  ·simp only [Option.some.injEq,Prod.mk.injEq] at X
   obtain ⟨rfl,rfl⟩:=X
   simp only [IE.den,C]
   exact ⟨Int.natCast_nonneg _,by rw [Int.toNat_natCast];exact J⟩
  ·cases gi with
   | succ gi=>simp at I
   | zero =>
    simp at I
    subst I
    simp only at a1 a2 a3 ⊢
    have hb:({g0 with n1:=len.jL (.lit (m:Nat))}:aU).base l i1 i2 j=g0.base ρ i1 i2 j:=by
     rw [<-aU.Gs d g0 gr];rfl
    rw [hb]
    rw [q2] at a2
    have hi2:i2=0:=by omega
    subst hi2
    rw [(rQ m x).2,IE.aT d M,s] at a1
    rw [q5] at a3
    rw [q1,q3,q4,Nat.zero_mul]
    simp only [Nat.add_zero]
    have hi1:i1<n+m:=by omega
    have U:i1 * a.size+j<(n+m) * a.size:=by
     have:(i1+1) * a.size<=(n+m) * a.size:=Nat.mul_le_mul_right _ hi1
     rw [Nat.add_mul] at this
     omega
    have N:cur[i1 * a.size+j]?=(G ++ news.map (·.den ρ ν))[i1 * a.size+j]?:=by
     rw [<-T,List.getElem?_take_of_lt U]
     simp
    have R:(len.den l).toNat=n:=by rw [IE.aT d M,s];simp
    rw [N,List.getElem?_append,H]
    by_cases r:i1<n
    ·have hin:i1 * a.size+j<n * a.size:=by
      have:(i1+1) * a.size<=n * a.size:=Nat.mul_le_mul_right _ r
      rw [Nat.add_mul] at this
      omega
     rw [if_pos hin,Ms x us _ (by rw [R];exact r),AB d gu]
     exact q7 i1 j r a3
    ·have hge:n * a.size<=i1 * a.size:=Nat.mul_le_mul_right _ (by omega)
     rw [iN,List.getElem?_map]
     obtain ⟨i,rfl⟩:∃i,i1=n+i:=⟨i1-n,by omega⟩
     have Z:(n+i) * a.size+j-n * a.size=i * a.size+j:=by rw [Nat.add_mul];omega
     rw [Z]
     have E:i * a.size+j<news.length:=by
      rw [c3]
      have:(i+1) * a.size<=m * a.size:=Nat.mul_le_mul_right _ (by omega)
      rw [Nat.add_mul] at this
      omega
     rw [List.getElem?_eq_getElem E]
     have hun:=Mt (ν:=lq ν hp.length g) x a3 us (g0.base ρ (n+i) 0 j) news 0 (Nat.zero_le _) (news[i * a.size+j]) (by rw [Nat.sub_zero];exact List.getElem?_eq_getElem E)
     rw [R] at hun
     rw [hun]
     rw [sQ d c6 _ (List.getElem_mem E)]
     rfl
theorem SC.afY {nv n:Nat} {ρ':Env} {b:Nat->Addr} (a:bY nv n ρ ρ' ν b) {c:SC} (h:c.sc nv n=true):c.I ρ'=c.I ρ/\c.B ρ'=c.B ρ:=by
 cases c <;> simp only [SC.I,SC.B,and_self,true_and,and_true]
 ·exact IE.aT a h
 ·exact BE.aT a h
theorem GK {nv n:Nat} {ρ':Env} {k:Nat->Addr} (e:bY nv n ρ ρ' ν k):∀{us:List Up},uY nv n us=true->∀g c d j,(∀b,uI ρ' us g c d j b=uI ρ us g c d j b)/\(∀b,uJ ρ' us g c d j b=uJ ρ us g c d j b)
 | [],_=>λ_ _ _ _=>⟨λ_=>rfl,λ_=>rfl⟩
 | u :: r,a=>λg c d j=>by
  simp only [uY,Bool.and_eq_true] at a
  obtain ⟨h,l⟩:=SC.afY e a.1.2
  obtain ⟨i,f⟩:=GK e a.2 g c d j
  constructor
  ·intro b
   simp only [uI,IE.aT e a.1.1.1,IE.aT e a.1.1.2,h,i]
  ·intro b
   simp only [uJ,IE.aT e a.1.1.1,IE.aT e a.1.1.2,l,f]
theorem CV.aT {nv n:Nat} {ρ':Env} {q:Nat->Addr} (b:bY nv n ρ ρ' ν q) {c:CV} (h:c.sc nv n=true) (f e j:Nat):c.I ρ' f e j=c.I ρ f e j/\c.B ρ' f e j=c.B ρ f e j:=by
 cases c with
 | up g z y x =>
  simp only [CV.sc,Bool.and_eq_true,Nat.blt_eq] at h
  obtain ⟨⟨⟨k,u⟩,m⟩,o⟩:=h
  simp only [CV.I,CV.B,IE.aT b o,(GK b m _ _ _ _).1,(GK b m _ _ _ _).2,aU.I,aU.B,b.ic g.r k,b.bc g.r k,and_self]
 | ex p s1 s2 t =>
  simp only [CV.sc] at h
  simp only [CV.I,CV.B,List.getD_eq_getElem?_getD]
  cases a:p[f * s1+e * s2+t+j]? with
  | none=>exact ⟨rfl,rfl⟩
  | some c =>
   have:∀{l:List SC},rH nv n l=true->∀c∈l,c.sc nv n=true:=by
    intro l
    induction l with
    | nil=>intro _ c a;cases a
    | cons d r s =>
     intro i c a
     simp only [rH,Bool.and_eq_true] at i
     rcases List.mem_cons.1 a with rfl | a
     ·exact i.1
     ·exact s i.2 c a
   exact SC.afY b (this h c (List.mem_of_getElem? a))
theorem UG (hh:aD ρ ν hp w) {t ty e:TypeId} {d:TI} (ht:P.underlying t=some (.slice e)) (hte:rD P e d) {nv:Nat} {dst:SV} {n:IE} {J:CV} {D:List BE} {b:Option Nat} {v:SV} {sb:SB} {k:Nat} {fs:List QF} {os:List BE}
  (h:jy d e nv hp dst n J D=.app b v sb k fs os) (ho:∀o∈os,o.den ρ=true) (src:Option Addr) (cx:Nat) (h0:src=none->n.den ρ=0)
  (hn:(∀o∈D,o.den ρ=true)->d.zero.length=d.size->0<=n.den ρ/\∃news:List Value,NA ρ ν (d.zero.map sZ) d.size (n.den ρ).toNat news J/\(∀A,src=some A->∀j u,news[j]?=some u->w.cell? (A.add j)=some u)/\∀u∈news,u.oneCell'=true) :
  (∀o∈D,o.den ρ=true)/\∃F w',(Builtin.append_ #[t,t] ty #[dst.den ρ ν,.slice src (n.den ρ).toNat cx]).run P w=.ok F w'/\Jl ρ ν w hp nv b v sb fs F w':=by
 unfold jy at h
 split at h
 ·cases h
 rename_i hc
 simp only [Bool.or_eq_true,decide_eq_true_eq,Bool.not_eq_true',not_or,beq_eq_false_iff_ne,ne_eq,Decidable.not_not,Bool.not_eq_false] at hc
 obtain ⟨⟨⟨⟨c1,c2⟩,c3⟩,c4⟩,c5⟩:=hc
 split at h
 ·cases h
 rename_i b' M len ay gN hold
 split at h
 ·cases h
 rename_i A9
 simp only [Bool.or_eq_true,Bool.not_eq_true',not_or,Bool.not_eq_false] at A9
 obtain ⟨⟨⟨l1,l2⟩,l3⟩,l4⟩:=A9
 simp only [ER.app.injEq] at h
 obtain ⟨rfl,rfl,rfl,rfl,rfl,rfl⟩:=h
 have N:∀o∈D,o.den ρ=true:=λo hm=>ho o (by simp [hm])
 refine ⟨N,?_⟩
 obtain ⟨n0,news,hN,Y,Q⟩:=hn N c3
 obtain ⟨q,xs,K,I,hO⟩:=Pn (ν:=ν) hh hold (λo hm=>ho o (by simp [hm]))
 have hX:=aee c3 I K.own.1 hO l3
 have hlen:(len.jL n).den ρ=((q+(n.den ρ).toNat:Nat):Int):=by rw [IE.nG,I];omega
 have hb:=FO (n:=q+(n.den ρ).toNat) hlen (ho _ (List.mem_cons_self ..))
 obtain ⟨F,w',hr,hg,G,hat⟩:=Jk (P:=P) (ty:=ty) ht hte (by omega) (by omega) K.own src (n.den ρ).toNat cx (λhs=>by rw [h0 hs];rfl) news hN.len Y Q hb
 refine ⟨F,w',hr,?_⟩
 let s:Nat->Env:=λcap=>{ρ with
   iv:=λi=>if i=nv then (cap:Int) else ρ.iv i
   ic:=λr=>if r=nv+1 then λi _ j=>if i<q then (uk d ay).I ρ i 0 j else J.I ρ (i-q) 0 j else ρ.ic r
   bc:=λr=>if r=nv+1 then λi _ j=>if i<q then (uk d ay).B ρ i 0 j else J.B ρ (i-q) 0 j else ρ.bc r
   vc:=λr=>if r=nv+1 then λi _ j=>if i<q then (uk d ay).V ρ ν i 0 j else J.V ρ ν (i-q) 0 j else ρ.vc r}
 have m:∀cap g,bY nv hp.length ρ (s cap) ν (lq ν hp.length g):=λcap g =>
  ⟨λi L=>by simp [s,show i≠nv by omega],λ_ _=>rfl,λ_ _=>rfl,λi L=>by simp [s,show i≠nv+1 by omega],λi L=>by simp [s,show i≠nv+1 by omega],λi L=>by simp [s,show i≠nv+1 by omega],λi L=>by simp [lq,show i≠hp.length by omega]⟩
 have E:∀cap,(M.uE (BE.uF n (.lit 0))).den (s cap)=true↔F=.slice none 0 0:=by
  intro cap
  rw [BE.Af,BE.Ai,BE.aT (m cap 0) l2,IE.aT (m cap 0) c5,G]
  simp only [IE.den,Bool.and_eq_true,beq_iff_eq,K.nil]
  constructor
  ·rintro ⟨a,b⟩;exact ⟨a,by omega⟩
  ·rintro ⟨a,b⟩;exact ⟨a,by omega⟩
 have x:∀cap,(len.jL n).den (s cap)=((q+(n.den ρ).toNat:Nat):Int):=by
  intro cap
  rw [IE.nG,IE.aT (m cap 0) l1,IE.aT (m cap 0) c5,<-hlen,IE.nG]
 have C:∀cap,(IE.var nv).den (s cap)=(cap:Int):=by intro cap;simp [IE.den,s]
 have O:F=.slice none 0 0->q+(n.den ρ).toNat=0:=by
  intro y
  obtain ⟨X,h2⟩:=G.1 y
  have:=K.own.2
  rcases this with ⟨_,hz⟩ | ⟨g,cap,cur,W,-⟩
  ·omega
  ·rw [X] at W;cases W
 have am4:∀cap,QF.den (s cap) (.cat (nv+1) len (uk d ay) n J):=by
  intro cap i j
  simp only [IE.aT (m cap 0) l1,IE.aT (m cap 0) c5,(CV.aT (m cap 0) l4 _ _ _).1,(CV.aT (m cap 0) l4 _ _ _).2,(CV.aT (m cap 0) c4 _ _ _).1,(CV.aT (m cap 0) c4 _ _ _).2,I]
  refine ⟨λL=>?_,λL=>?_⟩
  ·have:i<q:=by omega
   simp [s,this]
  ·have X:¬q+i<q:=by omega
   simp [s,X]
 have R:∀cap,q+(n.den ρ).toNat<=cap->cap<=maxLen->(F=.slice none 0 0->cap=0)->∀f∈[QF.be (GA nv (len.jL n)),.be (dP (M.uE (BE.uF n (.lit 0))) (len.jL n)),.be (dP (M.uE (BE.uF n (.lit 0))) (.var nv)),.cat (nv+1) len (uk d ay) n J],f.den (s cap):=by
  intro cap q1 q2 q3 f hf
  have T:∀l:IE,(F=.slice none 0 0->l.den (s cap)=0)->(dP (M.uE (BE.uF n (.lit 0))) l).den (s cap)=true:=by
   intro l hl
   simp only [dP,BE.den,BE.jW,IE.den,Bool.or_eq_true,Bool.not_eq_true',beq_iff_eq]
   cases B:(M.uE (BE.uF n (.lit 0))).den (s cap) with
   | false=>exact .inl rfl
   | true=>exact .inr (hl ((E cap).1 B))
  simp only [List.mem_cons,List.not_mem_nil,or_false] at hf
  rcases hf with rfl | rfl | rfl | rfl
  ·exact Sn (x cap) (C cap) q1 q2
  ·exact T _ λy=>by rw [x,O y];rfl
  ·exact T _ λy=>by rw [C,q3 y];rfl
  ·exact am4 cap
 rcases hat with y | ⟨g,cap,cur,y,bH,X,h2,h3,h4,h5⟩
 ·refine ⟨by simp,0,s 0,(dst.den ρ ν).ownBlock,m 0 0,?_,R 0 (by rw [O y];exact Nat.le_refl 0) (Nat.zero_le _) (λ_=>rfl),rfl,hg,K.ak,λhd=>?_⟩
  ·have B:=(E 0).2 y
   split
   ·rename_i hkl
    rw [hkl] at B
    cases B
   ·simp only [SV.den,SW.den,SC.den,B,if_true,y]
  ·have B:=(E 0).2 y
   simp [SB.dead,B] at hd
 ·have Sq:F≠.slice none 0 0:=by rw [y];simp
  have B:(M.uE (BE.uF n (.lit 0))).den (s cap)=false:=by
   rw [<-Bool.not_eq_true];exact λh=>Sq ((E cap).1 h)
  refine ⟨by simp,g,s cap,(dst.den ρ ν).ownBlock,m cap g,?_,R cap X h2 (λh=>absurd h Sq),rfl,hg,K.ak,λ_=>⟨⟨cur,bH,?_⟩,h5⟩⟩
  ·have U:Value.slice (some ⟨g,0,none⟩) (q+(n.den ρ).toNat) cap=SC.den (s cap) (lq ν hp.length g) (.sl {ak:=hp.length,i1:=.lit 0,s1:=d.size} (len.jL n) (.var nv)):=by
    simp only [SC.den,x,C,Int.toNat_natCast]
    simp [SA.den,SA.off,IE.den,Addr.add_zero,lq]
   rw [y,U]
   split
   ·rfl
   ·simp only [SV.den,SW.den,SC.den,B,Bool.false_eq_true,if_false]
  ·refine ⟨λu hu=>(by cases hu),λh=>(by cases h),λe0 n0 he=>?_,λp c hp hh=>(by simp at hp),λgi g' H i1 i2 j a1 a2 a3=>?_⟩
   ·simp only [Option.some.injEq,Prod.mk.injEq] at he
    obtain ⟨rfl,rfl⟩:=he
    rw [C]
    exact ⟨Int.natCast_nonneg _,by rw [Int.toNat_natCast];exact h3⟩
   ·cases gi with
    | succ gi=>simp at H
    | zero =>
     simp at H
     subst H
     simp only at a1 a2 a3 ⊢
     rw [x] at a1
     have Z:i2=0:=by omega
     subst Z
     have hi1:i1<q+(n.den ρ).toNat:=by omega
     have hj:j<d.size:=by rw [List.length_map,c3] at a3;exact a3
     have S:i1 * d.size+j<(q+(n.den ρ).toNat) * d.size:=by
      have:(i1+1) * d.size<=(q+(n.den ρ).toNat) * d.size:=Nat.mul_le_mul_right _ hi1
      rw [Nat.add_mul] at this
      omega
     have e1:cur[i1 * d.size+j]?=(xs ++ news)[i1 * d.size+j]?:=by
      rw [<-h4,List.getElem?_take_of_lt S]
      simp
     rw [aU.Ku _ rfl]
     simp only [dD]
     rw [show i1 * d.size+0 * 0+0+j=i1 * d.size+j by omega,e1,List.getElem?_append,hX.len]
     by_cases z:i1<q
     ·have hin:i1 * d.size+j<q * d.size:=by
       have:(i1+1) * d.size<=q * d.size:=Nat.mul_le_mul_right _ z
       rw [Nat.add_mul] at this
       omega
      rw [if_pos hin,hX.at_ i1 j z hj]
      simp [s,z]
     ·have hge:q * d.size<=i1 * d.size:=Nat.mul_le_mul_right _ (by omega)
      rw [iN]
      have V:i1 * d.size+j-q * d.size=(i1-q) * d.size+j:=by rw [Nat.sub_mul];omega
      rw [V,hN.at_ (i1-q) j (by omega) hj]
      simp [s,z]
end
def Bb (P:Program) (ρ:Env) (ν:Nat->Addr) (w:World) (h:List SB) (a:Act) (nv:Nat) (o:Oper):ER->Prop
 | .val v e=>(∀c∈e,c.den ρ=true)->(execOp a.eval o).run P w=.ok (.value (v.den ρ ν)) w
 | .new v sb e=>ν h.length=⟨w.heap.size,0,none⟩->(∀c∈e,c.den ρ=true)->∃obj arr,jl (some obj) sb.t arr/\sb.has ρ ν arr/\sb.ro=false/\(execOp a.eval o).run P w=.ok (.value (v.den ρ ν)) (w.alloc obj)
 | .st b sb e=>(∀c∈e,c.den ρ=true)->∃r g d,(r=Next.skip\/r=.value (.tuple #[]))/\h[b]?=some d/\d.own=true/\d.dead ρ=false/\(execOp a.eval o).run P w=.ok r g/\UE (ν b).block w g/\aD ρ ν (h.set b sb) g
 | .app b v sb _ j e=>(∀c∈e,c.den ρ=true)->∃i g,(execOp a.eval o).run P w=.ok (.value i) g/\Jl ρ ν w h nv b v sb j i g
 | .call f args=>∀fn,P.funcs[f]?=some fn->fn.body.isSome=true->(fn.name == "runtime.NumGoroutine")=false->(execOp a.eval o).run P w=.ok (.enter f (args.map (·.den ρ ν)).toArray) w
 | _=>True
section
variable {P:Program} {T:bf} {ρ:Env} {ν:Nat->Addr} {w:World} {gl:List (Nat × Nat)} {kn:Kn} {fr:Fr} {hp:List SB} {a:Act} {nv:Nat} {o:Oper}
theorem Dw (t:TypeId) (cs:List SC) (sb:SB) (h:sb.cs=cs) (f:sb.bz=[]) (i:sb.ups=[]) (j:∀e n,sb.cap=some (e,n)->0<=e.den ρ/\cs.length=(e.den ρ).toNat * n):sb.has ρ ν (cs.map (·.den ρ ν)).toArray:=by
 refine ⟨λu d=>(by rw [i] at d;cases d),λ_ _=>by simp [h],λe n l=>?_,λp c hp k=>?_,λm g b=>(by rw [f] at b;simp at b)⟩
 all_goals grind
theorem af1 (n size:Nat) (l:List SC) (z:Array Value) (c:z.toList=l.map (·.den ρ ν)) (g:l.length=size) (f:0<size) :
  ((Array.range (n * size)).map (z[· % z.size]!))=((zs n size l).map (·.den ρ ν)).toArray:=by
 have b:z.size=size:=by rw [<-g,<-Array.length_toList,c,List.length_map]
 apply Array.ext'
 simp only [Array.toList_map,Array.toList_range,zs,List.map_map]
 apply List.map_congr_left
 intro i _
 have d:i % size<size:=Nat.mod_lt _ f
 simp only [Function.comp]
 rw [b]
 have e:z[i % size]?=some ((l.getD (i % size) .hole).den ρ ν):=by
  rw [<-Array.getElem?_toList,c,List.getElem?_map,List.getD_eq_getElem?_getD,List.getElem?_eq_getElem (by omega)]
  rfl
 rw [getElem!_def,e]
theorem af2 (g n:Nat):(⟨g,0,none⟩:Addr).add n=⟨g,n,none⟩:=by
 unfold Addr.add
 split <;> simp_all
theorem Mw {place:Nat->Option (Nat × Nat)}:∀{parts:List (Nat × SW)} {cs b:List SC},ui place cs parts=some b->b.length=cs.length
 | [],cs,b,h=>by simp [ui] at h;subst h;rfl
 | (i,x) :: r,cs,b,h=>by
  unfold ui at h
  split at h
  ·cases h
  ·split at h
   ·rw [Mw h,CQ]
   ·cases h
variable (hT:dI P T) (hg:iU ν gl) (hk:Kn.ok ρ kn) (hf:qI ρ ν fr a) (hh:aD ρ ν hp w)
include hT hg hk hf
theorem UH {t:TypeId} {len:Nat} {parts:Array (Nat × Operand)} (J:o.op=.buildSlice t len parts):Bb P ρ ν w hp a nv o (Dh T gl kn fr hp t len parts):=by
 have V:∀{x v},eQ gl kn fr x=some v->a.eval x=v.den ρ ν:=λN=>nV hg hk hf N
 unfold Dh
 split
 case h_2=>trivial
 rename_i W D
 split
 case h_2=>trivial
 rename_i e O
 split
 case h_2=>trivial
 rename_i f I j c
 split
 case isFalse=>trivial
 rename_i g
 simp only [Bool.and_eq_true,decide_eq_true_eq] at g
 split
 case h_2=>trivial
 rename_i m s
 intro Q _
 obtain ⟨d,hd,G,-⟩:=(hT.ty D).und
 rw [O] at G
 cases d <;> simp [fI] at G
 subst G
 obtain ⟨i,z,M,F,K,E,L,C,-⟩:=(hT.ty j).info
 have B:=qR (ρ:=ρ) (ν:=ν) E
 have hlen:m.length=len * f.size:=by rw [Mw s];simp [zs]
 refine ⟨_,(m.map (·.den ρ ν)).toArray,jl.oJ (hT.ty j).lt,Dw e m _ rfl rfl rfl (λH n y=>?_),rfl,?_⟩
 ·simp only [Option.some.injEq,Prod.mk.injEq] at y
  all_goals grind [IE.den,Int.toNat_natCast,Int.natCast_nonneg]
 have b:(parts.map λ(p:Nat × Operand)=>(p.1,a.eval p.2)).toList=I.map λp=>(p.1,p.2.den ρ ν):=by
  clear s J
  rw [Array.toList_map]
  generalize parts.toList=l at *
  induction l generalizing I with
  | nil=>simp [LZ] at c;subst c;rfl
  | cons p l X =>
   simp only [List.map_cons] at c
   unfold LZ at c
   split at c
   ·rename_i h;cases h
   ·rename_i U R S h
    simp only [List.cons.injEq,Prod.mk.injEq] at h
    all_goals grind [Option.map_eq_some_iff,SV.den]
   ·cases c
 have hf:=Au (ρ:=ρ) (ν:=ν) (place:=λi=>some (i * f.size,f.size)) (Ot:=λi=>some (i * f.size,f.size)) (λk p hk=>hk) s
 have r:(Instr.buildSlice t len (parts.map λ(p:Nat × Operand)=>(p.1,a.eval p.2))).run P w=.ok (.slice (some ⟨w.heap.size,0,none⟩) len len) (w.alloc (.cells (m.map (·.den ρ ν)).toArray e)):=by
  by_cases h:len * f.size=0
  ·have A:zs len f.size f.zero=[]:=by simp [zs,h]
   rw [A] at hf
   have q:Instr.fill (λi=>some (i * f.size,f.size)) #[] (parts.map λ(p:Nat × Operand)=>(p.1,a.eval p.2)).toList=some (m.map (·.den ρ ν)).toArray:=by rw [b];exact hf
   have u:len=0:=(Nat.mul_eq_zero.1 h).resolve_right (by omega)
   subst u
   rw [Array.toList_map] at q
   have H:(Array.map (λ(_:Nat)=>(default:Value)) (Array.range 0))=#[]:=by apply Array.ext';simp
   simp [Instr.buildSlice,run_underlying hd,(hT.ty j).size,H,q,newRow]
  ·exact run_buildSlice (P:=P) w t e len (parts.map λ(p:Nat × Operand)=>(p.1,a.eval p.2)) (m.map (·.den ρ ν)).toArray i z hd M K (by rw [F];omega) (by rw [F];exact h) (by
      rw [F,b,af1 (ρ:=ρ) (ν:=ν) len f.size f.zero z.cells B C g.2]
      exact hf)
 unfold execOp
 simp only [J,Sem.run_bind]
 rw [r]
 simp [SV.den,SW.den,SC.den,SA.den,SA.off,IE.den,Q,Addr.add_zero]
omit hT hg hk hf in
theorem UI {zero:List SC} {g:aU} (h:EY zero g=true):g.z=true/\∀b j,b<g.n2->j<g.ks.length->∃k c,g.ks[j]?=some k/\zero[b * g.s2+g.lo+j]?=some c/\zq k c=true:=by
 unfold EY at h
 simp only [Bool.and_eq_true,List.all_eq_true,List.mem_range] at h
 all_goals grind
omit hT hg hk hf in
theorem FP {k:Kd} {c:SC} (h:zq k c=true) (g:aU) (f:g.z=true) {d e j:Nat} (hk:g.ks[j]?=some k):c.den ρ ν=g.base ρ d e j:=by
 unfold zq at h
 split at h
 ·rename_i a b n
  simp only [Bool.and_eq_true,beq_iff_eq] at h
  all_goals grind [jK,SC.den,IE.den,aU.base]
 all_goals grind [SC.den,BE.den,aU.base]
omit hg hk hf in
theorem ZM {e:TypeId} {b:TI} {n:IE} {bz:List aU} {z:Array Value} (H:z.toList=b.zero.map (·.den ρ ν)) (r:b.zero.length=b.size) (U:0<b.size) (S:0<=n.den ρ)
  (Q:∀g∈bz,EY b.zero {g with n1:=n,s1:=b.size}=true) (y:bz≠[]) (cap:Option (IE × Nat)) (q:cap=some (n,b.size)) :
  SB.has ρ ν {t:=e,bz:=bz.map λg=>{g with n1:=n,s1:=b.size},own:=true,cap:=cap} (madeCells z ((n.den ρ).toNat * b.size)):=by
 have _:=hT
 have L:z.size=b.size:=by rw [<-Array.length_toList,H,List.length_map,r]
 refine ⟨λu N=>(by cases N),λh=>absurd (List.map_eq_nil_iff.1 h) y,λV m D=>?_,λp c hp=>(by simp at hp),λW g hg i f j K J O=>?_⟩
 ·rw [q] at D
  simp only [Option.some.injEq,Prod.mk.injEq] at D
  obtain ⟨rfl,rfl⟩:=D
  exact ⟨S,size_madeCells _ _⟩
 ·simp only [List.getElem?_map,Option.map_eq_some_iff] at hg
  obtain ⟨d,B,rfl⟩:=hg
  have C:=Q d (List.mem_of_getElem? B)
  obtain ⟨E,F⟩:=UI C
  obtain ⟨k,c,A,I,s⟩:=F f j J O
  have x:f * d.s2+d.lo+j<b.size:=by rw [<-r];exact (List.getElem?_eq_some_iff.1 I).1
  simp only [dD]
  rw [<-FP (ρ:=ρ) (ν:=ν) s _ E A]
  have R:i<(n.den ρ).toNat:=by simp only at K;omega
  have l:i * b.size+f * d.s2+d.lo+j<(n.den ρ).toNat * b.size:=by
   have:(i+1) * b.size<=(n.den ρ).toNat * b.size:=Nat.mul_le_mul_right _ R
   rw [Nat.add_mul] at this
   omega
  have G:(i * b.size+f * d.s2+d.lo+j) % b.size=f * d.s2+d.lo+j:=by
   rw [show i * b.size+f * d.s2+d.lo+j=b.size * i+(f * d.s2+d.lo+j) by rw [Nat.mul_comm];omega,Nat.mul_add_mod,Nat.mod_eq_of_lt x]
  have M:z[f * d.s2+d.lo+j]?=some (c.den ρ ν):=by rw [<-Array.getElem?_toList,H,List.getElem?_map,I];rfl
  unfold madeCells
  rw [Array.getElem?_map,Array.getElem?_range,if_pos l]
  all_goals grind
theorem Xc {t:TypeId} {l c:Operand} (J:o.op=.makeSlice t l c):Bb P ρ ν w hp a nv o (GD T gl kn fr hp t l c):=by
 have E:∀{x v},eQ gl kn fr x=some v->a.eval x=v.den ρ ν:=λO=>nV hg hk hf O
 unfold GD
 split
 case h_2=>trivial
 rename_i V s
 split
 case h_2=>trivial
 rename_i e R
 split
 case h_2=>trivial
 rename_i D B n G m j K U
 simp only
 split
 case isFalse=>trivial
 rename_i b
 simp only [Bool.and_eq_true,decide_eq_true_eq,Bool.not_eq_true',List.isEmpty_eq_false_iff,List.all_eq_true,List.mem_map,forall_exists_index,and_imp,forall_apply_eq_imp_iff₂] at b
 obtain ⟨⟨⟨c1,c2⟩,c3⟩,c4⟩:=b
 have A:=IE.aA c1
 subst A
 intro S f
 have k:=of_decide_eq_true (f _ (by simp):BE.den ρ (.ah (.lit 0) n)=true)
 have y:=of_decide_eq_true (f _ (by simp):BE.den ρ (.ah (n.OV (.lit D.bytes)) (.lit 281474976710656))=true)
 have C:=of_decide_eq_true (f _ (by simp):BE.den ρ (.ah n (.lit 9223372036854775807))=true)
 rw [Pk] at y
 simp only [IE.den] at k y C
 obtain ⟨d,hd,g,-⟩:=(hT.ty s).und
 rw [R] at g
 cases d <;> simp [fI] at g
 subst g
 obtain ⟨i,z,N,M,I,u,L,q,r⟩:=(hT.ty j).info
 have p:=qR (ρ:=ρ) (ν:=ν) u
 refine ⟨_,madeCells z.cells ((n.den ρ).toNat * D.size),jl.oJ (hT.ty j).lt,ZM hT p q c2 k c3 (λh=>c4 (by rw [h];rfl)) _ rfl,rfl,?_⟩
 have F:=run_make (P:=P) w t e i z hd N I B G (n.den ρ) (n.den ρ) k (Int.le_refl _) (by rw [r,Int.mul_comm];exact y) C
 rw [M] at F
 have Q:a.eval l=.int B (n.den ρ):=E K
 have H:a.eval c=.int G (n.den ρ):=E U
 unfold execOp
 simp only [J,Q,H,Sem.run_bind]
 rw [F]
 simp [SV.den,SW.den,SC.den,SA.den,SA.off,IE.den,S,Addr.add_zero]
include hh
theorem ZN {t:TypeId} {j x:Operand} (H:o.op=.store t j x):Bb P ρ ν w hp a nv o (KF T gl kn fr hp t j x):=by
 have q:∀{x v},eQ gl kn fr x=some v->a.eval x=v.den ρ ν:=λl=>nV hg hk hf l
 unfold KF
 split
 case h_2=>trivial
 rename_i u y K N l k
 split
 case h_2=>trivial
 rename_i g n
 split
 ·trivial
 rename_i r
 simp only [Bool.or_eq_true,not_or,Bool.not_eq_true,Bool.not_eq_true',Bool.not_eq_false] at r
 obtain ⟨⟨⟨I,d⟩,e⟩,f⟩:=r
 split
 case isFalse=>trivial
 rename_i hlen
 split
 case h_2=>trivial
 rename_i F B i
 intro m
 have hd:g.dead ρ=false:=by grind [SB.Kk,List.mem_append_left]
 obtain ⟨G,arr,b,h⟩:=hh.ak _ _ n hd e
 replace b:=b.cells d
 obtain ⟨Q,z,D,A,s,C,p⟩:=Ji (P:=P) b h i (λc J=>m c (List.mem_append_right _ J))
 have L:a.eval j=.pointer (some ⟨(ν u.ak).block,u.off ρ,none⟩):=by
  rw [q N]
  simp only [SV.den,SW.den,SC.den,SA.den]
  rw [G,af2]
 have E:a.eval x=y.den ρ ν:=q l
 refine ⟨_,z,g,.inl rfl,n,by simpa using f,hd,?_,s,hh.set n hd e s (by rw [p.1,A];exact jl.oJ d) C (p.2.1.trans e)⟩
 have M:(y.den ρ ν).cells.toList=y.cells.map (·.den ρ ν):=by rw [SW.xB]
 have O:(y.den ρ ν).cells.size=K.size:=by rw [SW.xB];simpa using hlen
 unfold execOp
 simp [H,Instr.storeAt,L,E,Instr.sureAddr,storeVar,(hT.ty k).size,O,M,D]
omit hh in
omit hT in
theorem aef {i:Operand} {d:Array Operand} {pW:Array TypeId} (m:o.op=.call {callee:=.value i,args:=d,argTypes:=pW}):Bb P ρ ν w hp a nv o (OX gl kn fr i d):=by
 have q:∀{x v},eQ gl kn fr x=some v->a.eval x=v.den ρ ν:=λr=>nV hg hk hf r
 unfold OX
 split
 case h_2=>trivial
 rename_i g h c f has
 intro fn k z s
 have t:a.eval i=.func (.func g) #[] (h.map λb=>Value.pointer (some (ν b))).toArray:=q f
 have n:d.map a.eval=(c.map (·.den ρ ν)).toArray:=by
  apply Array.ext'
  rw [Array.toList_map]
  generalize d.toList=l at *
  clear m
  induction l generalizing c with
  | nil=>simp [I7] at has;subst has;rfl
  | cons p l C =>
   simp only [List.map_cons] at has
   unfold I7 at has
   split at has
   ·rename_i e;cases e
   ·rename_i y B e
    simp only [List.cons.injEq] at e
    all_goals grind [Option.map_eq_some_iff,SV.den]
   ·cases has
 have u:(h.map λb=>Value.pointer (some (ν b)))=(h.map λb=>(SW.one (.ptr {ak:=b})).den ρ ν):=by
  grind [List.map_congr_left,SW.den,SC.den,SA.den,SA.off,IE.den,Addr.add_zero]
 unfold execOp
 simp only [m,resolve,Deferred.ofValue,t,n,Sem.run_bind,Sem.run_pure,Result.andThen_ok,invoke,callFunc,run_program,k,s,u]
 have j:fn.body.isNone=false:=by cases A:fn.body <;> simp_all
 simp [j,List.map_map,Function.comp]
theorem Po {s x:Operand} {t:TypeId} {args:Array Operand} {pW:Array TypeId} (d:o.op=.call {callee:=.builtin .append,args:=args,argTypes:=pW}) (h:args.toList=[s,x]) (f:pW.toList=[t,t]) {v0 c b:Value} {w':World}
  (i:a.eval s=v0) (k:a.eval x=c) (g:(Builtin.append_ #[t,t] o.type #[v0,c]).run P w=.ok b w'):(execOp a.eval o).run P w=.ok (.value b) w':=by
 have _:=hT;have _:=hg;have _:=hk;have _:=hf;have _:=hh
 unfold execOp
 simp only [d]
 have e:args=#[s,x]:=by rw [<-h]
 have j:pW=#[t,t]:=by rw [<-f]
 subst e j
 simp [resolve,invoke,builtin,k,i,g]
theorem Xd {e t:TypeId} {r:TI} (B:P.underlying t=some (.slice e)) (l:rD P e r) {dst:SV} {s:SA} {m cx:Nat} {b:Option Nat} {v:SV} {sb:SB} {k:Nat} {fs:List QF} {os:List BE}
  (h:wG r e kn nv hp dst s m=.app b v sb k fs os) (i:∀c∈os,c.den ρ=true) {ty:TypeId} :
  ∃u w',(Builtin.append_ #[t,t] ty #[dst.den ρ ν,.slice (some (s.den ρ ν)) m cx]).run P w=.ok u w'/\Jl ρ ν w hp nv b v sb fs u w':=by
 have _:=hT;have _:=hg;have _:=hf
 unfold wG at h
 split at h
 case h_2=>cases h
 rename_i z A
 split at h
 ·cases h
 rename_i x
 split at h
 case h_2=>cases h
 case h_3=>cases h
 rename_i news C n
 split at h
 case h_2=>cases h
 rename_i H G E I D y f
 cases h
 simp only [Bool.or_eq_true,not_or,Bool.not_eq_true] at x
 have hd:z.dead ρ=false:=by grind [SB.Kk,List.mem_append_right,List.mem_append_left]
 obtain ⟨arr,g,q⟩:=hh.cells A hd (λ_=>x.2)
 obtain ⟨hlen,d⟩:=Ao hk g n (λc p=>i c (List.mem_append_left _ p))
 refine ZL hh B l f (λc p=>i c (List.mem_append_right _ (List.mem_append_right _ p))) _ _ λj c F=>?_
 have:=d j c F
 all_goals grind [SA.den,Addr.add_add]
theorem Xe {e:TypeId} {g:TI} {dst:SV} {h:SA} {m:Nat}:(∀b v sb k fs os,wG g e kn nv hp dst h m≠.app b v sb k fs os)->Bb P ρ ν w hp a nv o (wG g e kn nv hp dst h m):=by
 have _:=hT;have _:=hg;have _:=hk;have _:=hf;have _:=hh
 intro c
 unfold wG at c ⊢
 split
 case h_2=>trivial
 rename_i j i
 rw [i] at c
 simp only at c
 split
 ·trivial
 rename_i f
 rw [if_neg f] at c
 split
 ·rename_i news os d
  rw [d] at c
  simp only at c
  split
  ·grind
  ·trivial
 ·trivial
 ·trivial
theorem GL {s x:Operand} {e t:TypeId} {r:TI} {args:Array Operand} {pW:Array TypeId} (W:o.op=.call {callee:=.builtin .append,args:=args,argTypes:=pW}) (V:args.toList=[s,x]) (S:pW.toList=[t,t])
  (I:P.underlying t=some (.slice e)) (m:rD P e r) {dst:SV} (hs:a.eval s=dst.den ρ ν) {c:BE} {E:SA} {n:IE} {f:List BE} {src:Option Addr} {cx:Nat} (hx:a.eval x=.slice src (n.den ρ).toNat cx)
  (H:c.den ρ=false->src=some (E.den ρ ν)) (h:(∀c∈f,c.den ρ=true)->c.den ρ=true->src=none/\n.den ρ=0) (M:src=none->c.den ρ=true):Bb P ρ ν w hp a nv o (AU r e nv hp dst c E n f):=by
 unfold AU
 split
 case h_2=>trivial
 rename_i J g K
 cases d:jy r e nv hp dst n J (f ++ g) with
 | app b v sb k Z U =>
  intro B
  have G:∀z∈f ++ g,z.den ρ=true:=by
   grind [jy,List.mem_cons_of_mem,List.mem_append_right]
  have C:src=none->n.den ρ=0:=by grind
  obtain ⟨-,Y,R,X,q⟩:=UG hh I m d B src cx (ty:=o.type) C (λl p=>by
    obtain ⟨L,q2⟩:=afX (ν:=ν) hh p K (λz y=>l z (List.mem_append_right _ y))
    refine ⟨L,?_⟩
    cases Q:c.den ρ with
    | false =>
      grind
    | true =>
      obtain ⟨O,D⟩:=h (λz y=>l z (List.mem_append_left _ y)) Q
      refine ⟨[],⟨by rw [D];simp,λi j F=>(by rw [D] at F;simp at F)⟩,λA q=>(by rw [O] at q;cases q),λu N=>(by cases N)⟩)
  all_goals grind [Po]
 | val=>unfold jy at d;(split at d;cases d);(split at d;cases d);(split at d <;> cases d)
 | new=>unfold jy at d;(split at d;cases d);(split at d;cases d);(split at d <;> cases d)
 | st=>unfold jy at d;(split at d;cases d);(split at d;cases d);(split at d <;> cases d)
 | call=>unfold jy at d;(split at d;cases d);(split at d;cases d);(split at d <;> cases d)
 | br=>trivial
 | no=>trivial
theorem af4 {args:Array Operand} {pW:Array TypeId} {s x:Operand} {t:TypeId} (J:o.op=.call {callee:=.builtin .append,args:=args,argTypes:=pW}) (I:args.toList=[s,x]) (F:pW.toList=[t,t]) :
  Bb P ρ ν w hp a nv o (Ux T gl nv kn fr hp t s x):=by
 have C:∀{x v},eQ gl kn fr x=some v->a.eval x=v.den ρ ν:=λl=>nV hg hk hf l
 unfold Ux
 split
 case h_2=>trivial
 rename_i X B
 split
 case h_2=>trivial
 rename_i e O
 obtain ⟨d,hd,u,-⟩:=(hT.ty B).und
 rw [O] at u
 cases d <;> simp [fI] at u
 subst u
 split
 case h_2=>trivial
 rename_i A dst z M
 have p:=hT.ty z
 split
 ·rename_i j n cx l
  have i:a.eval x=.slice (some (j.den ρ ν)) (n.den ρ).toNat (cx.den ρ).toNat:=C l
  have g:Bb P ρ ν w hp a nv o (AU A e nv hp dst (.lit false) j n []) :=
   GL hT hg hk hf hh J I F hd p (C M) i (λ_=>rfl) (λ_ h=>by cases h) (λh=>by cases h)
  split
  ·rename_i m N
   simp only
   split
   ·exact g
   ·cases K:wG A e kn nv hp dst j m.toNat with
    | app b v sb k L H =>
     intro r
     have E:(n.den ρ).toNat=m.toNat:=by rw [IE.df N]
     obtain ⟨V,Q,U,S⟩:=Xd hT hg hk hf hh hd p K r (cx:=(cx.den ρ).toNat) (ty:=o.type)
     all_goals grind [Po]
    | _ =>
     grind [Xe]
  ·exact g
 ·rename_i c j n cx l
  have D:a.eval x=SC.den ρ ν (.eu c j n cx):=C l
  cases u:c.den ρ with
  | true =>
   have i:a.eval x=.slice none 0 0:=by rw [D];simp [SC.den,u]
   cases W:(n.den ρ).toNat with
   | zero =>
    grind [GL,Ap]
   | succ q =>
    unfold AU
    split
    case h_2=>trivial
    rename_i G y R
    cases f:jy A e nv hp dst n G ([dP c n] ++ y) with
    | app b v sb k L H =>
     intro r
     all_goals grind [jy,Ap,dP]
    | val=>unfold jy at f;(split at f;cases f);(split at f;cases f);(split at f <;> cases f)
    | new=>unfold jy at f;(split at f;cases f);(split at f;cases f);(split at f <;> cases f)
    | st=>unfold jy at f;(split at f;cases f);(split at f;cases f);(split at f <;> cases f)
    | call=>unfold jy at f;(split at f;cases f);(split at f;cases f);(split at f <;> cases f)
    | br=>trivial
    | no=>trivial
  | false =>
   grind [SC.den,GL]
 ·trivial
omit hT hg hk hf hh in
theorem aeg {b:TI} {g:aU} (h:O0 b=some g) (t:TypeId):SB.has ρ ν {t:=t,bz:=[g],own:=true} (b.zero.map (·.den ρ ν)).toArray:=by
 unfold O0 at h
 split at h
 case h_2=>cases h
 rename_i n e hd
 split at h
 case isFalse=>cases h
 rename_i d
 simp only [Option.some.injEq] at h
 subst h
 simp only [Bool.and_eq_true,decide_eq_true_eq,beq_iff_eq,List.all_eq_true] at d
 obtain ⟨⟨c1,c2⟩,c3⟩:=d
 refine ⟨λu i=>(by cases i),λh=>(by cases h),λs m k=>(by cases k),λp c hp=>(by simp at hp),λf g hg y q j r l x=>?_⟩
 rcases f with _ | f
 ·simp only [List.getElem?_cons_zero,Option.some.injEq] at hg
  all_goals grind [List.length_cons,List.length_nil,IE.den,List.length,List.getElem_mem,List.getElem?_eq_getElem,dD,FP]
 ·simp at hg
theorem Pp:Bb P ρ ν w hp a nv o (Uy T gl nv kn fr hp o):=by
 have A:∀{x v},eQ gl kn fr x=some v->a.eval x=v.den ρ ν:=λC=>nV hg hk hf C
 unfold Uy
 split
 ·rename_i t d
  split
  ·rename_i l b
   split
   ·rename_i g m
    intro f _
    obtain ⟨z,j,q,-⟩:=(hT.ty b).zeroV (w:=w) ρ ν
    have c:z.cells=(l.zero.map (·.den ρ ν)).toArray:=by rw [<-q]
    refine ⟨_,z.cells,jl.oJ (hT.ty b).lt,by rw [c];exact aeg m t,rfl,?_⟩
    unfold execOp
    simp [d,Instr.alloc,j,newVar,newRow,SV.den,SW.den,SC.den,SA.den,SA.off,IE.den,f,Addr.add_zero]
   intro f _
   obtain ⟨z,j,q,-⟩:=(hT.ty b).zeroV (w:=w) ρ ν
   have c:z.cells=(l.zero.map (·.den ρ ν)).toArray:=by rw [<-q]
   refine ⟨_,z.cells,jl.oJ (hT.ty b).lt,by rw [c];exact Dw t l.zero _ rfl rfl rfl (λe n h=>by cases h),rfl,?_⟩
   unfold execOp
   simp [d,Instr.alloc,j,newVar,newRow,SV.den,SW.den,SC.den,SA.den,SA.off,IE.den,f,Addr.add_zero]
  ·trivial
 ·rename_i t x d
  split
  ·rename_i F y r u
   intro f _
   refine ⟨_,(y.den ρ ν).cells,jl.oJ (hT.ty r).lt,by rw [SW.xB];exact Dw t y.cells _ rfl rfl rfl (λe n h=>by cases h),rfl,?_⟩
   have:=A u
   unfold execOp
   simp [d,Instr.box,this,newVar,newRow,SV.den,SW.den,SC.den,SA.den,SA.off,IE.den,f,Addr.add_zero]
  ·trivial
 ·grind [UH]
 ·grind [ZN]
 ·grind [Xc]
 ·rename_i args argTypes d
  split
  ·rename_i s x t D k B
   split
   ·grind [af4]
   ·trivial
  ·trivial
 ·grind [aef]
 ·split
  ·rename_i v E i
   intro p
   exact xC hT hg hk hf hh i p
  ·trivial
  ·trivial
end
end Go.Rex
