/- part 19 of the proof -/
import Derived.Test.YthomdlajobnmnaaDoorQ18
set_option linter.unusedSimpArgs false
set_option linter.unusedVariables false
namespace Go.Proofs.YthomdlajobnmnaaDoor
open Go.Rex
section
variable {n:Nat} {e:Int} {p:PS} {T:Nat→Th} {own:Int→gQ} {A:Nat→Int} {i:Nat} {h h':Th}
theorem Inv.Kg (H:Inv n e p T own A) (hr:(p.bd 0).slot≠0) (hc:Qq e (il e p i) (p.bd 0).slot (p.aX (p.bd 0).slot)):(own (p.bd 0).slot).ry∧p.gen ((p.bd 0).slot-1).toNat=(p.bd 0).gen∧qC e p T A i (p.bd 0).slot:=by
 have hrt:p.rt=some (p.bd 0):=if_neg hr
 obtain ⟨r1,r2,r3,r4,r5⟩:=H.oi.jU (o:=.root) (w:=p.bd 0) hrt
 refine ⟨by rw [r5];exact ⟨by simp,by simp⟩,r4,hc,fun j m hm hs=>?_⟩
 have:=H.oi.one (o:=.note j) (w:=m.ref) ⟨m,hm,rfl⟩ (o':=.root) (w':=p.bd 0) hrt hs
 cases this
theorem Inv.Qv (H:Inv n e p T own A) (hr:(p.bd 0).slot≠0):p.aX (p.bd 0).slot≤p.aB:=by
 have hrt:p.rt=some (p.bd 0):=if_neg hr
 obtain ⟨r1,r2,r3,r4,r5⟩:=H.oi.jU (o:=.root) (w:=p.bd 0) hrt
 exact H.aX _ (by rw [r5];simp)
theorem Inv.covered (H:Inv n e p T own A) (hi:i<n) (hk:¬(T i).dn) (hs:¬(T i).dK) (he:e=3∨e=5) (hr:(p.bd 0).slot≠0) (hc:RT.bY (T i).l 0 p.aB):Qq e (il e p i) (p.bd 0).slot (p.aX (p.bd 0).slot):=by
 have L:=H.loc i hi
 have hb:=H.Qv hr
 have hC:=H.clock.2
 unfold RT.bY at hc
 refine ⟨fun h=>by omega,fun h3=>?_,fun h=>by omega,fun h5=>?_⟩
 ·rw [if_pos (by rw [L.ik];exact h3)] at hc
  have h1:((T i).l.h 0).num=p.aB:=hc.2
  unfold il
  rw [if_pos (.inr h3),L.kc hk]
  omega
 ·rw [if_neg (by rw [L.ik];omega)] at hc
  unfold il
  rw [if_neg (by omega),L.sc hs]
  unfold RS.lQ
  rw [if_pos hc.1]
  refine ⟨rfl,?_⟩
  show _≤(T i).l.s.high
  rw [hc.2]
  exact hb
theorem Inv.Qw (H:Inv n e p T own A) (hi:i<n) {c:Ca} (ht:(T i).t=.fH c):kU n e p T i:=by
 have L:=H.loc i hi
 have hsh:=L.jI
 unfold Th.sh at hsh
 rw [ht] at hsh
 obtain ⟨q,rfl⟩:=hsh
 have hk:¬(T i).dn:=by unfold Th.dn;rw [ht];exact id
 have hs:¬(T i).dK:=by unfold Th.dK;rw [ht];exact id
 have on:e=4∨e=5→(T i).l.s.is=true:=fun h=>L.on h (Th.iN (by omega))
 have P:Plain (T i):=cu (.inr (.inr (.inr (.inr (.inr (.inr (.inr (.inr (.inl ⟨_,ht⟩)))))))))
 refine jK (own':=own) (A':=A) (by rw [ht];rfl) (uV H) ?_
 by_cases hd:(T i).l.aY
 ·have he:=L.aY.1 hd
  have htk:(T i).aJ ⟨p.bd 0,true⟩={T i with t:=.jc (Ca.of 6) (p.bd 0)}:=by
   have:(T i).aJ ⟨p.bd 0,true⟩={T i with l:=(T i).l,t:=.jc (Ca.of 6) (p.bd 0)}:=Th.aW ht (if_pos hd)
   exact this
  rw [htk]
  refine H.calm hi H.iD (by rw [P.hand];rfl) (by rw [P.cut];rfl) rfl (L.go rfl hk hs (fun h _=>on h) (fun h=>absurd (show (T i).pc=0 from h) (by omega)) ⟨q,rfl,he⟩) (fun w hw=>?_) (fun w hw=>(by cases hw)) (fun o b h=>(by cases h)) (fun w hw=>?_) (dX (.inl (by simp only [RT.bg];omega)))
  ·have:some (p.bd 0)=some w:=hw
   cases this
   exact ⟨Int.le_refl _,fun _=>rfl⟩
  ·have hw:(if (p.bd 0).slot≠0∧RT.bY (T i).l 0 p.aB then some (p.bd 0) else none)=some w:=hw
   by_cases g:(p.bd 0).slot≠0∧RT.bY (T i).l 0 p.aB
   ·rw [if_pos g] at hw
    cases hw
    exact H.Kg g.1 (H.covered hi hk hs he g.1 g.2)
   ·rw [if_neg g] at hw;cases hw
 ·have hnd:¬(e=3∨e=5):=fun h=>hd (L.aY.2 h)
  by_cases g:(T i).l.aj=2∧(p.bd 0).slot≠0∧(T i).l.h 0≠(p.bd 0).dz
  ·have he:e=2:=L.ik.symm.trans g.1
   have htk:(T i).aJ ⟨p.bd 0,true⟩={T i with l:=(T i).l.hold 0 (p.bd 0).dz,t:=.eT (Ca.of 6) (Ac.store 0 0 (25+(T i).l.me * 9+0) (p.bd 0).dz)}:=Th.aW ht (by
     show (if (T i).l.aY then _ else if (T i).l.aj=2∧(p.bd 0).slot≠0∧(T i).l.h (0:Int).toNat≠(p.bd 0).dz then _ else _:LR)=_
     rw [if_neg hd,if_pos (show (T i).l.aj=2∧(p.bd 0).slot≠0∧(T i).l.h (0:Int).toNat≠(p.bd 0).dz from g)]
     rfl)
   rw [htk]
   refine H.uW hi H.iD P (cu (.inr (.inr (.inr (.inr (.inr (.inr (.inr (.inr (.inr ⟨_,_,rfl⟩)))))))))) rfl ?_ (dX (.inl (by simp only [RT.bg];omega)))
   refine ⟨L.ik,L.me,L.nK,L.most,fun k hk=>(UH _ _ hk).trans (L.hz k hk),L.kz,fun h=>absurd he h,L.ns,fun h=>by omega,L.s5,L.b5,fun h=>absurd trivial h,fun _=>L.sc hs,fun h=>by omega,fun h=>absurd (show (T i).pc=0 from h) (by omega),⟨q,rfl,.inl ⟨.inl he,?_⟩⟩⟩
   show _=Ac.store 0 0 (25+(T i).l.me * 9+0) (((T i).l.hold 0 (p.bd 0).dz).h 0)
   rw [AA]
  ·have htk:(T i).aJ ⟨p.bd 0,true⟩={T i with t:=.idle ⟨p.bd 0,true⟩}:=by
    have:(T i).aJ ⟨p.bd 0,true⟩={T i with l:=(T i).l,t:=.idle ⟨p.bd 0,true⟩}:=Th.aW ht (by
      show (if (T i).l.aY then _ else if (T i).l.aj=2∧(p.bd 0).slot≠0∧(T i).l.h (0:Int).toNat≠(p.bd 0).dz then _ else _:LR)=_
      rw [if_neg hd,if_neg (show ¬((T i).l.aj=2∧(p.bd 0).slot≠0∧(T i).l.h (0:Int).toNat≠(p.bd 0).dz) from g)])
    exact this
   rw [htk]
   have q':(T i).pc≠4∧(T i).pc≠5∧(T i).pc≠6:=by omega
   refine H.calm hi H.iD ?_ ?_ rfl (L.go rfl hk hs (fun h _=>on h) (fun h=>absurd (show (T i).pc=0 from h) (by omega)) ⟨⟨by show 0≤(T i).pc;omega,by show (T i).pc≤7;omega⟩,fun h=>absurd (show (T i).pc=3 from h) (by omega)⟩) (fun w hw=>?_) (fun w hw=>?_) (fun o b h=>(by cases h)) (fun w hw=>?_) (Calm.idle _)
   ·rw [P.hand];simp [Th.hand,q]
   ·rw [P.cut];simp [Th.cut,q]
   ·have:some (p.bd 0)=some w:=by rw [←hw];simp [Th.snap,q]
    cases this
    exact ⟨Int.le_refl _,fun _=>rfl⟩
   ·simp [Th.full,q] at hw
   ·have hw:(if (T i).pc=2∧(p.bd 0).slot≠0 then some (p.bd 0) else none)=some w:=hw
    by_cases g0:(p.bd 0).slot≠0
    ·rw [if_pos ⟨q,g0⟩] at hw
     cases hw
     refine H.Kg g0 ⟨fun h2=>?_,fun h=>absurd (.inl h) hnd,fun h4=>?_,fun h=>absurd (.inr h) hnd⟩
     ·have hh:(T i).l.h 0=(p.bd 0).dz:=by
       by_cases hh:(T i).l.h 0=(p.bd 0).dz
       ·exact hh
       ·exact absurd ⟨L.ik.trans h2,g0,hh⟩ g
      unfold il
      rw [if_pos (.inl h2),L.kc hk,hh]
      rfl
     ·unfold il
      rw [if_neg (by omega),L.sc hs]
      unfold RS.lQ
      rw [if_pos (on (.inl h4))]
    ·rw [if_neg (fun h=>g0 h.2)] at hw;cases hw
theorem Inv.Ta (H:Inv n e p T own A) (hi:i<n) {c:Ca} {v:Wd} (ht:(T i).t=.jc c v):kU n e p T i:=by
 have L:=H.loc i hi
 have hsh:=L.jI
 unfold Th.sh at hsh
 rw [ht] at hsh
 obtain ⟨q,rfl,he⟩:=hsh
 have hC:=H.clock.2
 have hk:¬(T i).dn:=by unfold Th.dn;rw [ht];exact id
 have hs:¬(T i).dK:=by unfold Th.dK;rw [ht];exact id
 have on:e=4∨e=5→(T i).l.s.is=true:=fun h=>L.on h (Th.iN (by omega))
 have q':(T i).pc≠4∧(T i).pc≠5∧(T i).pc≠6:=by omega
 have hh:(T i).hand=none:=by unfold Th.hand;rw [ht]
 have hct:(T i).cut=none:=by unfold Th.cut;rw [ht]
 refine jK (own':=own) (A':=A) (by rw [ht];rfl) (lS H) ?_
 by_cases hcv:RT.bY (T i).l 0 p.aB
 ·have htk:(T i).aJ ⟨dW p.aB,true⟩={T i with t:=.idle ⟨v,true⟩}:=by
   have:(T i).aJ ⟨dW p.aB,true⟩={T i with l:=(T i).l,t:=.idle ⟨v,true⟩}:=Th.aW ht (if_pos hcv)
   exact this
  rw [htk]
  refine H.calm hi H.iD ?_ ?_ rfl (L.go rfl hk hs (fun h _=>on h) (fun h=>absurd (show (T i).pc=0 from h) (by omega)) ⟨⟨by show 0≤(T i).pc;omega,by show (T i).pc≤7;omega⟩,fun h=>absurd (show (T i).pc=3 from h) (by omega)⟩) (fun w hw=>H.snap i hi w ?_) (fun w hw=>?_) (fun o b h=>(by cases h)) (fun w hw=>H.held i hi w ?_) (Calm.idle _)
  ·rw [hh];simp [Th.hand,q]
  ·rw [hct];simp [Th.cut,q]
  ·unfold Th.snap;rw [ht,←hw];simp [Th.snap,q]
  ·simp [Th.full,q] at hw
  ·have hw:(if (T i).pc=2∧v.slot≠0 then some v else none)=some w:=hw
   unfold Th.cB
   rw [ht,←hw]
   simp [q,hcv]
 ·have P':∀l c a,Plain {T i with l:=l,t:=.eT c a}:=fun l c a=>cu (.inr (.inr (.inr (.inr (.inr (.inr (.inr (.inr (.inr ⟨_,_,rfl⟩)))))))))
  by_cases h3:e=3
  ·have htk:(T i).aJ ⟨dW p.aB,true⟩={T i with l:=(T i).l.hold 0 (Wd.dI p.aB),t:=.eT (Ca.of 6) (Ac.store 0 0 (25+(T i).l.me * 9+0) (Wd.dI p.aB))}:=Th.aW ht (by
      show (if RT.bY (T i).l 0 p.aB then _ else if (T i).l.aj=3 then _ else _:LR)=_
      rw [if_neg hcv,if_pos (L.ik.trans h3)]
      rfl)
   rw [htk]
   refine H.calm hi H.iD (by rw [hh];rfl) (by rw [hct];rfl) rfl ?_ (fun w hw=>(by cases hw)) (fun w hw=>(by cases hw)) (fun o b h=>(by cases h)) (fun w hw=>(by cases hw)) (dX (.inl (by simp only [RT.bg];omega)))
   refine ⟨L.ik,L.me,L.nK,L.most,fun k hk=>(UH _ _ hk).trans (L.hz k hk),L.kz,fun _ h=>absurd h3 h,L.ns,fun h=>⟨?_,(L.h3 h).2⟩,L.s5,L.b5,fun h=>absurd trivial h,fun _=>L.sc hs,fun h=>by omega,fun h=>absurd (show (T i).pc=0 from h) (by omega),⟨q,rfl,.inl ⟨.inr h3,?_⟩⟩⟩
   ·rw [AA]
    show p.aB≤_
    exact Int.le_refl _
   ·show _=Ac.store 0 0 (25+(T i).l.me * 9+0) (((T i).l.hold 0 (Wd.dI p.aB)).h 0)
    rw [AA]
  ·have h5:e=5:=by omega
   have his:=on (.inr h5)
   obtain ⟨a,b,hsp,hab,hbc⟩:∃a b,(T i).l.s=⟨true,a,b⟩∧a≤b∧b≤p.aB:=by
    rcases L.s5 with h | h
    ·rw [h] at his;cases his
    ·exact h
   have htk:(T i).aJ ⟨dW p.aB,true⟩={T i with l:={(T i).l with s:=⟨true,a,p.aB⟩},t:=.eT (Ca.of 6) (RT.fT (T i).l ⟨true,a,p.aB⟩)}:=Th.aW ht (by
     show (if RT.bY (T i).l 0 p.aB then _ else if (T i).l.aj=3 then _ else ({(T i).l with s:=⟨true,if (T i).l.s.is=true then (T i).l.s.low else p.aB,p.aB⟩},RT.eT (Ca.of 6) (RT.fT (T i).l ⟨true,if (T i).l.s.is=true then (T i).l.s.low else p.aB,p.aB⟩)):LR)=_
     rw [if_neg hcv,if_neg (by rw [L.ik];exact h3),hsp]
     simp)
   rw [htk]
   refine H.calm hi H.iD (by rw [hh];rfl) (by rw [hct];rfl) rfl ?_ (fun w hw=>(by cases hw)) (fun w hw=>(by cases hw)) (fun o b h=>(by cases h)) (fun w hw=>(by cases hw)) (dX (.inl (by simp only [RT.bg];omega)))
   exact ⟨L.ik,L.me,L.nK,L.most,L.hz,L.kz,L.nk,fun _ h=>absurd h5 h,L.h3,.inr ⟨a,p.aB,rfl,by omega,Int.le_refl _⟩,L.b5,fun h=>absurd trivial h,fun h=>absurd trivial h,fun _ _=>rfl,fun h=>absurd (show (T i).pc=0 from h) (by omega),⟨q,rfl,.inr ⟨h5,rfl⟩⟩⟩
theorem Inv.Tc (H:Inv n e p T own A) (hi:i<n) {ck:Wd} (ht:(T i).t=.jP ck):kU n e p T i:=by
 have L:=H.loc i hi
 have hsh:=L.jI
 unfold Th.sh at hsh
 rw [ht] at hsh
 obtain ⟨q,he,c,hc,rfl⟩:=hsh
 have hk:¬(T i).dn:=by unfold Th.dn;rw [ht];exact id
 have hs:¬(T i).dK:=by unfold Th.dK;rw [ht];exact id
 obtain ⟨t,n1,n2,n3,n4⟩:=Kb (h0:=T i) (l1:=(T i).l) q
 have n1':(T i).with (RT.cK (T i).l)={T i with t:=t}:=n1
 refine H.LX hi (by rw [ht];rfl) (cu (.inr (.inr (.inr (.inr (.inr (.inl ⟨_,ht⟩))))))) (fun x=>?_) n3 n4 ?_ (fun h=>by omega)
 ·rw [←n1']
  unfold Th.aJ
  rw [ht]
  rfl
 ·refine L.go rfl hk hs (fun h _=>L.on h (Th.iN (by omega))) (fun h=>absurd (show (T i).pc=0 from h) (by omega)) ?_
  have jQ:=L.ik
  unfold Th.sh
  rcases n2 with n2 | ⟨n2,n5⟩ | ⟨n2,n5,n6⟩
  ·rw [n2];exact ⟨⟨by show 0≤(T i).pc;omega,by show (T i).pc≤7;omega⟩,fun h=>absurd (show (T i).pc=3 from h) (by omega)⟩
  ·rw [n5];exact ⟨.inr q,by omega⟩
  ·rw [n6];exact ⟨.inr q,by omega,L.nG H.n6,fun h=>by omega⟩
theorem Inv.Td (H:Inv n e p T own A) (hi:i<n) (ht:(T i).t=.iT):kU n e p T i:=by
 have L:=H.loc i hi
 have hsh:=L.jI
 unfold Th.sh at hsh
 rw [ht] at hsh
 obtain ⟨q,he⟩:=hsh
 have hk:¬(T i).dn:=by unfold Th.dn;rw [ht];exact id
 have hs:¬(T i).dK:=by unfold Th.dK;rw [ht];exact id
 have htk:(T i).aJ ⟨dW p.aB,true⟩={T i with t:=.bL (dW p.aB) []}:=by
  have:(T i).aJ ⟨dW p.aB,true⟩={T i with l:=(T i).l,t:=.bL (dW p.aB) []}:=Th.aW ht rfl
  exact this
 refine jK (own':=own) (A':=A) (by rw [ht];rfl) (lS H) ?_
 rw [htk]
 refine H.uW hi H.iD (cu (.inl ht)) (cu (.inr (.inl ⟨_,_,rfl⟩))) rfl (L.go rfl hk hs (fun h hb=>?_) L.off ⟨q,by omega,L.nG H.n6,fun _=>⟨p.aB,Int.le_refl _,rfl⟩⟩) (Calm.new _)
 have hb:2≤(T i).pc:=hb
 exact L.on h (Th.iN hb)
theorem Inv.Te (H:Inv n e p T own A) (hi:i<n) {ck:Wd} (ht:(T i).t=.iC ck):kU n e p T i:=by
 have L:=H.loc i hi
 have hsh:=L.jI
 unfold Th.sh at hsh
 rw [ht] at hsh
 obtain ⟨q,he,c,hc,rfl⟩:=hsh
 have hk:¬(T i).dn:=by unfold Th.dn;rw [ht];exact id
 have hs:¬(T i).dK:=by unfold Th.dK;rw [ht];exact id
 refine H.LX hi (t:=.dN) (by rw [ht];rfl) (cu (.inr (.inr (.inl ⟨_,ht⟩)))) (fun x=>?_) (cu (.inr (.inr (.inr (.inl rfl))))) (dX (.inr rfl)) (L.go rfl hk hs (fun h hb=>?_) L.off ⟨q,he⟩) (fun _=>ht)
 ·have:(T i).aJ x={T i with l:=(T i).l,t:=.dN}:=Th.aW ht rfl
  exact this
 ·have hb:2≤(T i).pc:=hb
  exact L.on h (Th.iN hb)
theorem Inv.Qx (H:Inv n e p T own A) (hi:i<n) {d:Nt} {r:List Nt} (ht:(T i).t=.bV d r):kU n e p T i:=by
 have L:=H.loc i hi
 have hsh:=L.jI
 unfold Th.sh at hsh
 rw [ht] at hsh
 obtain ⟨q,he,hsub,hnd⟩:=hsh
 have hk:¬(T i).dn:=by unfold Th.dn;rw [ht];exact id
 have hs:¬(T i).dK:=by unfold Th.dK;rw [ht];exact id
 have hd:d∈(T i).l.notes:=hsub d (List.mem_cons_self ..)
 have hnn:=lG (H.oi.pM i)
 obtain ⟨m1,m2,m3,m4,m5⟩:=H.CB (o:=.note i) (w:=d.ref) ⟨d,hd,rfl⟩
 have hal:p.act ⟨5,0,0,0,d.ref,Wd.zero⟩=(PS.free {p with steps:=p.steps+1} d.ref.slot,some ⟨Wd.zero,true⟩):=xX m3 m4
 have hok:=H.uU ⟨5,0,0,0,d.ref,Wd.zero⟩
 rw [hal] at hok
 have on:∀t,({T i with l:={(T i).l with notes:=(T i).l.notes.erase d,freed:=(T i).l.freed+1},t:=t}:Th).busy→e=4∨e=5→(T i).l.s.is=true:=fun t hb h=>by
  refine L.on h ?_
  unfold Th.busy at hb ⊢
  rw [ht]
  rcases q with q | q
  ·cases t <;> simp only at hb <;> omega
  ·show 2≤(T i).pc
   omega
 have hkey:∃t,(T i).aJ ⟨Wd.zero,true⟩={T i with l:={(T i).l with notes:=(T i).l.notes.erase d,freed:=(T i).l.freed+1},t:=t}∧((r=[]∧∃x,t=.idle x)∨∃d' r',r=d' :: r'∧t=.bV d' r')∧Plain {T i with l:={(T i).l with notes:=(T i).l.notes.erase d,freed:=(T i).l.freed+1},t:=t} ∧
   ({T i with l:={(T i).l with notes:=(T i).l.notes.erase d,freed:=(T i).l.freed+1},t:=t}:Th).sh e p.aB:=by
  cases r with
  | nil=>exact ⟨.idle Rp.yes,Th.aW ht rfl,.inl ⟨rfl,_,rfl⟩,kF (h:={T i with l:=_,t:=.idle Rp.yes}) rfl (by rcases q with q | q;exact .inl q;exact .inr (.inr q)),⟨⟨by show 0≤(T i).pc;omega,by show (T i).pc≤7;omega⟩,fun h=>absurd (show (T i).pc=3 from h) (by omega)⟩⟩
  | cons d' r' =>
   refine ⟨.bV d' r',Th.aW ht rfl,.inr ⟨_,_,rfl,rfl⟩,cu (.inr (.inr (.inr (.inr (.inl ⟨_,_,rfl⟩))))),⟨q,he,fun x hx=>?_,(List.nodup_cons.1 hnd).2⟩⟩
   show x∈(T i).l.notes.erase d
   rw [hnn.mem_erase_iff]
   exact ⟨fun hxd=>(List.nodup_cons.1 hnd).1 (by rw [←hxd];exact hx),hsub x (List.mem_cons_of_mem _ hx)⟩
 obtain ⟨t,htk,h4,hP,hst⟩:=hkey
 have hr:=H.eY (h':=(T i).aJ ⟨Wd.zero,true⟩) hi (k:=p.steps+1) (nf:=p.nf+1) (fr:=fun j=>if j=p.nf.toNat then d.ref.slot else p.fr j) hok ht hd (by rw [htk];exact hP.hand) (by rw [htk];exact hP.cut) (by rw [htk])
  (by rw [htk];exact L.goN ⟨rfl,rfl,rfl,rfl,rfl,rfl⟩ hk hs (fun h hb=>on t hb h) L.off hst) (by rw [htk];exact hP.snap) (by rw [htk];exact hP.full) (by rw [htk];exact hP.vG) (by rw [htk];exact hP.cB) (by rw [htk];exact h4)
 obtain ⟨own',hI⟩:=hr
 exact ⟨_,_,own',A,by rw [ht];exact hal,hI⟩
end
end Go.Proofs.YthomdlajobnmnaaDoor
namespace Go.Proofs.YthomdlajobnmnaaDoor
open Go.Rex
section
variable {n:Nat} {e:Int} {p:PS} {T:Nat→Th} {own:Int→gQ} {A:Nat→Int} {i:Nat} {h h':Th}
theorem VN {l:Lo} {ck:Wd} {seen:List Wd} {m:Nt} {w:Wd} {A:Int} (hl:l.aj=e) (he:e=2∨e=3∨e=5) (hw:w∈seen) (hk:Kp e w A m):RT.kept l ck seen m=true:=by
 unfold RT.kept
 rcases he with h | h | h
 ·rw [if_pos (hl.trans h),List.any_eq_true]
  exact ⟨w,hw,by unfold RS.ow;rw [hk.k2 h];exact beq_self_eq_true _⟩
 ·rw [if_neg (by omega),if_pos (hl.trans h),List.any_eq_true]
  exact ⟨w,hw,by unfold RS.qy;exact decide_eq_true (hk.k3 h)⟩
 ·rw [if_neg (by omega),if_neg (by omega),if_pos (hl.trans h),List.any_eq_true]
  obtain ⟨k1,k2,k3⟩:=hk.k5 h
  refine ⟨w,hw,?_⟩
  unfold RS.oz RS.gN
  rw [if_pos k1]
  simp only [Bool.true_and]
  exact decide_eq_true ⟨k2,k3⟩
theorem lT {l:Lo} {ck:Wd} {seen:List Wd}:(RT.dQ l ck seen=(l,.idle Rp.yes)∧∀m∈l.notes,RT.kept l ck seen m=true)∨∃d r,RT.dQ l ck seen=(l,.bV d r)∧d :: r=l.notes.filter fun m=>!RT.kept l ck seen m:=by
 unfold RT.dQ
 cases hf:l.notes.filter fun m=>!RT.kept l ck seen m with
 | nil =>
  refine .inl ⟨rfl,fun m hm=>?_⟩
  have:=List.filter_eq_nil_iff.1 hf m hm
  simpa using this
 | cons d r=>exact .inr ⟨d,r,rfl,rfl⟩
theorem Inv.dQ (H:Inv n e p T own A) (hi:i<n) {k:Int} (hok:({p with steps:=k}:PS).OK) {ck:Wd} {seen:List Wd} (P:Plain (T i)) (hk:¬(T i).dn) (hs:¬(T i).dK) (q:(T i).pc=0∨(T i).pc=7) (he:e≠1)
  (htk:h'=(T i).with (RT.dQ (T i).l ck seen)) (hbz:(T i).pc=7→(T i).busy)
  (hK:∀j,j<n→∀s,Qq e (il e p j) s (p.aX s)→NK e (il e p j) (A j) (jF e j) (T i) s→∀m∈(T i).l.notes,m.ref.slot=s→RT.kept (T i).l ck seen m=true):Inv n e {p with steps:=k} (bK T i h') own A:=by
 have L:=H.loc i hi
 have hnn:=lG (H.oi.pM i)
 have key:∃t,h'={T i with t:=t}∧Plain h'∧h'.sh e p.aB∧((∃x,t=.idle x)∨∃d r,t=.bV d r∧∀m∈d :: r,¬RT.kept (T i).l ck seen m=true):=by
  rcases lT (l:=(T i).l) (ck:=ck) (seen:=seen) with ⟨g,_⟩ | ⟨d,r,g,hf⟩
  ·rw [g] at htk
   refine ⟨.idle Rp.yes,htk,?_,?_,.inl ⟨_,rfl⟩⟩
   ·rw [htk]
    exact kF (h:=(T i).with ((T i).l,.idle Rp.yes)) rfl (by rcases q with q | q;exact .inl q;exact .inr (.inr q))
   ·rw [htk]
    exact ⟨⟨by show 0≤(T i).pc;omega,by show (T i).pc≤7;omega⟩,fun h=>absurd (show (T i).pc=3 from h) (by omega)⟩
  ·rw [g] at htk
   refine ⟨.bV d r,htk,?_,?_,.inr ⟨d,r,rfl,fun m hm=>?_⟩⟩
   ·rw [htk]
    exact cu (.inr (.inr (.inr (.inr (.inl ⟨_,_,rfl⟩)))))
   ·rw [htk]
    refine ⟨q,he,fun m hm=>?_,?_⟩
    ·rw [hf] at hm
     exact (List.mem_filter.1 hm).1
    ·rw [hf]
     exact hnn.sublist (List.filter_sublist ..)
   ·rw [hf] at hm
    have:=(List.mem_filter.1 hm).2
    simpa using this
 obtain ⟨t,h1,hP,hsh,hcase⟩:=key
 refine H.stay hi hok (hP.hand.trans P.hand.symm) (hP.cut.trans P.cut.symm) (by rw [h1]) (L.go (by rw [h1]) hk hs (fun h hb=>?_) (by rw [h1];exact L.off) hsh) (fun w hw=>by rw [hP.snap] at hw;cases hw) (fun w hw=>by rw [hP.full] at hw;cases hw) (fun o b h=>absurd h (hP.vG o b)) (fun w hw=>by rw [hP.cB] at hw;cases hw) ?_ ?_
 ·refine L.on h ?_
  rcases q with q | q
  ·rw [h1] at hb
   unfold Th.busy at hb
   cases t <;> simp only at hb <;> omega
  ·exact hbz q
 ·intro j hj s Kh hn m hm hms
  rw [h1] at hm ⊢
  refine ⟨(hn m hm hms).1,fun d r ht=>?_,fun Bf seen' ht=>?_⟩
  ·rcases hcase with ⟨x,hx⟩ | ⟨d',r',hx,hno⟩
   ·rw [hx] at ht;cases ht
   ·rw [hx] at ht
    cases ht
    have:=hK j hj s Kh hn m hm hms
    exact ⟨fun h=>hno m (by rw [h];exact List.mem_cons_self ..) this,fun h=>hno m (List.mem_cons_of_mem _ h) this⟩
  ·rcases hcase with ⟨x,hx⟩ | ⟨d',r',hx,hno⟩
   ·rw [hx] at ht;cases ht
   ·rw [hx] at ht;cases ht
 ·intro _ j hj _ _ _
  rw [h1]
  rcases hcase with ⟨x,hx⟩ | ⟨d',r',hx,hno⟩
  ·exact ⟨fun Bf seen' ht=>(by rw [hx] at ht;cases ht),fun Bf ht=>(by rw [hx] at ht;cases ht)⟩
  ·exact ⟨fun Bf seen' ht=>(by rw [hx] at ht;cases ht),fun Bf ht=>(by rw [hx] at ht;cases ht)⟩
theorem FB {α:Type} {l:List α} {x y:α} {k:Nat} (h:(l ++ [x])[k]?=some y):l[k]?=some y∨(k=l.length∧y=x):=by
 rcases Nat.lt_trichotomy k l.length with h1 | h1 | h1
 ·rw [List.getElem?_append_left h1] at h
  exact .inl h
 ·rw [h1] at h
  simp at h
  exact .inr ⟨h1,h.symm⟩
 ·rw [List.getElem?_append_right (by omega)] at h
  rw [List.getElem?_eq_none (by simp;omega)] at h
  cases h
theorem Ep {α:Type} {l:List α} {x:α} {k:Nat} (h:k<l.length+1):∃y,(l ++ [x])[k]?=some y∧y∈l ++ [x]:=by
 have hk:k<(l ++ [x]).length:=by simp;omega
 exact ⟨(l ++ [x])[k],List.getElem?_eq_getElem hk,List.getElem_mem hk⟩
theorem Inv.Qy (H:Inv n e p T own A) (hi:i<n) {ck:Wd} {seen:List Wd} (ht:(T i).t=.bL ck seen):kU n e p T i:=by
 have L:=H.loc i hi
 have hsh:=L.jI
 unfold Th.sh at hsh
 rw [ht] at hsh
 obtain ⟨q,he,hlen,hck⟩:=hsh
 have h6:=H.n6
 have h5:=H.e5
 have hk:¬(T i).dn:=by unfold Th.dn;rw [ht];exact id
 have hs:¬(T i).dK:=by unfold Th.dK;rw [ht];exact id
 have P:Plain (T i):=cu (.inr (.inl ⟨_,_,ht⟩))
 have hbz:(T i).pc=7→(T i).busy:=fun h=>Th.iN (by omega)
 have hpos:∃b:Nat,(T i).l.base+seen.length=(b:Int)∧b<85∧∀j,j<n→(jF e j=seen.length→p.bd b=il e p j)∧(jF e j:Int)<(T i).l.all:=by
  have Tf:=L.nK
  unfold Lo.base Lo.all at *
  by_cases g:(T i).l.aZ
  ·rw [if_pos g] at hlen ⊢
   rw [if_pos g]
   refine ⟨25+seen.length,by omega,by omega,fun j hj=>?_⟩
   unfold jF il
   rw [if_pos (L.aZ.1 g),if_pos (L.aZ.1 g)]
   exact ⟨fun h=>by rw [h],by omega⟩
  ·rw [if_neg g] at hlen ⊢
   rw [if_neg g]
   have g':¬(e=2∨e=3):=fun h=>g (L.aZ.2 h)
   refine ⟨79+seen.length,by omega,by omega,fun j hj=>?_⟩
   unfold jF il
   rw [if_neg g',if_neg g']
   exact ⟨fun h=>by rw [h],by omega⟩
 obtain ⟨b,hb1,hb2,hb3⟩:=hpos
 have hal:p.act (Ac.load 0 0 ((T i).l.base+seen.length))=({p with steps:=p.steps+1},some ⟨p.bd b,true⟩):=by
  rw [hb1]
  have:=qD (p:=p) (s:=0) (g:=0) (f:=(b:Int)) (o:=Wd.zero) (w:=Wd.zero) (H.Cz (by omega) (by omega)) Inv.xY
  rw [qE,Int.toNat_natCast] at this
  exact this
 refine jK (own':=own) (A':=A) (by rw [ht];rfl) hal ?_
 have Zg:∀j,j<n→∀s,NK e (il e p j) (A j) (jF e j) (T i) s→∀m∈(T i).l.notes,m.ref.slot=s→e≠4→∀y,(seen ++ [p.bd b])[jF e j]?=some y→Kp e y (A j) m:=by
  intro j hj s hn m hm hms h4 y hy
  obtain ⟨k1,k2,k3⟩:=hn m hm hms
  rcases FB hy with hy | ⟨hy1,hy2⟩
  ·exact k3 ck seen ht h4 y hy
  ·rw [hy2,(hb3 j hj).1 hy1];exact k1
 by_cases g:(seen.length:Int)+1<(T i).l.all
 ·have htk:(T i).aJ ⟨p.bd b,true⟩={T i with t:=.bL ck (seen ++ [p.bd b])}:=by
   have:(T i).aJ ⟨p.bd b,true⟩={T i with l:=(T i).l,t:=.bL ck (seen ++ [p.bd b])}:=Th.aW ht (if_pos g)
   exact this
  rw [htk]
  have P':Plain {T i with t:=.bL ck (seen ++ [p.bd b])}:=cu (.inr (.inl ⟨_,_,rfl⟩))
  refine H.stay hi H.iD (P'.hand.trans P.hand.symm) (P'.cut.trans P.cut.symm) rfl (L.go rfl hk hs (fun h hb=>?_) L.off ⟨q,he,?_,hck⟩) (fun w hw=>by rw [P'.snap] at hw;cases hw) (fun w hw=>by rw [P'.full] at hw;cases hw) (fun o b h=>absurd h (P'.vG o b)) (fun w hw=>by rw [P'.cB] at hw;cases hw) ?_ ?_
  ·have hb:2≤(T i).pc:=hb
   exact L.on h (Th.iN hb)
  ·simp only [List.length_append,List.length_singleton]
   show ((seen.length+1:Nat):Int)<(T i).l.all
   omega
  ·intro j hj s Kh hn m hm hms
   refine ⟨(hn m hm hms).1,fun d r h=>(by cases h),fun Bf seen' h h4 y hy=>?_⟩
   cases h
   exact Zg j hj s hn m hm hms h4 y hy
  ·intro e4 j hj hmk hc hlt
   refine ⟨fun Bf seen' h hcn y hy=>?_,fun Bf h=>(by cases h)⟩
   cases h
   rcases FB hy with hy | ⟨hy1,hy2⟩
   ·exact hlt.1 ck seen ht hcn y hy
   ·have hap:jF e j=seen.length:=by unfold jF;rw [if_neg (by omega)];exact hy1
    have:=(hb3 j hj).1 hap
    unfold il at this
    rw [if_neg (by omega)] at this
    rw [hy2,this]
    have:=(H.ep e4 j hj hmk).1
    exact ⟨hmk,by omega⟩
 ·by_cases g4:e=4
  ·have jQ:(T i).l.aj=4:=L.ik.trans g4
   by_cases gm:RS.may ck.num ((seen ++ [p.bd b]).map RS.gN)=true
   ·have htk:(T i).aJ ⟨p.bd b,true⟩={T i with t:=.iC ck}:=by
     have:(T i).aJ ⟨p.bd b,true⟩={T i with l:=(T i).l,t:=.iC ck}:=Th.aW ht (by
       show (if (seen.length:Int)+1<(T i).l.all then _ else if (T i).l.aj≠4 then _ else if RS.may ck.num ((seen ++ [p.bd b]).map RS.gN)=true then _ else _:LR)=_
       rw [if_neg g,if_neg (fun h=>h jQ),if_pos gm])
     exact this
    rw [htk]
    have P':Plain {T i with t:=.iC ck}:=cu (.inr (.inr (.inl ⟨_,rfl⟩)))
    refine H.stay hi H.iD (P'.hand.trans P.hand.symm) (P'.cut.trans P.cut.symm) rfl (L.go rfl hk hs (fun h hb=>?_) L.off ⟨q,g4,hck g4⟩) (fun w hw=>by rw [P'.snap] at hw;cases hw) (fun w hw=>by rw [P'.full] at hw;cases hw) (fun o b h=>absurd h (P'.vG o b)) (fun w hw=>by rw [P'.cB] at hw;cases hw) ?_ ?_
    ·have hb:2≤(T i).pc:=hb
     exact L.on h (Th.iN hb)
    ·exact fun j hj s _ hn m hm hms=>⟨(hn m hm hms).1,fun d r h=>(by cases h),fun Bf seen' h=>(by cases h)⟩
    ·intro _ j hj hmk hc hlt
     refine ⟨fun Bf seen' h=>(by cases h),fun Bf h hcn=>?_⟩
     cases h
     have hap:jF e j=j:=by unfold jF;rw [if_neg (by omega)]
     have hlt2:=(hb3 j hj).2
     rw [hap] at hlt2
     obtain ⟨y,hy,hym⟩:=Ep (l:=seen) (x:=p.bd b) (k:=j) (by omega)
     have Zh:y.mark=true∧y.num≠p.aB:=by
      rcases FB hy with hy | ⟨hy1,hy2⟩
      ·exact hlt.1 ck seen ht hcn y hy
      ·have:=(hb3 j hj).1 (hap.trans hy1)
       unfold il at this
       rw [if_neg (by omega)] at this
       rw [hy2,this]
       have:=(H.ep g4 j hj hmk).1
       exact ⟨hmk,by omega⟩
     unfold RS.may at gm
     have:=List.all_eq_true.1 gm (RS.gN y) (List.mem_map.2 ⟨y,hym,rfl⟩)
     unfold RS.gN at this
     rw [if_pos Zh.1] at this
     simp only [Bool.true_and,Bool.not_eq_true',bne_eq_false_iff_eq] at this
     exact Zh.2 (this.trans hcn)
   ·have htk:(T i).aJ ⟨p.bd b,true⟩={T i with t:=.dN}:=by
     have:(T i).aJ ⟨p.bd b,true⟩={T i with l:=(T i).l,t:=.dN}:=Th.aW ht (by
       show (if (seen.length:Int)+1<(T i).l.all then _ else if (T i).l.aj≠4 then _ else if RS.may ck.num ((seen ++ [p.bd b]).map RS.gN)=true then _ else _:LR)=_
       rw [if_neg g,if_neg (fun h=>h jQ),if_neg gm])
     exact this
    rw [htk]
    refine H.uW hi H.iD P (cu (.inr (.inr (.inr (.inl rfl))))) rfl (L.go rfl hk hs (fun h hb=>?_) L.off ⟨q,g4⟩) (dX (.inr rfl))
    have hb:2≤(T i).pc:=hb
    exact L.on h (Th.iN hb)
  ·have htk:(T i).aJ ⟨p.bd b,true⟩=(T i).with (RT.dQ (T i).l ck (seen ++ [p.bd b])):=by
    unfold Th.aJ
    rw [ht]
    show (T i).with (if (seen.length:Int)+1<(T i).l.all then _ else if (T i).l.aj≠4 then _ else _:LR)=_
    rw [if_neg g,if_pos (by rw [L.ik];exact g4)]
   refine H.dQ hi H.iD P hk hs q he htk hbz fun j hj s Kh hn m hm hms=>?_
   have hlt2:=(hb3 j hj).2
   obtain ⟨y,hy,hym⟩:=Ep (l:=seen) (x:=p.bd b) (k:=jF e j) (by omega)
   have he':e=2∨e=3∨e=5:=by clear hck;omega
   exact VN L.ik he' hym (Zg j hj s hn m hm hms g4 y hy)
theorem Inv.NT (H:Inv n e p T own A) (hi:i<n) (ht:(T i).t=.dN):kU n e p T i:=by
 have L:=H.loc i hi
 have hsh:=L.jI
 unfold Th.sh at hsh
 rw [ht] at hsh
 obtain ⟨q,he⟩:=hsh
 have hk:¬(T i).dn:=by unfold Th.dn;rw [ht];exact id
 have hs:¬(T i).dK:=by unfold Th.dK;rw [ht];exact id
 have P:Plain (T i):=cu (.inr (.inr (.inr (.inl ht))))
 refine jK (own':=own) (A':=A) (by rw [ht];rfl) (lS H) ?_
 have htk:(T i).aJ ⟨dW p.aB,true⟩=(T i).with (RT.dQ (T i).l (dW p.aB) []):=by
  unfold Th.aJ
  rw [ht]
  rfl
 refine H.dQ hi H.iD P hk hs q (by omega) htk (fun h=>Th.iN (by omega)) fun j hj s Kh hn m hm hms=>?_
 unfold RT.kept
 rw [if_neg (by rw [L.ik];omega),if_neg (by rw [L.ik];omega),if_neg (by rw [L.ik];omega)]
 have h1:=(hn m hm hms).1.k4 he
 have h2:=Kh.k4 he
 unfold il at h2
 rw [if_neg (by omega)] at h2
 have h3:=(H.ep he j hj h2).1
 unfold RS.mM
 refine decide_eq_true (.inr ?_)
 show m.dm > p.aB-2
 omega
theorem Inv.acc (H:Inv n e p T own A) (hi:i<n) (hb:(T i).t.bg≠0):kU n e p T i:=by
 cases ht:(T i).t with
 | idle x=>rw [ht] at hb;exact absurd rfl hb
 | one a=>exact H.VL hi ht
 | fin a=>exact H.VM hi ht
 | nN=>exact H.SS hi ht
 | jg k=>exact H.Qt hi ht
 | fH c=>exact H.Qw hi ht
 | jc c w=>exact H.Ta hi ht
 | eT c a=>exact H.SX hi ht
 | nO=>exact H.SY hi ht
 | jk o=>exact H.NS hi ht
 | dR o b=>exact H.S9 hi ht
 | jP c=>exact H.Tc hi ht
 | iT=>exact H.Td hi ht
 | bL c s=>exact H.Qy hi ht
 | iC c=>exact H.Te hi ht
 | dN=>exact H.NT hi ht
 | bV d r=>exact H.Qx hi ht
end
end Go.Proofs.YthomdlajobnmnaaDoor
namespace Go.Proofs.YthomdlajobnmnaaDoor
open Go.Rex
section
variable {n:Nat} {e:Int} {p:PS} {T:Nat→Th} {own:Int→gQ} {A:Nat→Int} {i:Nat} {h h':Th}
theorem FC {α:Type} (f:Nat→α) (i:Nat) (x y:α):bK (bK f i x) i y=bK f i y:=by
 funext k
 by_cases hk:k=i
 ·rw [hk,aK,aK]
 ·rw [bD _ _ hk,bD _ _ hk,bD _ _ hk]
theorem rz {α:Type} (f:Nat→α) (i:Nat):bK f i (f i)=f:=by
 funext k
 by_cases hk:k=i
 ·rw [hk,aK]
 ·rw [bD _ _ hk]
def Th.rk (h:Th):Nat :=
 match h.t with
 | .idle _=>if h.pc=0 then 2 else if h.pc=4∨h.pc=7 then 3 else if h.pc=6 then 4 else 1
 | _=>0
theorem UI (h:Th):h.rk≤4:=by
 unfold Th.rk
 split
 ·repeat' first
   | (split)
   | omega
 ·omega
theorem XW (h0:h.pc=0):h.rk≤2:=by
 unfold Th.rk
 split
 ·rw [if_pos h0];omega
 ·omega
theorem ZQ (h0:h.pc=1):h.rk≤1:=by
 unfold Th.rk
 split
 ·rw [if_neg (by omega),if_neg (by omega),if_neg (by omega)];omega
 ·omega
theorem ZR (h0:h.pc=7):h.rk≤3:=by
 unfold Th.rk
 split
 ·rw [if_neg (by omega),if_pos (.inr h0)];omega
 ·omega
theorem XX {x:Rp} (ht:h.t=.idle x) (hpc:0≤h.pc∧h.pc≤7):(h.dF x).rk<h.rk:=by
 have hr:h.rk=if h.pc=0 then 2 else if h.pc=4∨h.pc=7 then 3 else if h.pc=6 then 4 else 1:=by unfold Th.rk;rw [ht]
 rcases (by omega:h.pc=0∨h.pc=1∨h.pc=2∨h.pc=3∨h.pc=4∨h.pc=5∨h.pc=6∨h.pc=7) with q | q | q | q | q | q | q | q
 ·rw [show h.rk=2 by rw [hr];simp [q]]
  unfold Th.dF Th.call
  rw [if_pos q]
  exact Nat.lt_of_le_of_lt (ZQ rfl) (by omega)
 ·rw [show h.rk=1 by rw [hr];simp [q]]
  unfold Th.dF Th.call
  rw [if_neg (by omega),if_pos q]
  simp [Th.with,RT.begin,Ca.of,Ca.zero,Th.rk]
 ·rw [show h.rk=1 by rw [hr];simp [q]]
  unfold Th.dF Th.call
  rw [if_neg (by omega),if_neg (by omega),if_pos q]
  by_cases h0:x.word.slot=0
  ·simp [Th.with,RT.begin,Ca.of,Ca.zero,Th.rk,h0]
  ·simp [Th.with,RT.begin,Ca.of,Ca.zero,Th.rk,h0]
 ·rw [show h.rk=1 by rw [hr];simp [q]]
  unfold Th.dF Th.call
  rw [if_neg (by omega),if_neg (by omega),if_neg (by omega),if_pos q]
  by_cases hd:h.l.aY
  ·simp [Th.with,RT.begin,Ca.of,Ca.zero,Th.rk,hd]
  ·simp [Th.with,RT.begin,Ca.of,Ca.zero,Th.rk,hd]
 ·rw [show h.rk=3 by rw [hr];simp [q]]
  unfold Th.dF Th.call
  rw [if_neg (by omega),if_neg (by omega),if_neg (by omega),if_neg (by omega),if_pos q]
  cases hx:x.ok with
  | false =>
   rw [if_pos rfl]
   exact Nat.lt_of_le_of_lt (XW rfl) (by omega)
  | true =>
   rw [if_neg (by decide)]
   simp [Th.with,RT.begin,Ca.of,Ca.zero,Th.rk]
 ·rw [show h.rk=1 by rw [hr];simp [q]]
  unfold Th.dF Th.call
  rw [if_neg (by omega),if_neg (by omega),if_neg (by omega),if_neg (by omega),if_neg (by omega),if_pos q]
  simp [Th.with,RT.begin,Ca.of,Ca.zero,Th.rk]
 ·rw [show h.rk=4 by rw [hr];simp [q]]
  unfold Th.dF Th.call
  rw [if_neg (by omega),if_neg (by omega),if_neg (by omega),if_neg (by omega),if_neg (by omega),if_neg (by omega),if_pos q]
  exact Nat.lt_of_le_of_lt (ZR rfl) (by omega)
 ·rw [show h.rk=3 by rw [hr];simp [q]]
  unfold Th.dF Th.call
  rw [if_neg (by omega),if_neg (by omega),if_neg (by omega),if_neg (by omega),if_neg (by omega),if_neg (by omega),if_neg (by omega)]
  exact Nat.lt_of_le_of_lt (XW rfl) (by omega)
theorem VO {x:Rp} (hb:h.bad=false) (hx:h.pc=3→h.old.slot≠0→x.word.num=dV h.old):(h.dF x).bad=false:=by
 unfold Th.dF Th.call
 by_cases q:h.pc=3
 ·rw [if_neg (by omega),if_neg (by omega),if_neg (by omega),if_pos q]
  show (h.bad || (h.old.slot != 0 && x.word.num != dV h.old))=false
  rw [hb,Bool.false_or]
  by_cases h0:h.old.slot=0
  ·rw [h0];rfl
  ·rw [hx q h0];simp
 ·repeat' first
   | (split)
   | (exact absurd (by assumption) q)
   | (exact hb)
theorem Inv.go (hi:i<n):∀(k:Nat) {T:Nat→Th} {own:Int→gQ},Inv n e p T own A→(T i).bad=false→(T i).rk<k→∃own',Inv n e p (bK T i ((T i).go k).1) own' A∧((T i).go k).1.bad=false ∧
  (((T i).go k).2=some true∧((T i).go k).1.stop=true∧((T i).go k).1.pc=0∧((T i).go k).1.t.bg=0∨((T i).go k).2=none∧((T i).go k).1.t.bg≠0)
 | 0,T,own,H,hb,hr=>absurd hr (Nat.not_lt_zero _)
 | k+1,T,own,H,hb,hr=>by
  by_cases h0:(T i).t.bg=0
  ·obtain ⟨x,ht⟩:=RT.jo h0
   rw [Th.qB ht]
   have hsh:=(H.loc i hi).jI
   unfold Th.sh at hsh
   rw [ht] at hsh
   by_cases hst:(T i).stop=true∧(T i).pc=0
   ·rw [if_pos hst]
    exact ⟨own,by rw [rz];exact H,hb,.inl ⟨rfl,hst.1,hst.2,h0⟩⟩
   ·rw [if_neg hst]
    obtain ⟨FD,H1⟩:=H.dF hi ht
    have:=Inv.go hi k (T:=bK T i ((T i).dF x)) H1 (by rw [aK];exact VO hb hsh.2) (by rw [aK];exact Nat.lt_of_lt_of_le (XX ht hsh.1) (by omega))
    rw [aK,FC] at this
    exact this
  ·rw [Th.nE h0]
   exact ⟨own,by rw [rz];exact H,hb,.inr ⟨rfl,h0⟩⟩
theorem Th.Loc.fits (L:h.Loc e n p i):h.t.fits h.l:=by
 have hsh:=L.jI
 unfold Th.sh at hsh
 have jQ:=L.ik
 unfold RT.fits
 cases ht:h.t with
 | jc c w=>rw [ht] at hsh;exact L.aY.2 hsh.2.2
 | iT=>rw [ht] at hsh;exact jQ.trans hsh.2
 | iC c=>rw [ht] at hsh;exact jQ.trans hsh.2.1
 | dN=>rw [ht] at hsh;exact jQ.trans hsh.2
 | bL c s=>rw [ht] at hsh;exact fun h=>hsh.2.1 (jQ.symm.trans h)
 | fH c=>rw [ht] at hsh;rw [hsh.2];exact ⟨by decide,by decide⟩
 | eT c a=>rw [ht] at hsh;rw [hsh.2.1];exact ⟨by decide,by decide⟩
 | _=>trivial
theorem Inv.step (H:Inv n e p T own A) (hi:i<n) (hb:(T i).bad=false):∃own' A',Inv n e ((T i).step p).2.1 (bK T i ((T i).step p).1) own' A'∧((T i).step p).2.2=true∧((T i).step p).1.bad=false∧((T i).go 12).1.t.fits ((T i).go 12).1.l ∧
  (p.steps≤((T i).step p).2.1.steps∧((T i).step p).2.1.steps≤p.steps+1):=by
 obtain ⟨FD,H1,hb1,hc⟩:=Inv.go (A:=A) hi 12 H hb (Nat.lt_of_le_of_lt (UI _) (by omega))
 have hf:((T i).go 12).1.t.fits ((T i).go 12).1.l:=by
  have:=(H1.loc i hi).fits
  rw [aK] at this
  exact this
 unfold Th.step
 generalize hg:(T i).go 12=g at *
 obtain ⟨g1,g2⟩:=g
 simp only at H1 hb1 hc hf ⊢
 rcases hc with ⟨rfl,c2,c3⟩ | ⟨rfl,c2⟩
 ·exact ⟨FD,A,H1,rfl,hb1,hf,Int.le_refl _,by show p.steps≤p.steps+1;omega⟩
 ·simp only
  rw [if_neg c2]
  obtain ⟨p',x,XY,A2,ha,hI⟩:=H1.acc hi (by rw [aK];exact c2)
  rw [aK] at ha hI
  rw [FC] at hI
  have hst:=PS.Pk p (g1.t.acc g1.l)
  rw [ha] at hst ⊢
  exact ⟨XY,A2,hI,rfl,hb1,hf,hst.2,hst.1⟩
def Th.new (e:Int) (me n:Nat) (most:Int):Th:=⟨⟨e,me,n,most,fun _=>Wd.zero,Sp.zero,[],0⟩,.idle ⟨Wd.zero,false⟩,0,Wd.zero,Wd.zero,false,false⟩
theorem Inv.init {most:Int} (hok:p.OK) (hnb:p.nb=85) (hg:p.iA=true) (h6:1≤n∧n≤6) (h5:1≤e∧e≤5) (hm:1≤most) (hbd:∀k,k≠24→p.bd k=Wd.zero) (hck:p.bd 24=dW 1) (hu:∀k,p.used k=false) :
  Inv n e p (fun i=>Th.new e i n most) (fun _=>.free) (fun _=>1):=by
 have XZ:p.aB=1:=by unfold PS.aB;rw [hck];rfl
 have hrt:p.rt=none:=by unfold PS.rt;rw [hbd 0 (by omega)];rfl
 refine ⟨hok,hnb,hg,h6,h5,by rw [XZ];exact ⟨hck,by omega⟩,by rw [hbd 0 (by omega)];exact ⟨rfl,rfl⟩,?_,fun i hi=>?_,fun i hi=>⟨rfl,rfl,rfl⟩,fun i hi w hw=>(by cases hw),fun s hs=>absurd rfl hs.1,fun i hi w hw=>(by cases hw),fun s hs=>absurd rfl hs,fun i m hm=>(by cases hm),fun i hi o b h=>(by cases h),fun i hi w hw=>(by cases hw),fun _ i hi h=>?_⟩
 ·rw [hrt]
  refine ⟨fun s _ _=>?_,fun s h=>absurd rfl h,fun o w hc=>?_,fun s h=>absurd rfl h,fun s h=>(by cases h),fun i=>List.nodup_nil⟩
  ·rw [hu];exact ⟨fun h=>(by cases h),fun h=>absurd rfl h⟩
  ·cases o with
   | note i=>obtain ⟨m,hm,_⟩:=hc;cases hm
   | root=>cases hc
   | hand i=>cases hc
   | cut i=>cases hc
   | _=>exact hc.elim
 ·refine ⟨rfl,rfl,rfl,hm,fun k _=>rfl,fun k _ _=>hbd _ (by omega),fun _ _=>⟨rfl,hbd _ (by omega)⟩,fun _ _=>⟨rfl,hbd _ (by omega)⟩,fun _=>?_,.inl rfl,.inl (hbd _ (by omega)),fun _=>hbd _ (by omega),fun _=>hbd _ (by omega),fun _ hb=>?_,fun _=>⟨rfl,rfl⟩,⟨⟨show (0:Int)≤0 by decide,show (0:Int)≤7 by decide⟩,fun h=>absurd (show (0:Int)=3 from h) (by decide)⟩⟩
  ·rw [hbd _ (by omega),XZ]
   exact ⟨show (0:Int)≤1 by decide,show (0:Int)≤1 by decide⟩
  ·exact absurd (show (1:Int)≤0 from hb) (by decide)
 ·rw [hbd _ (by omega)] at h
  cases h
end
end Go.Proofs.YthomdlajobnmnaaDoor
namespace Go.Proofs.YthomdlajobnmnaaDoor
open Go.Rex
structure Wb (k:Int) (w:Wd):Prop where
 s:-2000≤w.slot∧w.slot≤2000
 g:-k≤w.gen∧w.gen≤k
 t:-(2000 * k+3000)≤w.tag∧w.tag≤2000 * k+3000
 n:-(2000 * k+3000)≤w.num∧w.num≤2000 * k+3000
theorem Wb.mono {k k':Int} {w:Wd} (h:Wb k w) (hk:k≤k'):Wb k' w:=by
 obtain ⟨h1,h2,h3,h4⟩:=h
 exact ⟨h1,by omega,by omega,by omega⟩
theorem Wb.zero {k:Int} (h:0≤k):Wb k Wd.zero:=by
 refine ⟨?_,?_,?_,?_⟩ <;> simp [Wd.zero] <;> omega
theorem Wb.num {k n:Int} (h:0≤k) (hn:-(2000 * k+3000)≤n∧n≤2000 * k+3000):Wb k (Wd.dI n):=by
 refine ⟨?_,?_,?_,hn⟩ <;> simp [Wd.dI] <;> omega
theorem Wb.ref {k:Int} {w:Wd} (h0:0≤k) (h:Wb k w):Wb k w.dz:=by
 obtain ⟨h1,h2,h3,h4⟩:=h
 refine ⟨h1,h2,?_,?_⟩ <;> simp [Wd.dz] <;> omega
structure PS.wb (k:Int) (p:PS):Prop where
 bd:∀i,Wb k (p.bd i)
 cell:∀i j,Wb k (p.cell i j)
theorem PS.wb.mono {k k':Int} {p:PS} (h:p.wb k) (hk:k≤k'):p.wb k':=⟨fun i=>(h.bd i).mono hk,fun i j=>(h.cell i j).mono hk⟩
theorem PS.wb.at {k:Int} {p:PS} (h:p.wb k) (s f:Int):Wb k (p.at s f):=by
 unfold PS.at
 split
 ·exact h.bd _
 ·exact h.cell _ _
theorem PS.wb.put {k:Int} {p:PS} (h:p.wb k) {s f:Int} {w:Wd} (hw:Wb k w):(p.put s f w).wb k:=by
 unfold PS.put
 split
 ·refine ⟨fun i=>?_,h.cell⟩
  show Wb k (if i=f.toNat then w else p.bd i)
  split
  ·exact hw
  ·exact h.bd i
 ·refine ⟨h.bd,fun i j=>?_⟩
  show Wb k (if i=(s-1).toNat∧j=f.toNat then w else p.cell i j)
  split
  ·exact hw
  ·exact h.cell i j
theorem PS.wb.act {k:Int} {p:PS} {a:Ac} (h0:0≤k) (h:p.wb k) (hok:p.OK) (hs:p.steps≤k) (ha:Wb (k+1) a.new):(p.act a).1.wb (k+1)∧∀x,(p.act a).2=some x→Wb (k+1) x.word:=by
 have h':p.wb (k+1):=h.mono (by omega)
 have hz:Wb (k+1) Wd.zero:=Wb.zero (by omega)
 unfold PS.act
 by_cases hv:p.valid a
 ·rw [if_pos hv]
  by_cases hr:p.right a
  ·rw [if_pos hr]
   have q:(PS.wb (k+1) {p with steps:=p.steps+1}):=⟨h'.bd,h'.cell⟩
   suffices hm:(PS.makes {p with steps:=p.steps+1} a).1.wb (k+1)∧Wb (k+1) (PS.makes {p with steps:=p.steps+1} a).2.word from ⟨hm.1,fun x hx=>by cases hx;exact hm.2⟩
   unfold PS.makes
   split
   ·unfold PS.alloc
    split
    ·exact ⟨q,hz⟩
    ·rename_i hnf
     have aaO:¬p.nf=0:=hnf
     have aaP:=hok.nf
     have hfr:=hok.fr (p.nf-1).toNat (by omega)
     have hg:=hok.gen (p.fr (p.nf-1).toNat-1).toNat
     have hmd:=hok.made
     have hns:=hok.ns
     refine ⟨⟨h'.bd,fun i j=>?_⟩,?_⟩
     ·show Wb (k+1) (if i=(p.fr (p.nf-1).toNat-1).toNat∧j<10 then oM a.new.num j else p.cell i j)
      split
      ·unfold oM
       split
       ·exact ⟨hz.s,hz.g,hz.t,ha.n⟩
       ·exact hz
      ·exact h'.cell i j
     ·refine ⟨?_,?_,?_,?_⟩
      ·show -2000≤p.fr (p.nf-1).toNat∧p.fr (p.nf-1).toNat≤2000
       omega
      ·show -(k+1)≤p.gen (p.fr (p.nf-1).toNat-1).toNat+1∧p.gen (p.fr (p.nf-1).toNat-1).toNat+1≤k+1
       omega
      ·show -(2000 * (k+1)+3000)≤0∧0≤2000 * (k+1)+3000
       omega
      ·show -(2000 * (k+1)+3000)≤0∧0≤2000 * (k+1)+3000
       omega
   split
   ·exact ⟨⟨h'.bd,h'.cell⟩,hz⟩
   split
   ·exact ⟨q,q.at _ _⟩
   split
   ·exact ⟨q.put ha,hz⟩
   split
   ·exact ⟨q.put ha,q.at _ _⟩
   ·exact ⟨q,q.at _ _⟩
  ·rw [if_neg hr]
   refine ⟨⟨h'.bd,h'.cell⟩,fun x hx=>?_⟩
   cases hx
   unfold fO
   split
   ·exact ⟨hz.s,hz.g,hz.t,by show -(2000 * (k+1)+3000)≤-1∧(-1:Int)≤2000 * (k+1)+3000;omega⟩
   ·exact hz
 ·rw [if_neg hv]
  exact ⟨h',fun x hx=>by cases hx⟩
def RT.wb (k:Int):RT→Prop
 | .idle x=>Wb k x.word
 | .one a=>Wb (k+1) a.new
 | .fin a=>Wb (k+1) a.new
 | .jc _ w=>Wb k w
 | .eT _ a=>Wb (k+1) a.new
 | .jk old=>Wb k old
 | .dR old _=>Wb k old
 | .jP c=>Wb k c
 | .bL c _=>Wb k c
 | .iC c=>Wb k c
 | _=>True
structure Lo.wb (k:Int) (l:Lo):Prop where
 h:∀i,Wb k (l.h i)
 lo:-(2000 * k+3000)≤l.s.low∧l.s.low≤2000 * k+3000
 hi:-(2000 * k+3000)≤l.s.high∧l.s.high≤2000 * k+3000
structure vI (k:Int) (q:LR):Prop where
 l:q.1.wb k
 t:q.2.wb k
section
variable {k:Int} {l:Lo}
theorem Lo.wb.mono {k':Int} (h:l.wb k) (hk:k≤k'):l.wb k':=⟨fun i=>(h.h i).mono hk,by have:=h.lo;omega,by have:=h.hi;omega⟩
theorem Lo.wb.hold (h:l.wb k) {w:Wd} (hw:Wb k w) (n:Int):(l.hold n w).wb k:=by
 refine ⟨fun i=>?_,h.lo,h.hi⟩
 show Wb k (if i=n.toNat then w else l.h i)
 split
 ·exact hw
 ·exact h.h i
theorem gG {c:Prop} [Decidable c] {a b:LR} (h1:c→vI k a) (h2:¬c→vI k b):vI k (if c then a else b):=by
 split
 ·exact h1 (by assumption)
 ·exact h2 (by assumption)
theorem LY (h0:0≤k) {s:Sp} (h1:-(2000 * k+3000)≤s.low∧s.low≤2000 * k+3000) (h2:-(2000 * k+3000)≤s.high∧s.high≤2000 * k+3000):Wb k (RS.lQ s):=by
 unfold RS.lQ
 split
 ·refine ⟨?_,?_,h2,h1⟩
  ·show (-2000:Int)≤0∧(0:Int)≤2000
   exact ⟨by decide,by decide⟩
  ·show -k≤0∧0≤k
   omega
 ·exact Wb.zero h0
theorem Ki (h0:0≤k) (h:l.wb k) (n:Int):vI k (RT.leave l n):=by
 have hz:∀{k:Int},0≤k→Wb k Wd.zero:=Wb.zero
 unfold RT.leave
 refine gG (fun _=>⟨⟨h.h,by show -(2000 * k+3000)≤0∧0≤2000 * k+3000;omega,by show -(2000 * k+3000)≤0∧0≤2000 * k+3000;omega⟩,?_⟩) fun _=>gG (fun _=>?_) fun _=>⟨h,hz h0⟩
 ·exact hz (by omega)
 ·split
  ·exact ⟨h.hold (hz h0) _,trivial⟩
  ·exact ⟨h,hz h0⟩
theorem LZ (h0:0≤k) (h:l.wb k):vI k (RT.scan l):=by
 unfold RT.scan
 exact gG (fun _=>⟨h,Wb.zero h0⟩) fun _=>gG (fun _=>⟨h,trivial⟩) fun _=>⟨h,Wb.zero h0⟩
theorem CF (h0:0≤k) (h:l.wb k):vI k (RT.cK l):=by
 unfold RT.cK
 exact gG (fun _=>LZ h0 h) fun _=>⟨h,Wb.zero h0⟩
theorem Qz (h0:0≤k) (h:l.wb k) {w:Wd} (hw:Wb k w):vI k (RT.fu l w):=by
 unfold RT.fu
 exact gG (fun _=>CF h0 ⟨h.h,h.lo,h.hi⟩) fun _=>gG (fun _=>⟨h,hw⟩) fun _=>gG (fun _=>⟨h,hw⟩) fun _=>⟨h,Wb.zero h0⟩
theorem Tg (h0:0≤k) (h:l.wb k) {c:Ca} (hn:Wb (k+1) c.new) (ho:Wb k c.old):vI k (RT.begin l c):=by
 have hz:∀{k:Int},0≤k→Wb k Wd.zero:=Wb.zero
 unfold RT.begin
 refine gG (fun _=>gG (fun _=>⟨h,trivial⟩) fun _=>⟨h,hz h0⟩) fun _=>gG (fun _=>Ki h0 h 0) fun _=>gG (fun _=>⟨h,?_⟩) fun _=>gG (fun _=>⟨h,hn⟩) fun _=>gG (fun _=>⟨h,hn⟩) fun _=>gG (fun _=>⟨h,trivial⟩) fun _ =>
  gG (fun _=>gG (fun _=>⟨h.hold (h.h _) _,(h.h _).mono (by omega)⟩) fun _=>⟨h,hz h0⟩) fun _=>gG (fun _=>gG (fun _=>⟨h,trivial⟩) fun _=>⟨h,?_⟩) fun _=>gG (fun _=>⟨h,?_⟩) fun _=>gG (fun _=>Qz h0 h ho) fun _=>LZ h0 h
 ·exact hz (by omega)
 ·exact hz (by omega)
 ·exact hz (by omega)
theorem FE (h0:0≤k) (h:l.wb k) (r:List Nt):vI k (RT.eY l r):=by
 cases r
 ·exact ⟨h,Wb.zero h0⟩
 ·exact ⟨h,trivial⟩
theorem VP (h0:0≤k) (h:l.wb k) {t:RT} (ht:t.wb k) {x:Rp} (hx:Wb (k+1) x.word):vI (k+1) (RT.aJ l t x):=by
 have h':l.wb (k+1):=h.mono (by omega)
 have hz:∀{k:Int},0≤k→Wb k Wd.zero:=Wb.zero
 have hz1:Wb (k+1) Wd.zero:=hz (by omega)
 have xn:-(2000 * (k+1)+3000)≤x.word.num∧x.word.num≤2000 * (k+1)+3000:=hx.n
 have hs:Wb (k+1) (Wd.dI x.word.num):=Wb.num (by omega) xn
 cases t with
 | idle y=>exact ⟨h',Wb.mono ht (by omega)⟩
 | one a=>exact ⟨h',hx⟩
 | fin a=>exact ⟨h',hz1⟩
 | nN=>exact ⟨⟨h'.h,xn,xn⟩,(LY (k:=k+1) (s:=⟨true,x.word.num,x.word.num⟩) (by omega) xn xn).mono (by omega)⟩
 | jg i=>exact Ki (by omega) h' _
 | fH c =>
  exact gG (fun _=>⟨h',hx⟩) fun _=>gG (fun _=>⟨h'.hold (hx.ref (by omega)) _,(hx.ref (by omega):Wb (k+1) _).mono (by omega)⟩) fun _=>⟨h',hx⟩
 | jc c w =>
  refine gG (fun _=>⟨h',Wb.mono ht (by omega)⟩) fun _=>gG (fun _=>⟨h'.hold hs _,hs.mono (by omega)⟩) fun _=>?_
  have hl:-(2000 * (k+1)+3000)≤(if l.s.is=true then l.s.low else x.word.num)∧(if l.s.is=true then l.s.low else x.word.num)≤2000 * (k+1)+3000:=by
   split
   ·exact h'.lo
   ·exact xn
  exact ⟨⟨h'.h,hl,xn⟩,(LY (k:=k+1) (s:=⟨true,if l.s.is=true then l.s.low else x.word.num,x.word.num⟩) (by omega) hl xn).mono (by omega)⟩
 | eT c a=>exact ⟨h',trivial⟩
 | nO=>exact ⟨h',hs.mono (by omega)⟩
 | jk old=>exact ⟨h',Wb.mono ht (by omega)⟩
 | dR old b=>exact gG (fun _=>⟨⟨h'.h,h'.lo,h'.hi⟩,hx⟩) fun _=>CF (by omega) ⟨h'.h,h'.lo,h'.hi⟩
 | jP c=>exact CF (by omega) h'
 | iT=>exact ⟨h',hx⟩
 | bL c seen =>
  exact gG (fun _=>⟨h',Wb.mono ht (by omega)⟩) fun _=>gG (fun _=>FE (by omega) h' _) fun _=>gG (fun _=>⟨h',Wb.mono ht (by omega)⟩) fun _=>⟨h',trivial⟩
 | iC c=>exact ⟨h',trivial⟩
 | dN=>exact FE (by omega) h' _
 | bV d r=>exact FE (l:={l with notes:=l.notes.erase d,freed:=l.freed+1}) (by omega) ⟨h'.h,h'.lo,h'.hi⟩ r
theorem QA (h0:0≤k) {t:RT} (ht:t.wb k) (h:l.wb k):Wb (k+1) (t.acc l).new:=by
 have hz:Wb (k+1) Wd.zero:=Wb.zero (by omega)
 have eO:∀{c:Wd},Wb k c→Wb (k+1) ⟨0,0,c.tag+1,c.num+1,false⟩:=fun {c} hc=>by
  obtain ⟨a,b,d,e⟩:=hc
  refine ⟨⟨by show (-2000:Int)≤0;decide,by show (0:Int)≤2000;decide⟩,?_,?_,?_⟩
  ·show -(k+1)≤0∧0≤k+1
   omega
  ·show -(2000 * (k+1)+3000)≤c.tag+1∧c.tag+1≤2000 * (k+1)+3000
   omega
  ·show -(2000 * (k+1)+3000)≤c.num+1∧c.num+1≤2000 * (k+1)+3000
   omega
 cases t with
 | one a=>exact ht
 | fin a=>exact ht
 | eT c a=>exact ht
 | jP c=>exact eO ht
 | iC c=>exact eO ht
 | _=>exact hz
end
structure Th.wb (k:Int) (h:Th):Prop where
 old:Wb k h.old
 node:Wb k h.node
 l:h.l.wb k
 t:h.t.wb k
section
variable {k:Int} {h:Th}
theorem Th.wb.mono {k':Int} (H:h.wb k) (h0:0≤k) (hk:k≤k'):h.wb k':=by
 refine ⟨H.old.mono hk,H.node.mono hk,H.l.mono hk,?_⟩
 have ht:=H.t
 revert ht
 cases h.t <;> intro ht <;> first | exact trivial | exact Wb.mono ht (by omega)
theorem X0 (h0:0≤k) {w:Wd} (h:Wb k w):Wb k (Wd.dI (dV w)):=by
 obtain ⟨a,b,c,d⟩:=h
 refine Wb.num h0 ?_
 unfold dV
 omega
theorem Th.wb.call (h0:0≤k) (H:h.wb k) {x:Rp} (hx:Wb k x.word):(h.call x).1.wb k∧Wb (k+1) (h.call x).2.new∧Wb k (h.call x).2.old:=by
 have hz:Wb k Wd.zero:=Wb.zero h0
 have hz1:Wb (k+1) Wd.zero:=Wb.zero (by omega)
 have hk1:Wb (k+1) (⟨h.node.slot,h.node.gen,h.old.tag+1,0,false⟩:Wd):=by
  have a:=H.node
  have b:=H.old
  refine ⟨a.s,?_,?_,?_⟩
  ·have:=a.g
   show -(k+1)≤h.node.gen∧h.node.gen≤k+1
   omega
  ·have:=b.t
   show -(2000 * (k+1)+3000)≤h.old.tag+1∧h.old.tag+1≤2000 * (k+1)+3000
   omega
  ·show -(2000 * (k+1)+3000)≤0∧0≤2000 * (k+1)+3000
   omega
 have hm1:=(X0 h0 hx).mono (show k≤k+1 by omega)
 have st:∀{pc:Int} {b:Bool},Th.wb k {h with pc:=pc,bad:=b}:=⟨H.old,H.node,H.l,H.t⟩
 have so:∀{pc:Int},Th.wb k {h with pc:=pc,old:=x.word}:=⟨hx,H.node,H.l,H.t⟩
 have sn:∀{pc:Int},Th.wb k {h with pc:=pc,node:=x.word}:=⟨H.old,hx,H.l,H.t⟩
 unfold Th.call
 split
 ·exact ⟨st,hz1,hz⟩
 split
 ·exact ⟨st,hz1,hz⟩
 split
 ·refine ⟨so,?_,?_⟩
  ·show Wb (k+1) (Ca.new (if x.word.slot=0 then Ca.of 3 else {Ca.of 3 with slot:=x.word.slot,gen:=x.word.gen,field:=1}))
   split <;> exact hz1
  ·show Wb k (Ca.old (if x.word.slot=0 then Ca.of 3 else {Ca.of 3 with slot:=x.word.slot,gen:=x.word.gen,field:=1}))
   split <;> exact hz
 split
 ·exact ⟨st,hz1,hz⟩
 split
 ·split
  ·exact ⟨st,hz1,hz⟩
  ·exact ⟨sn,hm1,hz⟩
 split
 ·exact ⟨st,hk1,H.old⟩
 split
 ·refine ⟨st,?_,?_⟩
  ·show Wb (k+1) (Ca.new (if x.ok=false then {Ca.of 9 with old:=h.node} else if h.old.slot=0 then Ca.of 3 else {Ca.of 10 with old:=h.old}))
   split
   ·exact hz1
   split <;> exact hz1
  ·show Wb k (Ca.old (if x.ok=false then {Ca.of 9 with old:=h.node} else if h.old.slot=0 then Ca.of 3 else {Ca.of 10 with old:=h.old}))
   split
   ·exact H.node
   split
   ·exact hz
   ·exact H.old
 ·exact ⟨st,hz1,hz⟩
theorem Th.wb.dF (h0:0≤k) (H:h.wb k) {x:Rp} (hx:Wb k x.word):(h.dF x).wb k:=by
 obtain ⟨a,b,c⟩:=H.call h0 hx
 obtain ⟨d,e⟩:=Tg h0 a.l b c
 exact ⟨a.old,a.node,d,e⟩
theorem Th.wb.aJ (h0:0≤k) (H:h.wb k) {x:Rp} (hx:Wb (k+1) x.word):(h.aJ x).wb (k+1):=by
 obtain ⟨a,b⟩:=VP h0 H.l H.t hx
 exact ⟨H.old.mono (by omega),H.node.mono (by omega),a,b⟩
end
end Go.Proofs.YthomdlajobnmnaaDoor
namespace Go.Proofs.YthomdlajobnmnaaDoor
open Go.Rex
section
variable {n:Nat} {e:Int} {p:PS} {T:Nat→Th} {own:Int→gQ} {A:Nat→Int} {i:Nat} {h h':Th}
def Th.pQ (n:Nat) (h:Th):Prop :=
 match h.t with
 | .bV _ r=>(h.l.notes.length:Int)≤max h.l.most (9 * n+1)∧(h.l.notes.length:Int)≤9 * n+(r.length+1)
 | .bL _ _=>(h.l.notes.length:Int)≤max h.l.most (9 * n+1)
 | _=>(h.l.notes.length:Int)≤max (h.l.most-1) (9 * n)
theorem X3 (hf:h.pQ n) (hm:1≤h.l.most) (hn:1≤n):(h.l.notes.length:Int)≤h.l.most+9 * n:=by
 unfold Th.pQ at hf
 split at hf <;> omega
theorem QB (hf:h.pQ n) (ht:∀d r,h.t≠.bV d r) (hs:∀c s,h.t≠.bL c s):(h.l.notes.length:Int)≤max (h.l.most-1) (9 * n):=by
 unfold Th.pQ at hf
 cases hx:h.t with
 | bV d r=>exact absurd hx (ht d r)
 | bL c s=>exact absurd hx (hs c s)
 | _=>rw [hx] at hf;exact hf
theorem Er (hf:(h.l.notes.length:Int)≤max (h.l.most-1) (9 * n)) (ht:∀d r,h.t≠.bV d r):h.pQ n:=by
 unfold Th.pQ
 cases hx:h.t with
 | bV d r=>exact absurd hx (ht d r)
 | bL c s=>show (h.l.notes.length:Int)≤max h.l.most (9 * n+1);omega
 | _=>exact hf
theorem KH {l:Lo} {c:Ca} (hc:c.kind≠10):(RT.begin l c).1.notes=l.notes:=by
 have hif:∀{q:Prop} [Decidable q] {a b:LR},a.1.notes=l.notes→b.1.notes=l.notes→(if q then a else b).1.notes=l.notes:=fun {q} _ {a b} h1 h2=>by
  by_cases h:q
  ·rw [if_pos h];exact h1
  ·rw [if_neg h];exact h2
 have hl:(RT.leave l 0).1.notes=l.notes:=by
  refine hif rfl (hif ?_ rfl)
  cases RS.first l.h (0:Int).toNat (9-(0:Int).toNat) <;> rfl
 have hs:(RT.scan l).1.notes=l.notes:=hif rfl (hif rfl rfl)
 unfold RT.begin
 refine hif (hif rfl rfl)<|hif hl<|hif rfl<|hif rfl<|hif rfl<|hif rfl<|hif (hif rfl rfl)<|hif (hif rfl rfl)<|hif rfl ?_
 rw [if_neg hc]
 exact hs
theorem NU {l:Lo} {c:Ca}:∀d r,(RT.begin l c).2≠.bV d r:=by
 intro d r
 have hif:∀{q:Prop} [Decidable q] {a b:LR},a.2≠.bV d r→b.2≠.bV d r→(if q then a else b).2≠.bV d r:=fun {q} _ {a b} h1 h2=>by
  by_cases h:q
  ·rw [if_pos h];exact h1
  ·rw [if_neg h];exact h2
 have hl:(RT.leave l 0).2≠.bV d r:=by
  refine hif (fun h=>by cases h) (hif ?_ (fun h=>by cases h))
  cases RS.first l.h (0:Int).toNat (9-(0:Int).toNat) <;> exact fun h=>by cases h
 have hs:∀l,(RT.scan l).2≠.bV d r:=fun l=>hif (fun h=>by cases h) (hif (fun h=>by cases h) (fun h=>by cases h))
 have hn:∀l,(RT.cK l).2≠.bV d r:=fun l=>hif (hs l) (fun h=>by cases h)
 exact hif (hif (fun h=>by cases h) (fun h=>by cases h))<|hif hl<|hif (fun h=>by cases h)<|hif (fun h=>by cases h)<|hif (fun h=>by cases h)<|hif (fun h=>by cases h)<|hif (hif (fun h=>by cases h) (fun h=>by cases h)) <|
  hif (hif (fun h=>by cases h) (fun h=>by cases h))<|hif (fun h=>by cases h)<|hif (hif (hn _)<|hif (fun h=>by cases h)<|hif (fun h=>by cases h) (fun h=>by cases h)) (hs l)
theorem VQ {x:Rp} (hf:h.pQ n) (ht:h.t=.idle x) (he:h.l.aj=2):(h.dF x).pQ n:=by
 have h0:=QB hf (fun d r e=>by rw [ht] at e;cases e) (fun c s e=>by rw [ht] at e;cases e)
 have hl:=h.pK x
 have hfree:∀d r,(h.dF x).t≠.bV d r:=fun d r=>NU d r
 have UJ:(h.dF x).l.most=h.l.most:=by
  have:=(RT.Cy (h.call x).1.l (h.call x).2).most
  rw [hl.1] at this
  show (RT.begin (h.call x).1.l (h.call x).2).1.most=_
  rw [hl.1]
  exact this
 by_cases hk:(h.call x).2.kind=10
 ·have hb:RT.begin (h.call x).1.l (h.call x).2=RT.cK (RT.note h.l (h.call x).2.old 0 0):=by
   rw [hl.1]
   unfold RT.begin
   rw [if_neg (by omega),if_neg (by omega),if_neg (by omega),if_neg (by omega),if_neg (by omega),if_neg (by omega),if_neg (by omega),if_neg (by omega),if_neg (by omega),if_pos hk]
   unfold RT.fu
   rw [if_pos he]
  unfold Th.pQ
  show match (RT.begin (h.call x).1.l (h.call x).2).2 with
   | .bV _ r=>_
   | .bL _ _=>_
   | _=>_
  have hlen:(RT.note h.l (h.call x).2.old 0 0).notes.length=h.l.notes.length+1:=by
   show (h.l.notes ++ [_]).length=_
   simp
  have hlb:(h.dF x).l=RT.note h.l (h.call x).2.old 0 0:=by
   show (RT.begin (h.call x).1.l (h.call x).2).1=_
   rw [hb]
   rcases l8 (l:=RT.note h.l (h.call x).2.old 0 0) with g | ⟨g1,g⟩ | ⟨g1,g2,g⟩ <;> rw [g]
  rw [hb,hlb]
  have hme:(RT.note h.l (h.call x).2.old 0 0).most=h.l.most:=rfl
  unfold RT.cK
  by_cases g:((RT.note h.l (h.call x).2.old 0 0).notes.length:Int)≥(RT.note h.l (h.call x).2.old 0 0).most
  ·rw [if_pos g]
   unfold RT.scan
   rw [if_neg (show ¬(RT.note h.l (h.call x).2.old 0 0).aj=1 by show ¬h.l.aj=1;omega),if_neg (show ¬(RT.note h.l (h.call x).2.old 0 0).aj=4 by show ¬h.l.aj=4;omega)]
   show ((RT.note h.l (h.call x).2.old 0 0).notes.length:Int)≤max (RT.note h.l (h.call x).2.old 0 0).most (9 * n+1)
   rw [hlen,hme]
   omega
  ·rw [if_neg g]
   show ((RT.note h.l (h.call x).2.old 0 0).notes.length:Int)≤max ((RT.note h.l (h.call x).2.old 0 0).most-1) (9 * n)
   rw [hlen,hme] at g
   rw [hlen,hme]
   omega
 ·have hnn:(h.dF x).l.notes=h.l.notes:=by
   show (RT.begin (h.call x).1.l (h.call x).2).1.notes=_
   rw [KH hk,hl.1]
  exact Er (by rw [hnn,UJ];exact h0) hfree
theorem jS:∀{l m:List Int},l.Nodup→(∀x∈l,x∈m)→l.length≤m.length
 | [],m,_,_=>Nat.zero_le _
 | x :: l,m,h,hs=>by
  rw [List.nodup_cons] at h
  have hx:=hs x (List.mem_cons_self ..)
  have:=jS (l:=l) (m:=m.erase x) h.2 fun y hy=>by
   have hne:y≠x:=fun e=>h.1 (by rw [←e];exact hy)
   exact (List.mem_erase_of_ne hne).2 (hs y (List.mem_cons_of_mem _ hy))
  rw [List.length_erase_of_mem hx] at this
  have:=List.length_pos_of_mem hx
  simp only [List.length_cons]
  omega
theorem zQ {α:Type} (f:α→Bool):∀l:List α,(l.filter f).length+(l.filter fun x=>!f x).length=l.length
 | []=>rfl
 | x :: l=>by
  have:=zQ f l
  cases hx:f x <;> simp [List.filter_cons,hx] <;> omega
theorem Ti {x:Rp} (hf:h.pQ n) (L:h.Loc 2 n p i) (hnd:(h.l.notes.map (·.ref.slot)).Nodup):(h.aJ x).pQ n:=by
 have he:=L.ik
 have Tf:=L.nK
 have UJ:=L.most
 have hsh:=L.jI
 have plain:∀t',(∀d r,h.t≠.bV d r)→(∀c s,h.t≠.bL c s)→∀l':Lo,l'.notes=h.l.notes→l'.most=h.l.most→(∀d r,t'≠.bV d r)→h.aJ x={h with l:=l',t:=t'}→(h.aJ x).pQ n:=by
  intro t' h1 h2 l' h3 h4 h5 h6
  have h0:=QB hf h1 h2
  rw [h6]
  exact Er (by show (l'.notes.length:Int)≤max (l'.most-1) (9 * n);rw [h3,h4];exact h0) h5
 unfold Th.sh at hsh
 cases ht:h.t with
 | idle y=>exact plain (.idle y) (fun _ _ e=>by rw [ht] at e;cases e) (fun _ _ e=>by rw [ht] at e;cases e) h.l rfl rfl (fun _ _ e=>by cases e) (Th.aW ht rfl)
 | one a=>exact plain (.idle x) (fun _ _ e=>by rw [ht] at e;cases e) (fun _ _ e=>by rw [ht] at e;cases e) h.l rfl rfl (fun _ _ e=>by cases e) (Th.aW ht rfl)
 | fin a=>exact plain (.idle Rp.yes) (fun _ _ e=>by rw [ht] at e;cases e) (fun _ _ e=>by rw [ht] at e;cases e) h.l rfl rfl (fun _ _ e=>by cases e) (Th.aW ht rfl)
 | nN=>rw [ht] at hsh;exact absurd hsh.2 (by omega)
 | jg k =>
  have hoff:=L.off (by rw [ht] at hsh;exact hsh.1)
  rw [ht] at hsh
  obtain ⟨q,rfl,_⟩:=hsh
  have hlv:RT.leave h.l (0+1)=(h.l,.idle Rp.yes):=by
   unfold RT.leave
   rw [if_neg (fun h=>h.2 hoff.2),if_pos (L.aZ.2 (.inl rfl))]
   rw [show RS.first h.l.h (0+1:Int).toNat (9-(0+1:Int).toNat)=none from pO fun j hj=>by
     by_cases h0:j=0
     · rw [h0];exact hoff.1
     · exact L.hz j h0]
  exact plain (.idle Rp.yes) (fun _ _ e=>by rw [ht] at e;cases e) (fun _ _ e=>by rw [ht] at e;cases e) h.l rfl rfl (fun _ _ e=>by cases e) (Th.aW ht hlv)
 | fH c =>
  rw [ht] at hsh
  by_cases g:x.word.slot≠0∧h.l.h c.i.toNat≠x.word.dz
  ·refine plain (.eT c (Ac.store 0 0 (25+h.l.me * 9+c.i) x.word.dz)) (fun _ _ e=>by rw [ht] at e;cases e) (fun _ _ e=>by rw [ht] at e;cases e) (h.l.hold c.i x.word.dz) rfl rfl (fun _ _ e=>by cases e) (Th.aW ht ?_)
   show (if h.l.aY then _ else if h.l.aj=2∧x.word.slot≠0∧h.l.h c.i.toNat≠x.word.dz then _ else _:LR)=_
   rw [if_neg (fun hd=>by have:=L.aY.1 hd;omega),if_pos ⟨he,g⟩]
  ·refine plain (.idle ⟨x.word,true⟩) (fun _ _ e=>by rw [ht] at e;cases e) (fun _ _ e=>by rw [ht] at e;cases e) h.l rfl rfl (fun _ _ e=>by cases e) (Th.aW ht ?_)
   show (if h.l.aY then _ else if h.l.aj=2∧x.word.slot≠0∧h.l.h c.i.toNat≠x.word.dz then _ else _:LR)=_
   rw [if_neg (fun hd=>by have:=L.aY.1 hd;omega),if_neg (fun hh=>g hh.2)]
 | jc c w=>rw [ht] at hsh;exact absurd hsh.2.2 (by omega)
 | eT c a=>exact plain (.fH c) (fun _ _ e=>by rw [ht] at e;cases e) (fun _ _ e=>by rw [ht] at e;cases e) h.l rfl rfl (fun _ _ e=>by cases e) (Th.aW ht rfl)
 | nO=>rw [ht] at hsh;exact absurd hsh.2 (by omega)
 | jk o=>rw [ht] at hsh;exact absurd hsh.2 (by omega)
 | dR o b=>rw [ht] at hsh;exact absurd hsh.2 (by omega)
 | jP c=>rw [ht] at hsh;exact absurd hsh.2.1 (by omega)
 | iT=>rw [ht] at hsh;exact absurd hsh.2 (by omega)
 | iC c=>rw [ht] at hsh;exact absurd hsh.2.1 (by omega)
 | dN=>rw [ht] at hsh;exact absurd hsh.2 (by omega)
 | bL ck seen =>
  rw [ht] at hsh
  obtain ⟨q,_,hlen,_⟩:=hsh
  have hall:h.l.all=9 * n:=by
   unfold Lo.all
   rw [if_pos (L.aZ.2 (.inl rfl)),Tf]
   omega
  have hf':(h.l.notes.length:Int)≤max h.l.most (9 * n+1):=by
   unfold Th.pQ at hf
   rw [ht] at hf
   exact hf
  by_cases g:(seen.length:Int)+1<h.l.all
  ·have htk:h.aJ x={h with l:=h.l,t:=.bL ck (seen ++ [x.word])}:=Th.aW ht (if_pos g)
   rw [htk]
   exact hf'
  ·have htk:h.aJ x=h.with (RT.dQ h.l ck (seen ++ [x.word])):=by
    unfold Th.aJ
    rw [ht]
    show h.with (if (seen.length:Int)+1<h.l.all then _ else if h.l.aj≠4 then _ else _:LR)=_
    rw [if_neg g,if_pos (by omega)]
   have hkept:((h.l.notes.filter fun m=>RT.kept h.l ck (seen ++ [x.word]) m).length:Int)≤9 * n:=by
    have h1:=jS (l:=(h.l.notes.filter fun m=>RT.kept h.l ck (seen ++ [x.word]) m).map (·.ref.slot)) (m:=(seen ++ [x.word]).map (·.slot)) (hnd.sublist ((List.filter_sublist ..).map _)) fun s hs=>by
     obtain ⟨m,hm,rfl⟩:=List.mem_map.1 hs
     have hk:=(List.mem_filter.1 hm).2
     unfold RT.kept at hk
     rw [if_pos he,List.any_eq_true] at hk
     obtain ⟨w,hw,hws⟩:=hk
     unfold RS.ow at hws
     exact List.mem_map.2 ⟨w,hw,by simpa using hws⟩
    simp only [List.length_map,List.length_append,List.length_singleton] at h1
    omega
   have hsum:=zQ (fun m=>RT.kept h.l ck (seen ++ [x.word]) m) h.l.notes
   rw [htk]
   rcases lT (l:=h.l) (ck:=ck) (seen:=seen ++ [x.word]) with ⟨g1,g2⟩ | ⟨d,r,g1,g2⟩
   ·rw [g1]
    refine Er (h:=h.with (h.l,.idle Rp.yes)) ?_ (fun _ _ e=>by cases e)
    show (h.l.notes.length:Int)≤max (h.l.most-1) (9 * n)
    have:(h.l.notes.filter fun m=>!RT.kept h.l ck (seen ++ [x.word]) m)=[]:=List.filter_eq_nil_iff.2 fun m hm=>by rw [g2 m hm];decide
    rw [this] at hsum
    simp only [List.length_nil] at hsum
    omega
   ·rw [g1]
    refine ⟨hf',?_⟩
    rw [←g2] at hsum
    simp only [List.length_cons] at hsum
    show (h.l.notes.length:Int)≤9 * n+(r.length+1)
    omega
 | bV d r =>
  rw [ht] at hsh
  obtain ⟨q,_,hsub,aaQ⟩:=hsh
  have hd:d∈h.l.notes:=hsub d (List.mem_cons_self ..)
  have hlen:=List.length_erase_of_mem hd
  have hpos:=List.length_pos_of_mem hd
  have hf':(h.l.notes.length:Int)≤max h.l.most (9 * n+1)∧(h.l.notes.length:Int)≤9 * n+(r.length+1):=by
   unfold Th.pQ at hf
   rw [ht] at hf
   exact hf
  cases r with
  | nil =>
   have htk:h.aJ x={h with l:={h.l with notes:=h.l.notes.erase d,freed:=h.l.freed+1},t:=.idle Rp.yes}:=Th.aW ht rfl
   rw [htk]
   refine Er ?_ (fun _ _ e=>by cases e)
   show ((h.l.notes.erase d).length:Int)≤max (h.l.most-1) (9 * n)
   simp only [List.length_nil] at hf'
   rw [hlen]
   omega
  | cons d' r' =>
   have htk:h.aJ x={h with l:={h.l with notes:=h.l.notes.erase d,freed:=h.l.freed+1},t:=.bV d' r'}:=Th.aW ht rfl
   rw [htk]
   simp only [List.length_cons] at hf'
   refine ⟨?_,?_⟩
   ·show ((h.l.notes.erase d).length:Int)≤max h.l.most (9 * n+1)
    rw [hlen];omega
   ·show ((h.l.notes.erase d).length:Int)≤9 * n+(r'.length+1)
    rw [hlen];omega
theorem Inv.UK (hi:i<n):∀(k:Nat) {T:Nat→Th} {own:Int→gQ},Inv n 2 p T own A→(T i).pQ n→((T i).go k).1.pQ n∧∃own',Inv n 2 p (bK T i ((T i).go k).1) own' A
 | 0,T,own,H,hf=>⟨hf,own,by rw [show (T i).go 0=(T i,none) from rfl,rz];exact H⟩
 | k+1,T,own,H,hf=>by
  by_cases h0:(T i).t.bg=0
  ·obtain ⟨x,ht⟩:=RT.jo h0
   rw [Th.qB ht]
   by_cases hst:(T i).stop=true∧(T i).pc=0
   ·rw [if_pos hst]
    exact ⟨hf,own,by rw [rz];exact H⟩
   ·rw [if_neg hst]
    obtain ⟨FD,H1⟩:=H.dF hi ht
    have:=Inv.UK hi k (T:=bK T i ((T i).dF x)) H1 (by rw [aK];exact VQ hf ht (H.loc i hi).ik)
    rw [aK,FC] at this
    exact this
  ·rw [Th.nE h0]
   exact ⟨hf,own,by rw [rz];exact H⟩
theorem Inv.VR (H:Inv n 2 p T own A) (hi:i<n) (hf:(T i).pQ n):((T i).step p).1.pQ n:=by
 obtain ⟨g1,FD,H1⟩:=Inv.UK (A:=A) hi 12 H hf
 unfold Th.step
 generalize hg:(T i).go 12=g at *
 obtain ⟨a,b⟩:=g
 cases b with
 | some b=>exact g1
 | none =>
  simp only at g1 H1 ⊢
  by_cases h0:a.t.bg=0
  ·rw [if_pos h0];exact g1
  ·rw [if_neg h0]
   cases hac:p.act (a.t.acc a.l) with
   | mk p' xo =>
    cases xo with
    | none=>exact g1
    | some x =>
     have L:=H1.loc i hi
     have hnd:=H1.oi.pM i
     simp only [aK] at L hnd
     exact Ti g1 L hnd
end
end Go.Proofs.YthomdlajobnmnaaDoor
namespace Go.Proofs.YthomdlajobnmnaaDoor
open Go.Rex
def Th.gd (p:PS) (h:Th):Prop:=(h.l.aj=2→(p.bd 0).slot=0∨h.l.h 0=(p.bd 0).dz)∧(h.l.aj=3∨h.l.aj=5→RT.bY h.l 0 p.aB)
instance (p:PS) (h:Th):Decidable (h.gd p):=by unfold Th.gd;exact inferInstance
def Th.left (p:PS) (h:Th):Int :=
 match h.t with
 | .idle _=>if h.pc=0 then 0 else if h.pc=7 then 2 else (if h.pc=6 then 10 else if h.pc=5 then 12 else if h.pc=4 then 14 else if h.pc=3 then 17 else if h.pc=2 then 19 else 26)+(h.l.notes.length+h.l.all)
 | .one _=>if h.pc=7 then 3 else (if h.pc=6 then 11 else if h.pc=5 then 13 else if h.pc=4 then 15 else 18)+(h.l.notes.length+h.l.all)
 | .fin _=>if h.pc=0 then 1 else if h.pc=7 then 3 else 27+(h.l.notes.length+h.l.all)
 | .nN=>28+(h.l.notes.length+h.l.all)
 | .jg _=>1
 | .fH _=>(if h.gd p then 21 else 24)+(h.l.notes.length+h.l.all)
 | .jc _ _=>(if h.gd p then 20 else 23)+(h.l.notes.length+h.l.all)
 | .eT _ _=>(if h.gd p then 22 else 25)+(h.l.notes.length+h.l.all)
 | .nO=>16+(h.l.notes.length+h.l.all)
 | .jk _=>9+(h.l.notes.length+h.l.all)
 | .dR _ _=>8+(h.l.notes.length+h.l.all)
 | .jP _=>6+(h.l.notes.length+h.l.all)
 | .iT=>5+(h.l.notes.length+h.l.all)
 | .bL _ seen=>4+(h.l.notes.length+(h.l.all-seen.length))
 | .iC _=>4+h.l.notes.length
 | .dN=>3+h.l.notes.length
 | .bV _ r=>3+r.length
section
variable {n:Nat} {e:Int} {p p':PS} {T:Nat→Th} {own:Int→gQ} {A:Nat→Int} {i:Nat} {h h':Th}
theorem VS (L:h.Loc e n p i) (h6:1≤n∧n≤6) (hr:∀d r,h.t=.bV d r→r.length≤h.l.notes.length):h.left p≤28+(h.l.notes.length+h.l.all):=by
 have ha:=L.nG h6
 unfold Th.left
 cases ht:h.t <;> simp only
 all_goals try (have:=hr _ _ ht)
 all_goals repeat' first
  | omega
  | (split)
theorem CG (L:h.Loc e n p i) (h6:1≤n∧n≤6) (hne:¬(h.pc=0∧h.t.bg=0)):0<h.left p:=by
 have ha:=L.nG h6
 have hsh:=L.jI
 unfold Th.sh at hsh
 unfold Th.left
 cases ht:h.t with
 | idle x =>
  rw [ht] at hne
  simp only
  rw [if_neg (fun h0=>hne ⟨h0,rfl⟩)]
  repeat' first
   | omega
   | (split)
 | bL c s =>
  rw [ht] at hsh
  have:=hsh.2.2.1
  simp only
  omega
 | _ =>
  simp only
  repeat' first
   | omega
   | (split)
theorem Tj (L:h.Loc e n p i) (h6:1≤n∧n≤6) (he:1≤e∧e≤5) {x:Rp} (ht:h.t=.idle x) (h0:h.pc≠0):(h.dF x).left p≤h.left p:=by
 have ha:=L.nG h6
 have hsh:=L.jI
 unfold Th.sh at hsh
 rw [ht] at hsh
 have hr:h.left p=if h.pc=0 then 0 else if h.pc=7 then 2 else (if h.pc=6 then 10 else if h.pc=5 then 12 else if h.pc=4 then 14 else if h.pc=3 then 17 else if h.pc=2 then 19 else 26)+(h.l.notes.length+h.l.all):=by unfold Th.left;rw [ht]
 have hlv:∀g:Th,g.pc=0→(g.with (RT.leave h.l 0)).left p≤1:=by
  intro g hg
  rcases Be L he with ⟨_,_,q⟩ | ⟨_,_,q⟩ | ⟨_,_,q⟩
  ·rw [q];simp [Th.left,Th.with,hg]
  ·rw [q];simp [Th.left,Th.with]
  ·rw [q];simp [Th.left,Th.with,hg]
 rcases (by omega:h.pc=1∨h.pc=2∨h.pc=3∨h.pc=4∨h.pc=5∨h.pc=6∨h.pc=7) with q | q | q | q | q | q | q
 ·rw [show h.left p=26+(h.l.notes.length+h.l.all) by rw [hr];simp [q]]
  unfold Th.dF Th.call
  rw [if_neg (by omega),if_pos q]
  simp only [Th.with,RT.begin,Ca.of,Ca.zero,Th.left]
  simp
  split <;> omega
 ·rw [show h.left p=19+(h.l.notes.length+h.l.all) by rw [hr];simp [q]]
  unfold Th.dF Th.call
  rw [if_neg (by omega),if_neg (by omega),if_pos q]
  by_cases g:x.word.slot=0 <;> simp [Th.with,RT.begin,Ca.of,Ca.zero,Th.left,g] <;> omega
 ·rw [show h.left p=17+(h.l.notes.length+h.l.all) by rw [hr];simp [q]]
  unfold Th.dF Th.call
  rw [if_neg (by omega),if_neg (by omega),if_neg (by omega),if_pos q]
  by_cases g:h.l.aY <;> simp [Th.with,RT.begin,Ca.of,Ca.zero,Th.left,g] <;> omega
 ·rw [show h.left p=14+(h.l.notes.length+h.l.all) by rw [hr];simp [q]]
  unfold Th.dF Th.call
  rw [if_neg (by omega),if_neg (by omega),if_neg (by omega),if_neg (by omega),if_pos q]
  cases hx:x.ok with
  | false =>
   rw [if_pos rfl]
   have:=hlv {h with pc:=0} rfl
   simp only [RT.begin,Ca.of,Ca.zero]
   simp
   omega
  | true =>
   rw [if_neg (by decide)]
   simp [Th.with,RT.begin,Ca.of,Ca.zero,Th.left]
 ·rw [show h.left p=12+(h.l.notes.length+h.l.all) by rw [hr];simp [q]]
  unfold Th.dF Th.call
  rw [if_neg (by omega),if_neg (by omega),if_neg (by omega),if_neg (by omega),if_neg (by omega),if_pos q]
  simp [Th.with,RT.begin,Ca.of,Ca.zero,Th.left]
 ·rw [show h.left p=10+(h.l.notes.length+h.l.all) by rw [hr];simp [q]]
  unfold Th.dF Th.call
  rw [if_neg (by omega),if_neg (by omega),if_neg (by omega),if_neg (by omega),if_neg (by omega),if_neg (by omega),if_pos q]
  cases hx:x.ok with
  | false =>
   rw [if_pos rfl]
   simp [Th.with,RT.begin,Ca.of,Ca.zero,Th.left]
   omega
  | true =>
   rw [if_neg (by decide)]
   by_cases g0:h.old.slot=0
   ·rw [if_pos g0]
    simp [Th.with,RT.begin,Ca.of,Ca.zero,Th.left]
    omega
   ·rw [if_neg g0]
    show (({h with pc:=7}:Th).with (RT.fu h.l h.old)).left p≤_
    unfold RT.fu
    by_cases g2:h.l.aj=2
    ·rw [if_pos g2]
     have hlen:((RT.note h.l h.old 0 0).notes.length:Int)=h.l.notes.length+1:=by
      show ((h.l.notes ++ [_]).length:Int)=_
      simp
     have hal:(RT.note h.l h.old 0 0).all=h.l.all:=rfl
     rcases l8 (l:=RT.note h.l h.old 0 0) with g | ⟨g1,g⟩ | ⟨g1,g3,g⟩
     ·rw [g];simp [Th.with,Th.left];omega
     ·rw [g];simp [Th.with,Th.left];omega
     ·rw [g];simp [Th.with,Th.left];omega
    ·rw [if_neg g2]
     by_cases g4:h.l.aj=4
     ·rw [if_pos g4];simp [Th.with,Th.left]
     ·rw [if_neg g4]
      by_cases g5:h.l.aj=3∨h.l.aj=5
      ·rw [if_pos g5];simp [Th.with,Th.left]
      ·rw [if_neg g5];simp [Th.with,Th.left];omega
 ·rw [show h.left p=2 by rw [hr];simp [q]]
  unfold Th.dF Th.call
  rw [if_neg (by omega),if_neg (by omega),if_neg (by omega),if_neg (by omega),if_neg (by omega),if_neg (by omega),if_neg (by omega)]
  have:=hlv {h with pc:=0} rfl
  simp only [RT.begin,Ca.of,Ca.zero]
  simp
  omega
theorem QC (H:Inv n e p T own A) (hi:i<n) (hb:(T i).t.bg≠0) {x:Rp} (ha:p.act ((T i).t.acc (T i).l)=(p',some x)):((T i).aJ x).left p'<(T i).left p:=by
 have L:=H.loc i hi
 have hpos:=L.nG H.n6
 have hsh:=L.jI
 unfold Th.sh at hsh
 have hnn:∀k:Nat,(0:Int)≤k:=fun k=>Int.natCast_nonneg k
 cases ht:(T i).t with
 | idle y=>rw [ht] at hb;exact absurd rfl hb
 | one a =>
  rw [ht] at hsh
  have htk:(T i).aJ x={T i with l:=(T i).l,t:=.idle x}:=Th.aW ht rfl
  rw [htk]
  rcases hsh with ⟨q,_⟩ | ⟨q,_⟩ | ⟨q,_⟩ | ⟨q,_⟩ | ⟨q,_⟩ <;> simp [Th.left,ht,q]
 | fin a =>
  rw [ht] at hsh
  have htk:(T i).aJ x={T i with l:=(T i).l,t:=.idle Rp.yes}:=Th.aW ht rfl
  rw [htk]
  rcases hsh with ⟨⟨q,_⟩ | ⟨q,_⟩,_⟩ | ⟨q,_⟩ <;> simp [Th.left,ht,q]
 | nN =>
  rw [ht] at hsh
  have htk:(T i).aJ x={T i with l:={(T i).l with s:=⟨true,x.word.num,x.word.num⟩},t:=.fin (RT.fT (T i).l ⟨true,x.word.num,x.word.num⟩)}:=Th.aW ht rfl
  have hal:({(T i).l with s:=⟨true,x.word.num,x.word.num⟩}:Lo).all=(T i).l.all:=rfl
  rw [htk]
  simp [Th.left,ht,hsh.1,hal]
 | jg k =>
  have hoff:=L.off (by rw [ht] at hsh;exact hsh.1)
  rw [ht] at hsh
  obtain ⟨q,rfl,he⟩:=hsh
  have hlv:RT.leave (T i).l (0+1)=((T i).l,.idle Rp.yes):=by
   unfold RT.leave
   rw [if_neg (fun h=>h.2 hoff.2),if_pos (L.aZ.2 he)]
   rw [show RS.first (T i).l.h (0+1:Int).toNat (9-(0+1:Int).toNat)=none from pO fun j hj=>by
     by_cases h0:j=0
     · rw [h0];exact hoff.1
     · exact L.hz j h0]
  have htk:(T i).aJ x={T i with l:=(T i).l,t:=.idle Rp.yes}:=Th.aW ht hlv
  rw [htk]
  simp [Th.left,ht,q]
 | fH c =>
  rw [ht] at hsh ha
  obtain ⟨q,rfl⟩:=hsh
  have h1:=(uV H).symm.trans ha
  obtain ⟨rfl,rfl⟩:p'={p with steps:=p.steps+1}∧x=⟨p.bd 0,true⟩:=by
   simp only [Prod.mk.injEq,Option.some.injEq] at h1
   exact ⟨h1.1.symm,h1.2.symm⟩
  have hl:(T i).left p=(if (T i).gd p then 21 else 24)+((T i).l.notes.length+(T i).l.all):=by unfold Th.left;rw [ht]
  rw [hl]
  by_cases hd:(T i).l.aY
  ·have htk:(T i).aJ ⟨p.bd 0,true⟩={T i with l:=(T i).l,t:=.jc (Ca.of 6) (p.bd 0)}:=Th.aW ht (if_pos hd)
   rw [htk]
   show (if (T i).gd p then 20 else 23)+(((T i).l.notes.length:Int)+(T i).l.all)<_
   by_cases g:(T i).gd p
   ·rw [if_pos g,if_pos g];omega
   ·rw [if_neg g,if_neg g];omega
  ·by_cases g:(T i).l.aj=2∧(p.bd 0).slot≠0∧(T i).l.h (0:Int).toNat≠(p.bd 0).dz
   ·have htk:(T i).aJ ⟨p.bd 0,true⟩={T i with l:=(T i).l.hold 0 (p.bd 0).dz,t:=.eT (Ca.of 6) (Ac.store 0 0 (25+(T i).l.me * 9+0) (p.bd 0).dz)}:=Th.aW ht (by
       show (if (T i).l.aY then _ else if (T i).l.aj=2∧(p.bd 0).slot≠0∧(T i).l.h (0:Int).toNat≠(p.bd 0).dz then _ else _:LR)=_
       rw [if_neg hd,if_pos g]
       rfl)
    rw [htk]
    have X4:¬(T i).gd p:=fun hg=>by
     rcases hg.1 g.1 with h | h
     ·exact g.2.1 h
     ·exact g.2.2 h
    have hg2:({T i with l:=(T i).l.hold 0 (p.bd 0).dz,t:=.eT (Ca.of 6) (Ac.store 0 0 (25+(T i).l.me * 9+0) (p.bd 0).dz)}:Th).gd {p with steps:=p.steps+1}:=by
     refine ⟨fun _=>.inr (AA _ _),fun h=>?_⟩
     have h:(T i).l.aj=3∨(T i).l.aj=5:=h
     omega
    show (if ({T i with l:=(T i).l.hold 0 (p.bd 0).dz,t:=.eT (Ca.of 6) (Ac.store 0 0 (25+(T i).l.me * 9+0) (p.bd 0).dz)}:Th).gd {p with steps:=p.steps+1} then 22 else 25)+(((T i).l.notes.length:Int)+(T i).l.all)<_
    rw [if_pos hg2,if_neg X4]
    omega
   ·have htk:(T i).aJ ⟨p.bd 0,true⟩={T i with l:=(T i).l,t:=.idle ⟨p.bd 0,true⟩}:=Th.aW ht (by
       show (if (T i).l.aY then _ else if (T i).l.aj=2∧(p.bd 0).slot≠0∧(T i).l.h (0:Int).toNat≠(p.bd 0).dz then _ else _:LR)=_
       rw [if_neg hd,if_neg g])
    rw [htk]
    simp only [Th.left,q]
    simp
    split <;> omega
 | jc c w =>
  rw [ht] at hsh ha
  obtain ⟨q,rfl,he⟩:=hsh
  have h1:=(lS H).symm.trans ha
  obtain ⟨rfl,rfl⟩:p'={p with steps:=p.steps+1}∧x=⟨dW p.aB,true⟩:=by
   simp only [Prod.mk.injEq,Option.some.injEq] at h1
   exact ⟨h1.1.symm,h1.2.symm⟩
  have hl:(T i).left p=(if (T i).gd p then 20 else 23)+((T i).l.notes.length+(T i).l.all):=by unfold Th.left;rw [ht]
  rw [hl]
  have jQ:=L.ik
  by_cases hcv:RT.bY (T i).l 0 p.aB
  ·have htk:(T i).aJ ⟨dW p.aB,true⟩={T i with l:=(T i).l,t:=.idle ⟨w,true⟩}:=Th.aW ht (if_pos hcv)
   rw [htk]
   simp only [Th.left,q]
   simp
   split <;> omega
  ·have X4:¬(T i).gd p:=fun hg=>hcv (hg.2 (by omega))
   rw [if_neg X4]
   by_cases h3:(T i).l.aj=3
   ·have htk:(T i).aJ ⟨dW p.aB,true⟩={T i with l:=(T i).l.hold 0 (Wd.dI p.aB),t:=.eT (Ca.of 6) (Ac.store 0 0 (25+(T i).l.me * 9+0) (Wd.dI p.aB))}:=Th.aW ht (by
       show (if RT.bY (T i).l 0 p.aB then _ else if (T i).l.aj=3 then _ else _:LR)=_
       rw [if_neg hcv,if_pos h3]
       rfl)
    rw [htk]
    have hC:=H.clock.2
    have hg2:({T i with l:=(T i).l.hold 0 (Wd.dI p.aB),t:=.eT (Ca.of 6) (Ac.store 0 0 (25+(T i).l.me * 9+0) (Wd.dI p.aB))}:Th).gd {p with steps:=p.steps+1}:=by
     refine ⟨fun h=>?_,fun _=>?_⟩
     ·have h:(T i).l.aj=2:=h
      omega
     ·unfold RT.bY
      rw [if_pos (show ((T i).l.hold 0 (Wd.dI p.aB)).aj=3 from h3)]
      have:((T i).l.hold 0 (Wd.dI p.aB)).h (0:Int).toNat=Wd.dI p.aB:=AA _ _
      rw [this]
      refine ⟨fun h=>?_,rfl⟩
      have:p.aB=0:=congrArg Wd.num h
      omega
    show (if ({T i with l:=(T i).l.hold 0 (Wd.dI p.aB),t:=.eT (Ca.of 6) (Ac.store 0 0 (25+(T i).l.me * 9+0) (Wd.dI p.aB))}:Th).gd {p with steps:=p.steps+1} then 22 else 25)+(((T i).l.notes.length:Int)+(T i).l.all)<_
    rw [if_pos hg2]
    omega
   ·have htk:(T i).aJ ⟨dW p.aB,true⟩={T i with l:={(T i).l with s:=⟨true,if (T i).l.s.is=true then (T i).l.s.low else p.aB,p.aB⟩},t:=.eT (Ca.of 6) (RT.fT (T i).l ⟨true,if (T i).l.s.is=true then (T i).l.s.low else p.aB,p.aB⟩)}:=Th.aW ht (by
       show (if RT.bY (T i).l 0 p.aB then _ else if (T i).l.aj=3 then _ else _:LR)=_
       rw [if_neg hcv,if_neg h3]
       rfl)
    rw [htk]
    have hg2:({T i with l:={(T i).l with s:=⟨true,if (T i).l.s.is=true then (T i).l.s.low else p.aB,p.aB⟩},t:=.eT (Ca.of 6) (RT.fT (T i).l ⟨true,if (T i).l.s.is=true then (T i).l.s.low else p.aB,p.aB⟩)}:Th).gd {p with steps:=p.steps+1}:=by
     refine ⟨fun h=>?_,fun _=>?_⟩
     ·have h:(T i).l.aj=2:=h
      omega
     ·unfold RT.bY
      rw [if_neg (show ¬(T i).l.aj=3 from h3)]
      exact ⟨rfl,rfl⟩
    show (if ({T i with l:={(T i).l with s:=⟨true,if (T i).l.s.is=true then (T i).l.s.low else p.aB,p.aB⟩},t:=.eT (Ca.of 6) (RT.fT (T i).l ⟨true,if (T i).l.s.is=true then (T i).l.s.low else p.aB,p.aB⟩)}:Th).gd {p with steps:=p.steps+1} then 22 else 25)+(((T i).l.notes.length:Int)+({(T i).l with s:=⟨true,if (T i).l.s.is=true then (T i).l.s.low else p.aB,p.aB⟩}:Lo).all)<_
    rw [if_pos hg2,show ({(T i).l with s:=⟨true,if (T i).l.s.is=true then (T i).l.s.low else p.aB,p.aB⟩}:Lo).all=(T i).l.all from rfl]
    omega
 | eT c a =>
  rw [ht] at hsh ha
  obtain ⟨q,rfl,he⟩:=hsh
  have htk:(T i).aJ x={T i with l:=(T i).l,t:=.fH (Ca.of 6)}:=Th.aW ht rfl
  have hl:(T i).left p=(if (T i).gd p then 22 else 25)+((T i).l.notes.length+(T i).l.all):=by unfold Th.left;rw [ht]
  rw [htk,hl]
  have hp:p'.bd 0=p.bd 0∧p'.aB=p.aB:=by
   have h6:=H.n6
   have hme:=L.me
   have hst:∃f w,a=Ac.store 0 0 f w∧25≤f∧f<85:=by
    rcases he with ⟨_,he⟩ | ⟨_,he⟩
    ·exact ⟨_,_,he,by omega,by omega⟩
    ·exact ⟨_,_,he,by omega,by omega⟩
   obtain ⟨f,w,rfl,f1,f2⟩:=hst
   have h1:=(vH H (f:=f) (w:=w) (by omega) f2).symm.trans ha
   simp only [Prod.mk.injEq,Option.some.injEq] at h1
   rw [←h1.1]
   exact ⟨wJ (by omega),CE (by omega)⟩
  have hgd:({T i with l:=(T i).l,t:=.fH (Ca.of 6)}:Th).gd p'↔(T i).gd p:=by
   unfold Th.gd
   rw [hp.1,hp.2]
  show (if ({T i with l:=(T i).l,t:=.fH (Ca.of 6)}:Th).gd p' then 21 else 24)+(((T i).l.notes.length:Int)+(T i).l.all)<_
  by_cases g:(T i).gd p
  ·rw [if_pos g,if_pos (hgd.2 g)];omega
  ·rw [if_neg g,if_neg (fun h=>g (hgd.1 h))];omega
 | nO =>
  rw [ht] at hsh
  have htk:(T i).aJ x={T i with l:=(T i).l,t:=.one ⟨4,0,0,0,Wd.zero,Wd.dI x.word.num⟩}:=Th.aW ht rfl
  rw [htk]
  simp [Th.left,ht,hsh.1]
 | jk o =>
  have htk:(T i).aJ x={T i with l:=(T i).l,t:=.dR o x.word.num}:=Th.aW ht rfl
  rw [htk]
  simp [Th.left,ht]
 | dR o b =>
  rw [ht] at hsh
  have hlen:((RT.note (T i).l o b x.word.num).notes.length:Int)=(T i).l.notes.length+1:=by
   show (((T i).l.notes ++ [_]).length:Int)=_
   simp
  have hal:(RT.note (T i).l o b x.word.num).all=(T i).l.all:=rfl
  have hl:(T i).left p=8+((T i).l.notes.length+(T i).l.all):=by unfold Th.left;rw [ht]
  rw [hl]
  by_cases hd:(T i).l.aY
  ·have htk:(T i).aJ x={T i with l:=RT.note (T i).l o b x.word.num,t:=.jP x.word}:=Th.aW ht (if_pos hd)
   rw [htk]
   show 6+(((RT.note (T i).l o b x.word.num).notes.length:Int)+(RT.note (T i).l o b x.word.num).all)<_
   omega
  ·have htk:(T i).aJ x=(T i).with (RT.cK (RT.note (T i).l o b x.word.num)):=by
    unfold Th.aJ
    rw [ht]
    show (T i).with (if (T i).l.aY then _ else _:LR)=_
    rw [if_neg hd]
   rw [htk]
   rcases l8 (l:=RT.note (T i).l o b x.word.num) with g | ⟨g1,g⟩ | ⟨g1,g3,g⟩
   ·rw [g];simp [Th.with,Th.left,hsh.1];omega
   ·rw [g];simp [Th.with,Th.left];omega
   ·rw [g];simp [Th.with,Th.left];omega
 | jP c =>
  rw [ht] at hsh
  have hl:(T i).left p=6+((T i).l.notes.length+(T i).l.all):=by unfold Th.left;rw [ht]
  rw [hl]
  have htk:(T i).aJ x=(T i).with (RT.cK (T i).l):=by unfold Th.aJ;rw [ht];rfl
  rw [htk]
  rcases l8 (l:=(T i).l) with g | ⟨g1,g⟩ | ⟨g1,g3,g⟩
  ·rw [g];simp [Th.with,Th.left,hsh.1];omega
  ·rw [g];simp [Th.with,Th.left]
  ·rw [g];simp [Th.with,Th.left]
 | iT =>
  have htk:(T i).aJ x={T i with l:=(T i).l,t:=.bL x.word []}:=Th.aW ht rfl
  rw [htk]
  simp [Th.left,ht]
 | bL ck seen =>
  rw [ht] at hsh
  obtain ⟨q,_,hlen,_⟩:=hsh
  have hl:(T i).left p=4+((T i).l.notes.length+((T i).l.all-seen.length)):=by unfold Th.left;rw [ht]
  rw [hl]
  by_cases g:(seen.length:Int)+1<(T i).l.all
  ·have htk:(T i).aJ x={T i with l:=(T i).l,t:=.bL ck (seen ++ [x.word])}:=Th.aW ht (if_pos g)
   rw [htk]
   simp only [Th.left,List.length_append,List.length_singleton]
   omega
  ·by_cases g4:(T i).l.aj≠4
   ·have htk:(T i).aJ x=(T i).with (RT.dQ (T i).l ck (seen ++ [x.word])):=by
     unfold Th.aJ
     rw [ht]
     show (T i).with (if (seen.length:Int)+1<(T i).l.all then _ else if (T i).l.aj≠4 then _ else _:LR)=_
     rw [if_neg g,if_pos g4]
    rw [htk]
    rcases lT (l:=(T i).l) (ck:=ck) (seen:=seen ++ [x.word]) with ⟨g1,g2⟩ | ⟨d,r,g1,g2⟩
    ·rw [g1]
     rcases q with q | q <;> simp [Th.with,Th.left,q] <;> omega
    ·have hle:=List.length_filter_le (fun m=>!RT.kept (T i).l ck (seen ++ [x.word]) m) (T i).l.notes
     rw [←g2] at hle
     simp only [List.length_cons] at hle
     rw [g1]
     simp [Th.with,Th.left]
     omega
   ·by_cases gm:RS.may ck.num ((seen ++ [x.word]).map RS.gN)=true
    ·have htk:(T i).aJ x={T i with l:=(T i).l,t:=.iC ck}:=Th.aW ht (by
        show (if (seen.length:Int)+1<(T i).l.all then _ else if (T i).l.aj≠4 then _ else if RS.may ck.num ((seen ++ [x.word]).map RS.gN)=true then _ else _:LR)=_
        rw [if_neg g,if_neg g4,if_pos gm])
     rw [htk]
     simp [Th.left]
     omega
    ·have htk:(T i).aJ x={T i with l:=(T i).l,t:=.dN}:=Th.aW ht (by
        show (if (seen.length:Int)+1<(T i).l.all then _ else if (T i).l.aj≠4 then _ else if RS.may ck.num ((seen ++ [x.word]).map RS.gN)=true then _ else _:LR)=_
        rw [if_neg g,if_neg g4,if_neg gm])
     rw [htk]
     simp [Th.left]
     omega
 | iC c =>
  have htk:(T i).aJ x={T i with l:=(T i).l,t:=.dN}:=Th.aW ht rfl
  rw [htk]
  simp [Th.left,ht]
 | dN =>
  rw [ht] at hsh
  obtain ⟨q,_⟩:=hsh
  have htk:(T i).aJ x=(T i).with (RT.dQ (T i).l x.word []):=by unfold Th.aJ;rw [ht];rfl
  have hl:(T i).left p=3+(T i).l.notes.length:=by unfold Th.left;rw [ht]
  rw [htk,hl]
  rcases lT (l:=(T i).l) (ck:=x.word) (seen:=[]) with ⟨g1,g2⟩ | ⟨d,r,g1,g2⟩
  ·rw [g1]
   rcases q with q | q <;> simp [Th.with,Th.left,q] <;> omega
  ·have hle:=List.length_filter_le (fun m=>!RT.kept (T i).l x.word [] m) (T i).l.notes
   rw [←g2] at hle
   simp only [List.length_cons] at hle
   rw [g1]
   simp [Th.with,Th.left]
   omega
 | bV d r =>
  rw [ht] at hsh
  obtain ⟨q,_⟩:=hsh
  have hl:(T i).left p=3+r.length:=by unfold Th.left;rw [ht]
  rw [hl]
  cases r with
  | nil =>
   have htk:(T i).aJ x={T i with l:={(T i).l with notes:=(T i).l.notes.erase d,freed:=(T i).l.freed+1},t:=.idle Rp.yes}:=Th.aW ht rfl
   rw [htk]
   rcases q with q | q <;> simp [Th.left,q]
  | cons d' r' =>
   have htk:(T i).aJ x={T i with l:={(T i).l with notes:=(T i).l.notes.erase d,freed:=(T i).l.freed+1},t:=.bV d' r'}:=Th.aW ht rfl
   rw [htk]
   simp [Th.left]
   omega
theorem Inv.goLeft (hi:i<n):∀(k:Nat) {T:Nat→Th} {own:Int→gQ},Inv n e p T own A→(T i).stop=true→((T i).go k).1.left p≤(T i).left p
 | 0,T,own,H,hs=>Int.le_refl _
 | k+1,T,own,H,hs=>by
  by_cases h0:(T i).t.bg=0
  ·obtain ⟨x,ht⟩:=RT.jo h0
   rw [Th.qB ht]
   by_cases hst:(T i).stop=true∧(T i).pc=0
   ·rw [if_pos hst];exact Int.le_refl _
   ·rw [if_neg hst]
    obtain ⟨FD,H1⟩:=H.dF hi ht
    have h1:=Tj (p:=p) (H.loc i hi) H.n6 H.e5 ht (fun h=>hst ⟨hs,h⟩)
    have:=Inv.goLeft hi k (T:=bK T i ((T i).dF x)) H1 (by rw [aK];exact ((T i).pK x).2.2.trans hs)
    rw [aK] at this
    omega
  ·rw [Th.nE h0];exact Int.le_refl _
theorem Inv.Tm (H:Inv n e p T own A) (hi:i<n) (hb:(T i).bad=false) (hs:(T i).stop=true) (hne:¬((T i).pc=0∧(T i).t.bg=0)):((T i).step p).1.left ((T i).step p).2.1<(T i).left p:=by
 have h1:=Inv.goLeft (A:=A) hi 12 H hs
 have h2:=CG (p:=p) (H.loc i hi) H.n6 hne
 obtain ⟨FD,H1,hb1,hc⟩:=Inv.go (A:=A) hi 12 H hb (Nat.lt_of_le_of_lt (UI _) (by omega))
 unfold Th.step
 generalize hg:(T i).go 12=g at *
 obtain ⟨g1,g2⟩:=g
 simp only at h1 H1 hb1 hc ⊢
 rcases hc with ⟨rfl,c2,c3,c4⟩ | ⟨rfl,c2⟩
 ·obtain ⟨x,hx⟩:=RT.jo c4
  have:g1.left p=0:=by unfold Th.left;rw [hx];simp [c3]
  show g1.left p<_
  omega
 ·simp only
  rw [if_neg c2]
  obtain ⟨p2,x,XY,A2,ha,hI⟩:=H1.acc hi (by rw [aK];exact c2)
  have h3:=QC H1 hi (by rw [aK];exact c2) ha
  rw [aK] at ha h3
  rw [ha]
  exact Int.lt_of_lt_of_le h3 h1
theorem KI:∀(N:Nat) {l:List Int},l.Nodup→(∀x∈l,1≤x∧x≤(N:Int))→l.length≤N:=by
 intro N l h hs
 have:=jS (l:=l) (m:=(List.range N).map fun k:Nat=>(k:Int)+1) h fun x hx=>by
  obtain ⟨h1,h2⟩:=hs x hx
  exact List.mem_map.2 ⟨(x-1).toNat,List.mem_range.2 (by omega),by omega⟩
 simpa using this
theorem zR {α β:Type} {f:α→β} {m:List α}:∀{l:List α},l.Nodup→(∀x∈l,x∈m)→(m.map f).Nodup→(l.map f).Nodup
 | [],_,_,_=>List.nodup_nil
 | a :: l,h,hs,hm=>by
  rw [List.nodup_cons] at h
  rw [List.map_cons,List.nodup_cons]
  refine ⟨fun hx=>?_,zR h.2 (fun x hx=>hs x (List.mem_cons_of_mem _ hx)) hm⟩
  obtain ⟨b,hb,hab⟩:=List.mem_map.1 hx
  have:=uT hm (hs b (List.mem_cons_of_mem _ hb)) (hs a (List.mem_cons_self ..)) hab
  exact h.1 (by rw [←this];exact hb)
theorem Inv.CJ (H:Inv n e p T own A):((T i).l.notes.length:Int)≤p.ns:=by
 have h0:=H.ok.ns
 have:=KI p.ns.toNat (H.oi.pM i) fun x hx=>by
  obtain ⟨m,hm,rfl⟩:=List.mem_map.1 hx
  obtain ⟨r1,r2,_⟩:=H.oi.jU (o:=.note i) (w:=m.ref) ⟨m,hm,rfl⟩
  omega
 rw [List.length_map] at this
 omega
theorem Inv.NV (H:Inv n e p T own A) (hi:i<n):(T i).left p≤82+p.ns:=by
 have L:=H.loc i hi
 have h1:=VS (p:=p) L H.n6 (fun d r ht=>by
   have hsh:=L.jI
   unfold Th.sh at hsh
   rw [ht] at hsh
   obtain ⟨_,_,hsub,hnd⟩:=hsh
   have hm:(r.map (·.ref.slot)).length≤((T i).l.notes.map (·.ref.slot)).length:=jS (zR (List.nodup_cons.1 hnd).2 (fun x hx=>hsub x (List.mem_cons_of_mem _ hx)) (H.oi.pM i)) fun x hx=>by
     obtain ⟨b,hb,rfl⟩:=List.mem_map.1 hx
     exact List.mem_map.2 ⟨b,hsub b (List.mem_cons_of_mem _ hb),rfl⟩
   simpa using hm)
 have h2:=H.CJ (i:=i)
 have h3:(T i).l.all≤54:=by
  have:=L.nK
  have:=H.n6
  unfold Lo.all
  by_cases g:(T i).l.aZ
  ·rw [if_pos g];omega
  ·rw [if_neg g];omega
 omega
end
end Go.Proofs.YthomdlajobnmnaaDoor
