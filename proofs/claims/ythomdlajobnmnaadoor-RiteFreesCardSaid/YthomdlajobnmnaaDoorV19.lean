/- part 19 of the proof -/
import Derived.Test.YthomdlajobnmnaaDoorV11
import Derived.Test.YthomdlajobnmnaaDoorV17
import Derived.Test.YthomdlajobnmnaaDoorV18
set_option linter.unusedSimpArgs false
set_option linter.unusedVariables false
namespace Go.Proofs.YthomdlajobnmnaaDoor
open Go.Rex
section
variable {n:Nat} {e:Int} {p:PS} {T:Nat→Th} {own:Int→iy} {A:Nat→Int} {i:Nat} {h h':Th}
theorem Inv.Ke (H:Inv n e p T own A) (hr:(p.bd 0).slot≠0) (hc:Qm e (ik e p i) (p.bd 0).slot (p.aX (p.bd 0).slot)):(own (p.bd 0).slot).rC∧p.gen ((p.bd 0).slot-1).toNat=(p.bd 0).gen∧qD e p T A i (p.bd 0).slot:=by
 have hrt:p.rt=some (p.bd 0):=if_neg hr
 obtain ⟨r1,r2,r3,r4,r5⟩:=H.oi.jS (o:=.root) (w:=p.bd 0) hrt
 refine ⟨by rw [r5];exact ⟨by simp,by simp⟩,r4,hc,fun j m hm hs=>?_⟩
 have:=H.oi.one (o:=.note j) (w:=m.ref) ⟨m,hm,rfl⟩ (o':=.root) (w':=p.bd 0) hrt hs
 cases this
theorem Inv.Qr (H:Inv n e p T own A) (hr:(p.bd 0).slot≠0):p.aX (p.bd 0).slot≤p.aB:=by
 have hrt:p.rt=some (p.bd 0):=if_neg hr
 obtain ⟨r1,r2,r3,r4,r5⟩:=H.oi.jS (o:=.root) (w:=p.bd 0) hrt
 exact H.aX _ (by rw [r5];simp)
theorem Inv.covered (H:Inv n e p T own A) (hi:i<n) (hk:¬(T i).dw) (hs:¬(T i).dI) (he:e=3∨e=5) (hr:(p.bd 0).slot≠0) (hc:RT.bZ (T i).l 0 p.aB):Qm e (ik e p i) (p.bd 0).slot (p.aX (p.bd 0).slot):=by
 have L:=H.loc i hi
 have hb:=H.Qr hr
 have hC:=H.clock.2
 unfold RT.bZ at hc
 refine ⟨fun h=>by omega,fun h3=>?_,fun h=>by omega,fun h5=>?_⟩
 ·rw [if_pos (by rw [L.iA];exact h3)] at hc
  have h1:((T i).l.h 0).num=p.aB:=hc.2
  unfold ik
  rw [if_pos (.inr h3),L.kc hk]
  omega
 ·rw [if_neg (by rw [L.iA];omega)] at hc
  unfold ik
  rw [if_neg (by omega),L.sc hs]
  unfold RS.lQ
  rw [if_pos hc.1]
  refine ⟨rfl,?_⟩
  show _≤(T i).l.s.high
  rw [hc.2]
  exact hb
theorem Inv.Qs (H:Inv n e p T own A) (hi:i<n) {c:Ca} (ht:(T i).t=.fU c):kT n e p T i:=by
 have L:=H.loc i hi
 have hsh:=L.jN
 unfold Th.sh at hsh
 rw [ht] at hsh
 obtain ⟨q,rfl⟩:=hsh
 have hk:¬(T i).dw:=by unfold Th.dw;rw [ht];exact id
 have hs:¬(T i).dI:=by unfold Th.dI;rw [ht];exact id
 have on:e=4∨e=5→(T i).l.s.is=true:=fun h=>L.on h (Th.iQ (by omega))
 have P:Plain (T i):=cz (.inr (.inr (.inr (.inr (.inr (.inr (.inr (.inr (.inl ⟨_,ht⟩)))))))))
 refine jP (own':=own) (A':=A) (by rw [ht];rfl) (uW H) ?_
 by_cases hd:(T i).l.bu
 ·have he:=L.bu.1 hd
  have htk:(T i).aK ⟨p.bd 0,true⟩={T i with t:=.ji (Ca.of 6) (p.bd 0)}:=by
   have:(T i).aK ⟨p.bd 0,true⟩={T i with l:=(T i).l,t:=.ji (Ca.of 6) (p.bd 0)}:=Th.bG ht (if_pos hd)
   exact this
  rw [htk]
  refine H.calm hi H.iB (by rw [P.hand];rfl) (by rw [P.cut];rfl) rfl (L.go rfl hk hs (fun h _=>on h) (fun h=>absurd (show (T i).pc=0 from h) (by omega)) ⟨q,rfl,he⟩) (fun w hw=>?_) (fun w hw=>(by cases hw)) (fun o b h=>(by cases h)) (fun w hw=>?_) (dY (.inl (by simp only [RT.aW];omega)))
  ·have:some (p.bd 0)=some w:=hw
   cases this
   exact ⟨Int.le_refl _,fun _=>rfl⟩
  ·have hw:(if (p.bd 0).slot≠0∧RT.bZ (T i).l 0 p.aB then some (p.bd 0) else none)=some w:=hw
   by_cases g:(p.bd 0).slot≠0∧RT.bZ (T i).l 0 p.aB
   ·rw [if_pos g] at hw
    cases hw
    exact H.Ke g.1 (H.covered hi hk hs he g.1 g.2)
   ·rw [if_neg g] at hw;cases hw
 ·have hnd:¬(e=3∨e=5):=fun h=>hd (L.bu.2 h)
  by_cases g:(T i).l.aj=2∧(p.bd 0).slot≠0∧(T i).l.h 0≠(p.bd 0).dK
  ·have he:e=2:=L.iA.symm.trans g.1
   have htk:(T i).aK ⟨p.bd 0,true⟩={T i with l:=(T i).l.hold 0 (p.bd 0).dK,t:=.fA (Ca.of 6) (Ac.store 0 0 (25+(T i).l.me * 9+0) (p.bd 0).dK)}:=Th.bG ht (by
     show (if (T i).l.bu then _ else if (T i).l.aj=2∧(p.bd 0).slot≠0∧(T i).l.h (0:Int).toNat≠(p.bd 0).dK then _ else _:LR)=_
     rw [if_neg hd,if_pos (show (T i).l.aj=2∧(p.bd 0).slot≠0∧(T i).l.h (0:Int).toNat≠(p.bd 0).dK from g)]
     rfl)
   rw [htk]
   refine H.uX hi H.iB P (cz (.inr (.inr (.inr (.inr (.inr (.inr (.inr (.inr (.inr ⟨_,_,rfl⟩)))))))))) rfl ?_ (dY (.inl (by simp only [RT.aW];omega)))
   refine ⟨L.iA,L.me,L.nS,L.most,fun k hk=>(UC _ _ hk).trans (L.hz k hk),L.kz,fun h=>absurd he h,L.ns,fun h=>by omega,L.s5,L.b5,fun h=>absurd trivial h,fun _=>L.sc hs,fun h=>by omega,fun h=>absurd (show (T i).pc=0 from h) (by omega),⟨q,rfl,.inl ⟨.inl he,?_⟩⟩⟩
   show _=Ac.store 0 0 (25+(T i).l.me * 9+0) (((T i).l.hold 0 (p.bd 0).dK).h 0)
   rw [AQ]
  ·have htk:(T i).aK ⟨p.bd 0,true⟩={T i with t:=.idle ⟨p.bd 0,true⟩}:=by
    have:(T i).aK ⟨p.bd 0,true⟩={T i with l:=(T i).l,t:=.idle ⟨p.bd 0,true⟩}:=Th.bG ht (by
      show (if (T i).l.bu then _ else if (T i).l.aj=2∧(p.bd 0).slot≠0∧(T i).l.h (0:Int).toNat≠(p.bd 0).dK then _ else _:LR)=_
      rw [if_neg hd,if_neg (show ¬((T i).l.aj=2∧(p.bd 0).slot≠0∧(T i).l.h (0:Int).toNat≠(p.bd 0).dK) from g)])
    exact this
   rw [htk]
   have q':(T i).pc≠4∧(T i).pc≠5∧(T i).pc≠6:=by omega
   refine H.calm hi H.iB ?_ ?_ rfl (L.go rfl hk hs (fun h _=>on h) (fun h=>absurd (show (T i).pc=0 from h) (by omega)) ⟨⟨by show 0≤(T i).pc;omega,by show (T i).pc≤7;omega⟩,fun h=>absurd (show (T i).pc=3 from h) (by omega)⟩) (fun w hw=>?_) (fun w hw=>?_) (fun o b h=>(by cases h)) (fun w hw=>?_) (Calm.idle _)
   ·rw [P.hand];simp [Th.hand,q]
   ·rw [P.cut];simp [Th.cut,q]
   ·have:some (p.bd 0)=some w:=by rw [←hw];simp [Th.snap,q]
    cases this
    exact ⟨Int.le_refl _,fun _=>rfl⟩
   ·simp [Th.full,q] at hw
   ·have hw:(if (T i).pc=2∧(p.bd 0).slot≠0 then some (p.bd 0) else none)=some w:=hw
    by_cases g0:(p.bd 0).slot≠0
    ·rw [if_pos ⟨q,g0⟩] at hw
     cases hw
     refine H.Ke g0 ⟨fun h2=>?_,fun h=>absurd (.inl h) hnd,fun h4=>?_,fun h=>absurd (.inr h) hnd⟩
     ·have hh:(T i).l.h 0=(p.bd 0).dK:=by
       by_cases hh:(T i).l.h 0=(p.bd 0).dK
       ·exact hh
       ·exact absurd ⟨L.iA.trans h2,g0,hh⟩ g
      unfold ik
      rw [if_pos (.inl h2),L.kc hk,hh]
      rfl
     ·unfold ik
      rw [if_neg (by omega),L.sc hs]
      unfold RS.lQ
      rw [if_pos (on (.inl h4))]
    ·rw [if_neg (fun h=>g0 h.2)] at hw;cases hw
theorem Inv.Ti (H:Inv n e p T own A) (hi:i<n) {c:Ca} {v:Wd} (ht:(T i).t=.ji c v):kT n e p T i:=by
 have L:=H.loc i hi
 have hsh:=L.jN
 unfold Th.sh at hsh
 rw [ht] at hsh
 obtain ⟨q,rfl,he⟩:=hsh
 have hC:=H.clock.2
 have hk:¬(T i).dw:=by unfold Th.dw;rw [ht];exact id
 have hs:¬(T i).dI:=by unfold Th.dI;rw [ht];exact id
 have on:e=4∨e=5→(T i).l.s.is=true:=fun h=>L.on h (Th.iQ (by omega))
 have q':(T i).pc≠4∧(T i).pc≠5∧(T i).pc≠6:=by omega
 have hh:(T i).hand=none:=by unfold Th.hand;rw [ht]
 have hct:(T i).cut=none:=by unfold Th.cut;rw [ht]
 refine jP (own':=own) (A':=A) (by rw [ht];rfl) (lS H) ?_
 by_cases hcv:RT.bZ (T i).l 0 p.aB
 ·have htk:(T i).aK ⟨dW p.aB,true⟩={T i with t:=.idle ⟨v,true⟩}:=by
   have:(T i).aK ⟨dW p.aB,true⟩={T i with l:=(T i).l,t:=.idle ⟨v,true⟩}:=Th.bG ht (if_pos hcv)
   exact this
  rw [htk]
  refine H.calm hi H.iB ?_ ?_ rfl (L.go rfl hk hs (fun h _=>on h) (fun h=>absurd (show (T i).pc=0 from h) (by omega)) ⟨⟨by show 0≤(T i).pc;omega,by show (T i).pc≤7;omega⟩,fun h=>absurd (show (T i).pc=3 from h) (by omega)⟩) (fun w hw=>H.snap i hi w ?_) (fun w hw=>?_) (fun o b h=>(by cases h)) (fun w hw=>H.held i hi w ?_) (Calm.idle _)
  ·rw [hh];simp [Th.hand,q]
  ·rw [hct];simp [Th.cut,q]
  ·unfold Th.snap;rw [ht,←hw];simp [Th.snap,q]
  ·simp [Th.full,q] at hw
  ·have hw:(if (T i).pc=2∧v.slot≠0 then some v else none)=some w:=hw
   unfold Th.cZ
   rw [ht,←hw]
   simp [q,hcv]
 ·have P':∀l c a,Plain {T i with l:=l,t:=.fA c a}:=fun l c a=>cz (.inr (.inr (.inr (.inr (.inr (.inr (.inr (.inr (.inr ⟨_,_,rfl⟩)))))))))
  by_cases h3:e=3
  ·have htk:(T i).aK ⟨dW p.aB,true⟩={T i with l:=(T i).l.hold 0 (Wd.dG p.aB),t:=.fA (Ca.of 6) (Ac.store 0 0 (25+(T i).l.me * 9+0) (Wd.dG p.aB))}:=Th.bG ht (by
      show (if RT.bZ (T i).l 0 p.aB then _ else if (T i).l.aj=3 then _ else _:LR)=_
      rw [if_neg hcv,if_pos (L.iA.trans h3)]
      rfl)
   rw [htk]
   refine H.calm hi H.iB (by rw [hh];rfl) (by rw [hct];rfl) rfl ?_ (fun w hw=>(by cases hw)) (fun w hw=>(by cases hw)) (fun o b h=>(by cases h)) (fun w hw=>(by cases hw)) (dY (.inl (by simp only [RT.aW];omega)))
   refine ⟨L.iA,L.me,L.nS,L.most,fun k hk=>(UC _ _ hk).trans (L.hz k hk),L.kz,fun _ h=>absurd h3 h,L.ns,fun h=>⟨?_,(L.h3 h).2⟩,L.s5,L.b5,fun h=>absurd trivial h,fun _=>L.sc hs,fun h=>by omega,fun h=>absurd (show (T i).pc=0 from h) (by omega),⟨q,rfl,.inl ⟨.inr h3,?_⟩⟩⟩
   ·rw [AQ]
    show p.aB≤_
    exact Int.le_refl _
   ·show _=Ac.store 0 0 (25+(T i).l.me * 9+0) (((T i).l.hold 0 (Wd.dG p.aB)).h 0)
    rw [AQ]
  ·have h5:e=5:=by omega
   have his:=on (.inr h5)
   obtain ⟨a,b,hsp,hab,hbc⟩:∃a b,(T i).l.s=⟨true,a,b⟩∧a≤b∧b≤p.aB:=by
    rcases L.s5 with h | h
    ·rw [h] at his;cases his
    ·exact h
   have htk:(T i).aK ⟨dW p.aB,true⟩={T i with l:={(T i).l with s:=⟨true,a,p.aB⟩},t:=.fA (Ca.of 6) (RT.fV (T i).l ⟨true,a,p.aB⟩)}:=Th.bG ht (by
     show (if RT.bZ (T i).l 0 p.aB then _ else if (T i).l.aj=3 then _ else ({(T i).l with s:=⟨true,if (T i).l.s.is=true then (T i).l.s.low else p.aB,p.aB⟩},RT.fA (Ca.of 6) (RT.fV (T i).l ⟨true,if (T i).l.s.is=true then (T i).l.s.low else p.aB,p.aB⟩)):LR)=_
     rw [if_neg hcv,if_neg (by rw [L.iA];exact h3),hsp]
     simp)
   rw [htk]
   refine H.calm hi H.iB (by rw [hh];rfl) (by rw [hct];rfl) rfl ?_ (fun w hw=>(by cases hw)) (fun w hw=>(by cases hw)) (fun o b h=>(by cases h)) (fun w hw=>(by cases hw)) (dY (.inl (by simp only [RT.aW];omega)))
   exact ⟨L.iA,L.me,L.nS,L.most,L.hz,L.kz,L.nk,fun _ h=>absurd h5 h,L.h3,.inr ⟨a,p.aB,rfl,by omega,Int.le_refl _⟩,L.b5,fun h=>absurd trivial h,fun h=>absurd trivial h,fun _ _=>rfl,fun h=>absurd (show (T i).pc=0 from h) (by omega),⟨q,rfl,.inr ⟨h5,rfl⟩⟩⟩
theorem Inv.Tj (H:Inv n e p T own A) (hi:i<n) {ck:Wd} (ht:(T i).t=.jZ ck):kT n e p T i:=by
 have L:=H.loc i hi
 have hsh:=L.jN
 unfold Th.sh at hsh
 rw [ht] at hsh
 obtain ⟨q,he,c,hc,rfl⟩:=hsh
 have hk:¬(T i).dw:=by unfold Th.dw;rw [ht];exact id
 have hs:¬(T i).dI:=by unfold Th.dI;rw [ht];exact id
 obtain ⟨t,n1,n2,n3,n4⟩:=Ka (h0:=T i) (l1:=(T i).l) q
 have n1':(T i).with (RT.dn (T i).l)={T i with t:=t}:=n1
 refine H.LU hi (by rw [ht];rfl) (cz (.inr (.inr (.inr (.inr (.inr (.inl ⟨_,ht⟩))))))) (fun x=>?_) n3 n4 ?_ (fun h=>by omega)
 ·rw [←n1']
  unfold Th.aK
  rw [ht]
  rfl
 ·refine L.go rfl hk hs (fun h _=>L.on h (Th.iQ (by omega))) (fun h=>absurd (show (T i).pc=0 from h) (by omega)) ?_
  have jT:=L.iA
  unfold Th.sh
  rcases n2 with n2 | ⟨n2,n5⟩ | ⟨n2,n5,n6⟩
  ·rw [n2];exact ⟨⟨by show 0≤(T i).pc;omega,by show (T i).pc≤7;omega⟩,fun h=>absurd (show (T i).pc=3 from h) (by omega)⟩
  ·rw [n5];exact ⟨.inr q,by omega⟩
  ·rw [n6];exact ⟨.inr q,by omega,L.nC H.n6,fun h=>by omega⟩
theorem Inv.Tm (H:Inv n e p T own A) (hi:i<n) (ht:(T i).t=.je):kT n e p T i:=by
 have L:=H.loc i hi
 have hsh:=L.jN
 unfold Th.sh at hsh
 rw [ht] at hsh
 obtain ⟨q,he⟩:=hsh
 have hk:¬(T i).dw:=by unfold Th.dw;rw [ht];exact id
 have hs:¬(T i).dI:=by unfold Th.dI;rw [ht];exact id
 have htk:(T i).aK ⟨dW p.aB,true⟩={T i with t:=.bV (dW p.aB) []}:=by
  have:(T i).aK ⟨dW p.aB,true⟩={T i with l:=(T i).l,t:=.bV (dW p.aB) []}:=Th.bG ht rfl
  exact this
 refine jP (own':=own) (A':=A) (by rw [ht];rfl) (lS H) ?_
 rw [htk]
 refine H.uX hi H.iB (cz (.inl ht)) (cz (.inr (.inl ⟨_,_,rfl⟩))) rfl (L.go rfl hk hs (fun h hb=>?_) L.off ⟨q,by omega,L.nC H.n6,fun _=>⟨p.aB,Int.le_refl _,rfl⟩⟩) (Calm.new _)
 have hb:2≤(T i).pc:=hb
 exact L.on h (Th.iQ hb)
theorem Inv.Tn (H:Inv n e p T own A) (hi:i<n) {ck:Wd} (ht:(T i).t=.iE ck):kT n e p T i:=by
 have L:=H.loc i hi
 have hsh:=L.jN
 unfold Th.sh at hsh
 rw [ht] at hsh
 obtain ⟨q,he,c,hc,rfl⟩:=hsh
 have hk:¬(T i).dw:=by unfold Th.dw;rw [ht];exact id
 have hs:¬(T i).dI:=by unfold Th.dI;rw [ht];exact id
 refine H.LU hi (t:=.dO) (by rw [ht];rfl) (cz (.inr (.inr (.inl ⟨_,ht⟩)))) (fun x=>?_) (cz (.inr (.inr (.inr (.inl rfl))))) (dY (.inr rfl)) (L.go rfl hk hs (fun h hb=>?_) L.off ⟨q,he⟩) (fun _=>ht)
 ·have:(T i).aK x={T i with l:=(T i).l,t:=.dO}:=Th.bG ht rfl
  exact this
 ·have hb:2≤(T i).pc:=hb
  exact L.on h (Th.iQ hb)
theorem Inv.Qt (H:Inv n e p T own A) (hi:i<n) {d:Nt} {r:List Nt} (ht:(T i).t=.fe d r):kT n e p T i:=by
 have L:=H.loc i hi
 have hsh:=L.jN
 unfold Th.sh at hsh
 rw [ht] at hsh
 obtain ⟨q,he,hsub,hnd⟩:=hsh
 have hk:¬(T i).dw:=by unfold Th.dw;rw [ht];exact id
 have hs:¬(T i).dI:=by unfold Th.dI;rw [ht];exact id
 have hd:d∈(T i).l.notes:=hsub d (List.mem_cons_self ..)
 have hnn:=lF (H.oi.pU i)
 obtain ⟨m1,m2,m3,m4,m5⟩:=H.CG (o:=.note i) (w:=d.ref) ⟨d,hd,rfl⟩
 have hal:p.act ⟨5,0,0,0,d.ref,Wd.zero⟩=(PS.free {p with steps:=p.steps+1} d.ref.slot,some ⟨Wd.zero,true⟩):=xY m3 m4
 have hok:=H.uV ⟨5,0,0,0,d.ref,Wd.zero⟩
 rw [hal] at hok
 have on:∀t,({T i with l:={(T i).l with notes:=(T i).l.notes.erase d,freed:=(T i).l.freed+1},t:=t}:Th).busy→e=4∨e=5→(T i).l.s.is=true:=fun t hb h=>by
  refine L.on h ?_
  unfold Th.busy at hb ⊢
  rw [ht]
  rcases q with q | q
  ·cases t <;> simp only at hb <;> omega
  ·show 2≤(T i).pc
   omega
 have hkey:∃t,(T i).aK ⟨Wd.zero,true⟩={T i with l:={(T i).l with notes:=(T i).l.notes.erase d,freed:=(T i).l.freed+1},t:=t}∧((r=[]∧∃x,t=.idle x)∨∃d' r',r=d' :: r'∧t=.fe d' r')∧Plain {T i with l:={(T i).l with notes:=(T i).l.notes.erase d,freed:=(T i).l.freed+1},t:=t} ∧
   ({T i with l:={(T i).l with notes:=(T i).l.notes.erase d,freed:=(T i).l.freed+1},t:=t}:Th).sh e p.aB:=by
  cases r with
  | nil=>exact ⟨.idle Rp.yes,Th.bG ht rfl,.inl ⟨rfl,_,rfl⟩,jJ (h:={T i with l:=_,t:=.idle Rp.yes}) rfl (by rcases q with q | q;exact .inl q;exact .inr (.inr q)),⟨⟨by show 0≤(T i).pc;omega,by show (T i).pc≤7;omega⟩,fun h=>absurd (show (T i).pc=3 from h) (by omega)⟩⟩
  | cons d' r' =>
   refine ⟨.fe d' r',Th.bG ht rfl,.inr ⟨_,_,rfl,rfl⟩,cz (.inr (.inr (.inr (.inr (.inl ⟨_,_,rfl⟩))))),⟨q,he,fun x hx=>?_,(List.nodup_cons.1 hnd).2⟩⟩
   show x∈(T i).l.notes.erase d
   rw [hnn.mem_erase_iff]
   exact ⟨fun hxd=>(List.nodup_cons.1 hnd).1 (by rw [←hxd];exact hx),hsub x (List.mem_cons_of_mem _ hx)⟩
 obtain ⟨t,htk,h4,hP,hst⟩:=hkey
 have hr:=H.fw (h':=(T i).aK ⟨Wd.zero,true⟩) hi (k:=p.steps+1) (nf:=p.nf+1) (fr:=fun j=>if j=p.nf.toNat then d.ref.slot else p.fr j) hok ht hd (by rw [htk];exact hP.hand) (by rw [htk];exact hP.cut) (by rw [htk])
  (by rw [htk];exact L.goN ⟨rfl,rfl,rfl,rfl,rfl,rfl⟩ hk hs (fun h hb=>on t hb h) L.off hst) (by rw [htk];exact hP.snap) (by rw [htk];exact hP.full) (by rw [htk];exact hP.vE) (by rw [htk];exact hP.cZ) (by rw [htk];exact h4)
 obtain ⟨own',hI⟩:=hr
 exact ⟨_,_,own',A,by rw [ht];exact hal,hI⟩
end
section
variable {n:Nat} {e:Int} {p:PS} {T:Nat→Th} {own:Int→iy} {A:Nat→Int} {i:Nat} {h h':Th}
theorem VC {l:Lo} {ck:Wd} {seen:List Wd} {m:Nt} {w:Wd} {A:Int} (hl:l.aj=e) (he:e=2∨e=3∨e=5) (hw:w∈seen) (hk:Kp e w A m):RT.kept l ck seen m=true:=by
 unfold RT.kept
 rcases he with h | h | h
 ·rw [if_pos (hl.trans h),List.any_eq_true]
  exact ⟨w,hw,by unfold RS.qz;rw [hk.k2 h];exact beq_self_eq_true _⟩
 ·rw [if_neg (by omega),if_pos (hl.trans h),List.any_eq_true]
  exact ⟨w,hw,by unfold RS.qA;exact decide_eq_true (hk.k3 h)⟩
 ·rw [if_neg (by omega),if_neg (by omega),if_pos (hl.trans h),List.any_eq_true]
  obtain ⟨k1,k2,k3⟩:=hk.k5 h
  refine ⟨w,hw,?_⟩
  unfold RS.oo RS.gN
  rw [if_pos k1]
  simp only [Bool.true_and]
  exact decide_eq_true ⟨k2,k3⟩
theorem nD {l:Lo} {ck:Wd} {seen:List Wd}:(RT.dS l ck seen=(l,.idle Rp.yes)∧∀m∈l.notes,RT.kept l ck seen m=true)∨∃d r,RT.dS l ck seen=(l,.fe d r)∧d :: r=l.notes.filter fun m=>!RT.kept l ck seen m:=by
 unfold RT.dS
 cases hf:l.notes.filter fun m=>!RT.kept l ck seen m with
 | nil =>
  refine .inl ⟨rfl,fun m hm=>?_⟩
  have:=List.filter_eq_nil_iff.1 hf m hm
  simpa using this
 | cons d r=>exact .inr ⟨d,r,rfl,rfl⟩
theorem Inv.dS (H:Inv n e p T own A) (hi:i<n) {k:Int} (hok:({p with steps:=k}:PS).OK) {ck:Wd} {seen:List Wd} (P:Plain (T i)) (hk:¬(T i).dw) (hs:¬(T i).dI) (q:(T i).pc=0∨(T i).pc=7) (he:e≠1)
  (htk:h'=(T i).with (RT.dS (T i).l ck seen)) (hbz:(T i).pc=7→(T i).busy)
  (hK:∀j,j<n→∀s,Qm e (ik e p j) s (p.aX s)→NK e (ik e p j) (A j) (jI e j) (T i) s→∀m∈(T i).l.notes,m.ref.slot=s→RT.kept (T i).l ck seen m=true):Inv n e {p with steps:=k} (bA T i h') own A:=by
 have L:=H.loc i hi
 have hnn:=lF (H.oi.pU i)
 have key:∃t,h'={T i with t:=t}∧Plain h'∧h'.sh e p.aB∧((∃x,t=.idle x)∨∃d r,t=.fe d r∧∀m∈d :: r,¬RT.kept (T i).l ck seen m=true):=by
  rcases nD (l:=(T i).l) (ck:=ck) (seen:=seen) with ⟨g,_⟩ | ⟨d,r,g,hf⟩
  ·rw [g] at htk
   refine ⟨.idle Rp.yes,htk,?_,?_,.inl ⟨_,rfl⟩⟩
   ·rw [htk]
    exact jJ (h:=(T i).with ((T i).l,.idle Rp.yes)) rfl (by rcases q with q | q;exact .inl q;exact .inr (.inr q))
   ·rw [htk]
    exact ⟨⟨by show 0≤(T i).pc;omega,by show (T i).pc≤7;omega⟩,fun h=>absurd (show (T i).pc=3 from h) (by omega)⟩
  ·rw [g] at htk
   refine ⟨.fe d r,htk,?_,?_,.inr ⟨d,r,rfl,fun m hm=>?_⟩⟩
   ·rw [htk]
    exact cz (.inr (.inr (.inr (.inr (.inl ⟨_,_,rfl⟩)))))
   ·rw [htk]
    refine ⟨q,he,fun m hm=>?_,?_⟩
    ·rw [hf] at hm
     exact (List.mem_filter.1 hm).1
    ·rw [hf]
     exact hnn.sublist (List.filter_sublist ..)
   ·rw [hf] at hm
    have:=(List.mem_filter.1 hm).2
    simpa using this
 obtain ⟨t,h1,hP,hsh,hcase⟩:=key
 refine H.stay hi hok (hP.hand.trans P.hand.symm) (hP.cut.trans P.cut.symm) (by rw [h1]) (L.go (by rw [h1]) hk hs (fun h hb=>?_) (by rw [h1];exact L.off) hsh) (fun w hw=>by rw [hP.snap] at hw;cases hw) (fun w hw=>by rw [hP.full] at hw;cases hw) (fun o b h=>absurd h (hP.vE o b)) (fun w hw=>by rw [hP.cZ] at hw;cases hw) ?_ ?_
 ·refine L.on h ?_
  rcases q with q | q
  ·rw [h1] at hb
   unfold Th.busy at hb
   cases t <;> simp only at hb <;> omega
  ·exact hbz q
 ·intro j hj s Kg hn m hm hms
  rw [h1] at hm ⊢
  refine ⟨(hn m hm hms).1,fun d r ht=>?_,fun Bn seen' ht=>?_⟩
  ·rcases hcase with ⟨x,hx⟩ | ⟨d',r',hx,hno⟩
   ·rw [hx] at ht;cases ht
   ·rw [hx] at ht
    cases ht
    have:=hK j hj s Kg hn m hm hms
    exact ⟨fun h=>hno m (by rw [h];exact List.mem_cons_self ..) this,fun h=>hno m (List.mem_cons_of_mem _ h) this⟩
  ·rcases hcase with ⟨x,hx⟩ | ⟨d',r',hx,hno⟩
   ·rw [hx] at ht;cases ht
   ·rw [hx] at ht;cases ht
 ·intro _ j hj _ _ _
  rw [h1]
  rcases hcase with ⟨x,hx⟩ | ⟨d',r',hx,hno⟩
  ·exact ⟨fun Bn seen' ht=>(by rw [hx] at ht;cases ht),fun Bn ht=>(by rw [hx] at ht;cases ht)⟩
  ·exact ⟨fun Bn seen' ht=>(by rw [hx] at ht;cases ht),fun Bn ht=>(by rw [hx] at ht;cases ht)⟩
theorem FH {α:Type} {l:List α} {x y:α} {k:Nat} (h:(l ++ [x])[k]?=some y):l[k]?=some y∨(k=l.length∧y=x):=by
 rcases Nat.lt_trichotomy k l.length with h1 | h1 | h1
 ·rw [List.getElem?_append_left h1] at h
  exact .inl h
 ·rw [h1] at h
  simp at h
  exact .inr ⟨h1,h.symm⟩
 ·rw [List.getElem?_append_right (by omega)] at h
  rw [List.getElem?_eq_none (by simp;omega)] at h
  cases h
theorem Et {α:Type} {l:List α} {x:α} {k:Nat} (h:k<l.length+1):∃y,(l ++ [x])[k]?=some y∧y∈l ++ [x]:=by
 have hk:k<(l ++ [x]).length:=by simp;omega
 exact ⟨(l ++ [x])[k],List.getElem?_eq_getElem hk,List.getElem_mem hk⟩
theorem Inv.Qu (H:Inv n e p T own A) (hi:i<n) {ck:Wd} {seen:List Wd} (ht:(T i).t=.bV ck seen):kT n e p T i:=by
 have L:=H.loc i hi
 have hsh:=L.jN
 unfold Th.sh at hsh
 rw [ht] at hsh
 obtain ⟨q,he,hlen,hck⟩:=hsh
 have h6:=H.n6
 have h5:=H.e5
 have hk:¬(T i).dw:=by unfold Th.dw;rw [ht];exact id
 have hs:¬(T i).dI:=by unfold Th.dI;rw [ht];exact id
 have P:Plain (T i):=cz (.inr (.inl ⟨_,_,ht⟩))
 have hbz:(T i).pc=7→(T i).busy:=fun h=>Th.iQ (by omega)
 have hpos:∃b:Nat,(T i).l.base+seen.length=(b:Int)∧b<85∧∀j,j<n→(jI e j=seen.length→p.bd b=ik e p j)∧(jI e j:Int)<(T i).l.all:=by
  have ZM:=L.nS
  unfold Lo.base Lo.all at *
  by_cases g:(T i).l.bf
  ·rw [if_pos g] at hlen ⊢
   rw [if_pos g]
   refine ⟨25+seen.length,by omega,by omega,fun j hj=>?_⟩
   unfold jI ik
   rw [if_pos (L.bf.1 g),if_pos (L.bf.1 g)]
   exact ⟨fun h=>by rw [h],by omega⟩
  ·rw [if_neg g] at hlen ⊢
   rw [if_neg g]
   have g':¬(e=2∨e=3):=fun h=>g (L.bf.2 h)
   refine ⟨79+seen.length,by omega,by omega,fun j hj=>?_⟩
   unfold jI ik
   rw [if_neg g',if_neg g']
   exact ⟨fun h=>by rw [h],by omega⟩
 obtain ⟨b,hb1,hb2,hb3⟩:=hpos
 have hal:p.act (Ac.load 0 0 ((T i).l.base+seen.length))=({p with steps:=p.steps+1},some ⟨p.bd b,true⟩):=by
  rw [hb1]
  have:=qE (p:=p) (s:=0) (g:=0) (f:=(b:Int)) (o:=Wd.zero) (w:=Wd.zero) (H.CF (by omega) (by omega)) Inv.xZ
  rw [qF,Int.toNat_natCast] at this
  exact this
 refine jP (own':=own) (A':=A) (by rw [ht];rfl) hal ?_
 have Y9:∀j,j<n→∀s,NK e (ik e p j) (A j) (jI e j) (T i) s→∀m∈(T i).l.notes,m.ref.slot=s→e≠4→∀y,(seen ++ [p.bd b])[jI e j]?=some y→Kp e y (A j) m:=by
  intro j hj s hn m hm hms h4 y hy
  obtain ⟨k1,k2,k3⟩:=hn m hm hms
  rcases FH hy with hy | ⟨hy1,hy2⟩
  ·exact k3 ck seen ht h4 y hy
  ·rw [hy2,(hb3 j hj).1 hy1];exact k1
 by_cases g:(seen.length:Int)+1<(T i).l.all
 ·have htk:(T i).aK ⟨p.bd b,true⟩={T i with t:=.bV ck (seen ++ [p.bd b])}:=by
   have:(T i).aK ⟨p.bd b,true⟩={T i with l:=(T i).l,t:=.bV ck (seen ++ [p.bd b])}:=Th.bG ht (if_pos g)
   exact this
  rw [htk]
  have P':Plain {T i with t:=.bV ck (seen ++ [p.bd b])}:=cz (.inr (.inl ⟨_,_,rfl⟩))
  refine H.stay hi H.iB (P'.hand.trans P.hand.symm) (P'.cut.trans P.cut.symm) rfl (L.go rfl hk hs (fun h hb=>?_) L.off ⟨q,he,?_,hck⟩) (fun w hw=>by rw [P'.snap] at hw;cases hw) (fun w hw=>by rw [P'.full] at hw;cases hw) (fun o b h=>absurd h (P'.vE o b)) (fun w hw=>by rw [P'.cZ] at hw;cases hw) ?_ ?_
  ·have hb:2≤(T i).pc:=hb
   exact L.on h (Th.iQ hb)
  ·simp only [List.length_append,List.length_singleton]
   show ((seen.length+1:Nat):Int)<(T i).l.all
   omega
  ·intro j hj s Kg hn m hm hms
   refine ⟨(hn m hm hms).1,fun d r h=>(by cases h),fun Bn seen' h h4 y hy=>?_⟩
   cases h
   exact Y9 j hj s hn m hm hms h4 y hy
  ·intro e4 j hj hmk hc hlt
   refine ⟨fun Bn seen' h hcn y hy=>?_,fun Bn h=>(by cases h)⟩
   cases h
   rcases FH hy with hy | ⟨hy1,hy2⟩
   ·exact hlt.1 ck seen ht hcn y hy
   ·have hap:jI e j=seen.length:=by unfold jI;rw [if_neg (by omega)];exact hy1
    have:=(hb3 j hj).1 hap
    unfold ik at this
    rw [if_neg (by omega)] at this
    rw [hy2,this]
    have:=(H.ep e4 j hj hmk).1
    exact ⟨hmk,by omega⟩
 ·by_cases g4:e=4
  ·have jT:(T i).l.aj=4:=L.iA.trans g4
   by_cases gm:RS.may ck.num ((seen ++ [p.bd b]).map RS.gN)=true
   ·have htk:(T i).aK ⟨p.bd b,true⟩={T i with t:=.iE ck}:=by
     have:(T i).aK ⟨p.bd b,true⟩={T i with l:=(T i).l,t:=.iE ck}:=Th.bG ht (by
       show (if (seen.length:Int)+1<(T i).l.all then _ else if (T i).l.aj≠4 then _ else if RS.may ck.num ((seen ++ [p.bd b]).map RS.gN)=true then _ else _:LR)=_
       rw [if_neg g,if_neg (fun h=>h jT),if_pos gm])
     exact this
    rw [htk]
    have P':Plain {T i with t:=.iE ck}:=cz (.inr (.inr (.inl ⟨_,rfl⟩)))
    refine H.stay hi H.iB (P'.hand.trans P.hand.symm) (P'.cut.trans P.cut.symm) rfl (L.go rfl hk hs (fun h hb=>?_) L.off ⟨q,g4,hck g4⟩) (fun w hw=>by rw [P'.snap] at hw;cases hw) (fun w hw=>by rw [P'.full] at hw;cases hw) (fun o b h=>absurd h (P'.vE o b)) (fun w hw=>by rw [P'.cZ] at hw;cases hw) ?_ ?_
    ·have hb:2≤(T i).pc:=hb
     exact L.on h (Th.iQ hb)
    ·exact fun j hj s _ hn m hm hms=>⟨(hn m hm hms).1,fun d r h=>(by cases h),fun Bn seen' h=>(by cases h)⟩
    ·intro _ j hj hmk hc hlt
     refine ⟨fun Bn seen' h=>(by cases h),fun Bn h hcn=>?_⟩
     cases h
     have hap:jI e j=j:=by unfold jI;rw [if_neg (by omega)]
     have hlt2:=(hb3 j hj).2
     rw [hap] at hlt2
     obtain ⟨y,hy,hym⟩:=Et (l:=seen) (x:=p.bd b) (k:=j) (by omega)
     have Za:y.mark=true∧y.num≠p.aB:=by
      rcases FH hy with hy | ⟨hy1,hy2⟩
      ·exact hlt.1 ck seen ht hcn y hy
      ·have:=(hb3 j hj).1 (hap.trans hy1)
       unfold ik at this
       rw [if_neg (by omega)] at this
       rw [hy2,this]
       have:=(H.ep g4 j hj hmk).1
       exact ⟨hmk,by omega⟩
     unfold RS.may at gm
     have:=List.all_eq_true.1 gm (RS.gN y) (List.mem_map.2 ⟨y,hym,rfl⟩)
     unfold RS.gN at this
     rw [if_pos Za.1] at this
     simp only [Bool.true_and,Bool.not_eq_true',bne_eq_false_iff_eq] at this
     exact Za.2 (this.trans hcn)
   ·have htk:(T i).aK ⟨p.bd b,true⟩={T i with t:=.dO}:=by
     have:(T i).aK ⟨p.bd b,true⟩={T i with l:=(T i).l,t:=.dO}:=Th.bG ht (by
       show (if (seen.length:Int)+1<(T i).l.all then _ else if (T i).l.aj≠4 then _ else if RS.may ck.num ((seen ++ [p.bd b]).map RS.gN)=true then _ else _:LR)=_
       rw [if_neg g,if_neg (fun h=>h jT),if_neg gm])
     exact this
    rw [htk]
    refine H.uX hi H.iB P (cz (.inr (.inr (.inr (.inl rfl))))) rfl (L.go rfl hk hs (fun h hb=>?_) L.off ⟨q,g4⟩) (dY (.inr rfl))
    have hb:2≤(T i).pc:=hb
    exact L.on h (Th.iQ hb)
  ·have htk:(T i).aK ⟨p.bd b,true⟩=(T i).with (RT.dS (T i).l ck (seen ++ [p.bd b])):=by
    unfold Th.aK
    rw [ht]
    show (T i).with (if (seen.length:Int)+1<(T i).l.all then _ else if (T i).l.aj≠4 then _ else _:LR)=_
    rw [if_neg g,if_pos (by rw [L.iA];exact g4)]
   refine H.dS hi H.iB P hk hs q he htk hbz fun j hj s Kg hn m hm hms=>?_
   have hlt2:=(hb3 j hj).2
   obtain ⟨y,hy,hym⟩:=Et (l:=seen) (x:=p.bd b) (k:=jI e j) (by omega)
   have he':e=2∨e=3∨e=5:=by clear hck;omega
   exact VC L.iA he' hym (Y9 j hj s hn m hm hms g4 y hy)
theorem Inv.NS (H:Inv n e p T own A) (hi:i<n) (ht:(T i).t=.dO):kT n e p T i:=by
 have L:=H.loc i hi
 have hsh:=L.jN
 unfold Th.sh at hsh
 rw [ht] at hsh
 obtain ⟨q,he⟩:=hsh
 have hk:¬(T i).dw:=by unfold Th.dw;rw [ht];exact id
 have hs:¬(T i).dI:=by unfold Th.dI;rw [ht];exact id
 have P:Plain (T i):=cz (.inr (.inr (.inr (.inl ht))))
 refine jP (own':=own) (A':=A) (by rw [ht];rfl) (lS H) ?_
 have htk:(T i).aK ⟨dW p.aB,true⟩=(T i).with (RT.dS (T i).l (dW p.aB) []):=by
  unfold Th.aK
  rw [ht]
  rfl
 refine H.dS hi H.iB P hk hs q (by omega) htk (fun h=>Th.iQ (by omega)) fun j hj s Kg hn m hm hms=>?_
 unfold RT.kept
 rw [if_neg (by rw [L.iA];omega),if_neg (by rw [L.iA];omega),if_neg (by rw [L.iA];omega)]
 have h1:=(hn m hm hms).1.k4 he
 have h2:=Kg.k4 he
 unfold ik at h2
 rw [if_neg (by omega)] at h2
 have h3:=(H.ep he j hj h2).1
 unfold RS.mH
 refine decide_eq_true (.inr ?_)
 show m.cO > p.aB-2
 omega
theorem Inv.acc (H:Inv n e p T own A) (hi:i<n) (hb:(T i).t.aW≠0):kT n e p T i:=by
 cases ht:(T i).t with
 | idle x=>rw [ht] at hb;exact absurd rfl hb
 | one a=>exact H.VA hi ht
 | fin a=>exact H.VB hi ht
 | pK=>exact H.Td hi ht
 | jm k=>exact H.Qp hi ht
 | fU c=>exact H.Qs hi ht
 | ji c w=>exact H.Ti hi ht
 | fA c a=>exact H.Te hi ht
 | ou=>exact H.Tf hi ht
 | jC o=>exact H.NR hi ht
 | dU o b=>exact H.Tg hi ht
 | jZ c=>exact H.Tj hi ht
 | je=>exact H.Tm hi ht
 | bV c s=>exact H.Qu hi ht
 | iE c=>exact H.Tn hi ht
 | dO=>exact H.NS hi ht
 | fe d r=>exact H.Qt hi ht
end
section
variable {n:Nat} {e:Int} {p:PS} {T:Nat→Th} {own:Int→iy} {A:Nat→Int} {i:Nat} {h h':Th}
theorem LV {α:Type} (f:Nat→α) (i:Nat) (x y:α):bA (bA f i x) i y=bA f i y:=by
 funext k
 by_cases hk:k=i
 ·rw [hk,aF,aF]
 ·rw [aY _ _ hk,aY _ _ hk,aY _ _ hk]
theorem zV {α:Type} (f:Nat→α) (i:Nat):bA f i (f i)=f:=by
 funext k
 by_cases hk:k=i
 ·rw [hk,aF]
 ·rw [aY _ _ hk]
def Th.rk (h:Th):Nat :=
 match h.t with
 | .idle _=>if h.pc=0 then 2 else if h.pc=4∨h.pc=7 then 3 else if h.pc=6 then 4 else 1
 | _=>0
theorem NT (h:Th):h.rk≤4:=by
 unfold Th.rk
 split
 ·repeat' first
   | (split)
   | omega
 ·omega
theorem XN (h0:h.pc=0):h.rk≤2:=by
 unfold Th.rk
 split
 ·rw [if_pos h0];omega
 ·omega
theorem ZN (h0:h.pc=1):h.rk≤1:=by
 unfold Th.rk
 split
 ·rw [if_neg (by omega),if_neg (by omega),if_neg (by omega)];omega
 ·omega
theorem ZO (h0:h.pc=7):h.rk≤3:=by
 unfold Th.rk
 split
 ·rw [if_neg (by omega),if_pos (.inr h0)];omega
 ·omega
theorem XO {x:Rp} (ht:h.t=.idle x) (hpc:0≤h.pc∧h.pc≤7):(h.dP x).rk<h.rk:=by
 have hr:h.rk=if h.pc=0 then 2 else if h.pc=4∨h.pc=7 then 3 else if h.pc=6 then 4 else 1:=by unfold Th.rk;rw [ht]
 rcases (by omega:h.pc=0∨h.pc=1∨h.pc=2∨h.pc=3∨h.pc=4∨h.pc=5∨h.pc=6∨h.pc=7) with q | q | q | q | q | q | q | q
 ·rw [show h.rk=2 by rw [hr];simp [q]]
  unfold Th.dP Th.call
  rw [if_pos q]
  exact Nat.lt_of_le_of_lt (ZN rfl) (by omega)
 ·rw [show h.rk=1 by rw [hr];simp [q]]
  unfold Th.dP Th.call
  rw [if_neg (by omega),if_pos q]
  simp [Th.with,RT.begin,Ca.of,Ca.zero,Th.rk]
 ·rw [show h.rk=1 by rw [hr];simp [q]]
  unfold Th.dP Th.call
  rw [if_neg (by omega),if_neg (by omega),if_pos q]
  by_cases h0:x.word.slot=0
  ·simp [Th.with,RT.begin,Ca.of,Ca.zero,Th.rk,h0]
  ·simp [Th.with,RT.begin,Ca.of,Ca.zero,Th.rk,h0]
 ·rw [show h.rk=1 by rw [hr];simp [q]]
  unfold Th.dP Th.call
  rw [if_neg (by omega),if_neg (by omega),if_neg (by omega),if_pos q]
  by_cases hd:h.l.bu
  ·simp [Th.with,RT.begin,Ca.of,Ca.zero,Th.rk,hd]
  ·simp [Th.with,RT.begin,Ca.of,Ca.zero,Th.rk,hd]
 ·rw [show h.rk=3 by rw [hr];simp [q]]
  unfold Th.dP Th.call
  rw [if_neg (by omega),if_neg (by omega),if_neg (by omega),if_neg (by omega),if_pos q]
  cases hx:x.ok with
  | false =>
   rw [if_pos rfl]
   exact Nat.lt_of_le_of_lt (XN rfl) (by omega)
  | true =>
   rw [if_neg (by decide)]
   simp [Th.with,RT.begin,Ca.of,Ca.zero,Th.rk]
 ·rw [show h.rk=1 by rw [hr];simp [q]]
  unfold Th.dP Th.call
  rw [if_neg (by omega),if_neg (by omega),if_neg (by omega),if_neg (by omega),if_neg (by omega),if_pos q]
  simp [Th.with,RT.begin,Ca.of,Ca.zero,Th.rk]
 ·rw [show h.rk=4 by rw [hr];simp [q]]
  unfold Th.dP Th.call
  rw [if_neg (by omega),if_neg (by omega),if_neg (by omega),if_neg (by omega),if_neg (by omega),if_neg (by omega),if_pos q]
  exact Nat.lt_of_le_of_lt (ZO rfl) (by omega)
 ·rw [show h.rk=3 by rw [hr];simp [q]]
  unfold Th.dP Th.call
  rw [if_neg (by omega),if_neg (by omega),if_neg (by omega),if_neg (by omega),if_neg (by omega),if_neg (by omega),if_neg (by omega)]
  exact Nat.lt_of_le_of_lt (XN rfl) (by omega)
theorem VD {x:Rp} (hb:h.bad=false) (hx:h.pc=3→h.old.slot≠0→x.word.num=dV h.old):(h.dP x).bad=false:=by
 unfold Th.dP Th.call
 by_cases q:h.pc=3
 ·rw [if_neg (by omega),if_neg (by omega),if_neg (by omega),if_pos q]
  show (h.bad || (h.old.slot != 0 && x.word.num != dV h.old))=false
  rw [hb,Bool.false_or]
  by_cases h0:h.old.slot=0
  ·rw [h0];rfl
  ·rw [hx q h0];simp
 ·repeat' first
   | (split)
   | (exact absurd (by assumption) q)
   | (exact hb)
theorem Inv.go (hi:i<n):∀(k:Nat) {T:Nat→Th} {own:Int→iy},Inv n e p T own A→(T i).bad=false→(T i).rk<k→∃own',Inv n e p (bA T i ((T i).go k).1) own' A∧((T i).go k).1.bad=false ∧
  (((T i).go k).2=some true∧((T i).go k).1.stop=true∧((T i).go k).1.pc=0∧((T i).go k).1.t.aW=0∨((T i).go k).2=none∧((T i).go k).1.t.aW≠0)
 | 0,T,own,H,hb,hr=>absurd hr (Nat.not_lt_zero _)
 | k+1,T,own,H,hb,hr=>by
  by_cases h0:(T i).t.aW=0
  ·obtain ⟨x,ht⟩:=RT.iP h0
   rw [Th.sU ht]
   have hsh:=(H.loc i hi).jN
   unfold Th.sh at hsh
   rw [ht] at hsh
   by_cases hst:(T i).stop=true∧(T i).pc=0
   ·rw [if_pos hst]
    exact ⟨own,by rw [zV];exact H,hb,.inl ⟨rfl,hst.1,hst.2,h0⟩⟩
   ·rw [if_neg hst]
    obtain ⟨Kh,H1⟩:=H.dP hi ht
    have:=Inv.go hi k (T:=bA T i ((T i).dP x)) H1 (by rw [aF];exact VD hb hsh.2) (by rw [aF];exact Nat.lt_of_lt_of_le (XO ht hsh.1) (by omega))
    rw [aF,LV] at this
    exact this
  ·rw [Th.nA h0]
   exact ⟨own,by rw [zV];exact H,hb,.inr ⟨rfl,h0⟩⟩
theorem Th.Loc.fits (L:h.Loc e n p i):h.t.fits h.l:=by
 have hsh:=L.jN
 unfold Th.sh at hsh
 have jT:=L.iA
 unfold RT.fits
 cases ht:h.t with
 | ji c w=>rw [ht] at hsh;exact L.bu.2 hsh.2.2
 | je=>rw [ht] at hsh;exact jT.trans hsh.2
 | iE c=>rw [ht] at hsh;exact jT.trans hsh.2.1
 | dO=>rw [ht] at hsh;exact jT.trans hsh.2
 | bV c s=>rw [ht] at hsh;exact fun h=>hsh.2.1 (jT.symm.trans h)
 | fU c=>rw [ht] at hsh;rw [hsh.2];exact ⟨by decide,by decide⟩
 | fA c a=>rw [ht] at hsh;rw [hsh.2.1];exact ⟨by decide,by decide⟩
 | _=>trivial
theorem Inv.step (H:Inv n e p T own A) (hi:i<n) (hb:(T i).bad=false):∃own' A',Inv n e ((T i).step p).2.1 (bA T i ((T i).step p).1) own' A'∧((T i).step p).2.2=true∧((T i).step p).1.bad=false∧((T i).go 12).1.t.fits ((T i).go 12).1.l ∧
  (p.steps≤((T i).step p).2.1.steps∧((T i).step p).2.1.steps≤p.steps+1):=by
 obtain ⟨Kh,H1,hb1,hc⟩:=Inv.go (A:=A) hi 12 H hb (Nat.lt_of_le_of_lt (NT _) (by omega))
 have hf:((T i).go 12).1.t.fits ((T i).go 12).1.l:=by
  have:=(H1.loc i hi).fits
  rw [aF] at this
  exact this
 unfold Th.step
 generalize hg:(T i).go 12=g at *
 obtain ⟨g1,g2⟩:=g
 simp only at H1 hb1 hc hf ⊢
 rcases hc with ⟨rfl,c2,c3⟩ | ⟨rfl,c2⟩
 ·exact ⟨Kh,A,H1,rfl,hb1,hf,Int.le_refl _,by show p.steps≤p.steps+1;omega⟩
 ·simp only
  rw [if_neg c2]
  obtain ⟨p',x,XP,A2,ha,hI⟩:=H1.acc hi (by rw [aF];exact c2)
  rw [aF] at ha hI
  rw [LV] at hI
  have hst:=PS.Pg p (g1.t.acc g1.l)
  rw [ha] at hst ⊢
  exact ⟨XP,A2,hI,rfl,hb1,hf,hst.2,hst.1⟩
def Th.new (e:Int) (me n:Nat) (most:Int):Th:=⟨⟨e,me,n,most,fun _=>Wd.zero,Sp.zero,[],0⟩,.idle ⟨Wd.zero,false⟩,0,Wd.zero,Wd.zero,false,false⟩
theorem Inv.init {most:Int} (hok:p.OK) (hnb:p.nb=85) (hg:p.gV=true) (h6:1≤n∧n≤6) (h5:1≤e∧e≤5) (hm:1≤most) (hbd:∀k,k≠24→p.bd k=Wd.zero) (hck:p.bd 24=dW 1) (hu:∀k,p.used k=false) :
  Inv n e p (fun i=>Th.new e i n most) (fun _=>.free) (fun _=>1):=by
 have XQ:p.aB=1:=by unfold PS.aB;rw [hck];rfl
 have hrt:p.rt=none:=by unfold PS.rt;rw [hbd 0 (by omega)];rfl
 refine ⟨hok,hnb,hg,h6,h5,by rw [XQ];exact ⟨hck,by omega⟩,by rw [hbd 0 (by omega)];exact ⟨rfl,rfl⟩,?_,fun i hi=>?_,fun i hi=>⟨rfl,rfl,rfl⟩,fun i hi w hw=>(by cases hw),fun s hs=>absurd rfl hs.1,fun i hi w hw=>(by cases hw),fun s hs=>absurd rfl hs,fun i m hm=>(by cases hm),fun i hi o b h=>(by cases h),fun i hi w hw=>(by cases hw),fun _ i hi h=>?_⟩
 ·rw [hrt]
  refine ⟨fun s _ _=>?_,fun s h=>absurd rfl h,fun o w hc=>?_,fun s h=>absurd rfl h,fun s h=>(by cases h),fun i=>List.nodup_nil⟩
  ·rw [hu];exact ⟨fun h=>(by cases h),fun h=>absurd rfl h⟩
  ·cases o with
   | note i=>obtain ⟨m,hm,_⟩:=hc;cases hm
   | root=>cases hc
   | hand i=>cases hc
   | cut i=>cases hc
   | _=>exact hc.elim
 ·refine ⟨rfl,rfl,rfl,hm,fun k _=>rfl,fun k _ _=>hbd _ (by omega),fun _ _=>⟨rfl,hbd _ (by omega)⟩,fun _ _=>⟨rfl,hbd _ (by omega)⟩,fun _=>?_,.inl rfl,.inl (hbd _ (by omega)),fun _=>hbd _ (by omega),fun _=>hbd _ (by omega),fun _ hb=>?_,fun _=>⟨rfl,rfl⟩,⟨⟨show (0:Int)≤0 by decide,show (0:Int)≤7 by decide⟩,fun h=>absurd (show (0:Int)=3 from h) (by decide)⟩⟩
  ·rw [hbd _ (by omega),XQ]
   exact ⟨show (0:Int)≤1 by decide,show (0:Int)≤1 by decide⟩
  ·exact absurd (show (1:Int)≤0 from hb) (by decide)
 ·rw [hbd _ (by omega)] at h
  cases h
end
structure Wb (k:Int) (w:Wd):Prop where
 s:-2000≤w.slot∧w.slot≤2000
 g:-k≤w.gen∧w.gen≤k
 t:-(2000 * k+3000)≤w.tag∧w.tag≤2000 * k+3000
 n:-(2000 * k+3000)≤w.num∧w.num≤2000 * k+3000
theorem Wb.mono {k k':Int} {w:Wd} (h:Wb k w) (hk:k≤k'):Wb k' w:=by
 obtain ⟨h1,h2,h3,h4⟩:=h
 exact ⟨h1,by omega,by omega,by omega⟩
theorem Wb.zero {k:Int} (h:0≤k):Wb k Wd.zero:=by
 refine ⟨?_,?_,?_,?_⟩ <;> simp [Wd.zero] <;> omega
theorem Wb.num {k n:Int} (h:0≤k) (hn:-(2000 * k+3000)≤n∧n≤2000 * k+3000):Wb k (Wd.dG n):=by
 refine ⟨?_,?_,?_,hn⟩ <;> simp [Wd.dG] <;> omega
theorem Wb.ref {k:Int} {w:Wd} (h0:0≤k) (h:Wb k w):Wb k w.dK:=by
 obtain ⟨h1,h2,h3,h4⟩:=h
 refine ⟨h1,h2,?_,?_⟩ <;> simp [Wd.dK] <;> omega
structure PS.wb (k:Int) (p:PS):Prop where
 bd:∀i,Wb k (p.bd i)
 cell:∀i j,Wb k (p.cell i j)
theorem PS.wb.mono {k k':Int} {p:PS} (h:p.wb k) (hk:k≤k'):p.wb k':=⟨fun i=>(h.bd i).mono hk,fun i j=>(h.cell i j).mono hk⟩
theorem PS.wb.at {k:Int} {p:PS} (h:p.wb k) (s f:Int):Wb k (p.at s f):=by
 unfold PS.at
 split
 ·exact h.bd _
 ·exact h.cell _ _
theorem PS.wb.put {k:Int} {p:PS} (h:p.wb k) {s f:Int} {w:Wd} (hw:Wb k w):(p.put s f w).wb k:=by
 unfold PS.put
 split
 ·refine ⟨fun i=>?_,h.cell⟩
  show Wb k (if i=f.toNat then w else p.bd i)
  split
  ·exact hw
  ·exact h.bd i
 ·refine ⟨h.bd,fun i j=>?_⟩
  show Wb k (if i=(s-1).toNat∧j=f.toNat then w else p.cell i j)
  split
  ·exact hw
  ·exact h.cell i j
theorem PS.wb.act {k:Int} {p:PS} {a:Ac} (h0:0≤k) (h:p.wb k) (hok:p.OK) (hs:p.steps≤k) (ha:Wb (k+1) a.new):(p.act a).1.wb (k+1)∧∀x,(p.act a).2=some x→Wb (k+1) x.word:=by
 have h':p.wb (k+1):=h.mono (by omega)
 have hz:Wb (k+1) Wd.zero:=Wb.zero (by omega)
 unfold PS.act
 by_cases hv:p.valid a
 ·rw [if_pos hv]
  by_cases hr:p.right a
  ·rw [if_pos hr]
   have q:(PS.wb (k+1) {p with steps:=p.steps+1}):=⟨h'.bd,h'.cell⟩
   suffices hm:(PS.makes {p with steps:=p.steps+1} a).1.wb (k+1)∧Wb (k+1) (PS.makes {p with steps:=p.steps+1} a).2.word from ⟨hm.1,fun x hx=>by cases hx;exact hm.2⟩
   unfold PS.makes
   split
   ·unfold PS.alloc
    split
    ·exact ⟨q,hz⟩
    ·rename_i hnf
     have aaP:¬p.nf=0:=hnf
     have aaQ:=hok.nf
     have hfr:=hok.fr (p.nf-1).toNat (by omega)
     have hg:=hok.gen (p.fr (p.nf-1).toNat-1).toNat
     have hmd:=hok.made
     have hns:=hok.ns
     refine ⟨⟨h'.bd,fun i j=>?_⟩,?_⟩
     ·show Wb (k+1) (if i=(p.fr (p.nf-1).toNat-1).toNat∧j<10 then oL a.new.num j else p.cell i j)
      split
      ·unfold oL
       split
       ·exact ⟨hz.s,hz.g,hz.t,ha.n⟩
       ·exact hz
      ·exact h'.cell i j
     ·refine ⟨?_,?_,?_,?_⟩
      ·show -2000≤p.fr (p.nf-1).toNat∧p.fr (p.nf-1).toNat≤2000
       omega
      ·show -(k+1)≤p.gen (p.fr (p.nf-1).toNat-1).toNat+1∧p.gen (p.fr (p.nf-1).toNat-1).toNat+1≤k+1
       omega
      ·show -(2000 * (k+1)+3000)≤0∧0≤2000 * (k+1)+3000
       omega
      ·show -(2000 * (k+1)+3000)≤0∧0≤2000 * (k+1)+3000
       omega
   split
   ·exact ⟨⟨h'.bd,h'.cell⟩,hz⟩
   split
   ·exact ⟨q,q.at _ _⟩
   split
   ·exact ⟨q.put ha,hz⟩
   split
   ·exact ⟨q.put ha,q.at _ _⟩
   ·exact ⟨q,q.at _ _⟩
  ·rw [if_neg hr]
   refine ⟨⟨h'.bd,h'.cell⟩,fun x hx=>?_⟩
   cases hx
   unfold fO
   split
   ·exact ⟨hz.s,hz.g,hz.t,by show -(2000 * (k+1)+3000)≤-1∧(-1:Int)≤2000 * (k+1)+3000;omega⟩
   ·exact hz
 ·rw [if_neg hv]
  exact ⟨h',fun x hx=>by cases hx⟩
def RT.wb (k:Int):RT→Prop
 | .idle x=>Wb k x.word
 | .one a=>Wb (k+1) a.new
 | .fin a=>Wb (k+1) a.new
 | .ji _ w=>Wb k w
 | .fA _ a=>Wb (k+1) a.new
 | .jC old=>Wb k old
 | .dU old _=>Wb k old
 | .jZ c=>Wb k c
 | .bV c _=>Wb k c
 | .iE c=>Wb k c
 | _=>True
structure Lo.wb (k:Int) (l:Lo):Prop where
 h:∀i,Wb k (l.h i)
 lo:-(2000 * k+3000)≤l.s.low∧l.s.low≤2000 * k+3000
 hi:-(2000 * k+3000)≤l.s.high∧l.s.high≤2000 * k+3000
structure vG (k:Int) (q:LR):Prop where
 l:q.1.wb k
 t:q.2.wb k
section
variable {k:Int} {l:Lo}
theorem Lo.wb.mono {k':Int} (h:l.wb k) (hk:k≤k'):l.wb k':=⟨fun i=>(h.h i).mono hk,by have:=h.lo;omega,by have:=h.hi;omega⟩
theorem Lo.wb.hold (h:l.wb k) {w:Wd} (hw:Wb k w) (n:Int):(l.hold n w).wb k:=by
 refine ⟨fun i=>?_,h.lo,h.hi⟩
 show Wb k (if i=n.toNat then w else l.h i)
 split
 ·exact hw
 ·exact h.h i
theorem gH {c:Prop} [Decidable c] {a b:LR} (h1:c→vG k a) (h2:¬c→vG k b):vG k (if c then a else b):=by
 split
 ·exact h1 (by assumption)
 ·exact h2 (by assumption)
theorem LW (h0:0≤k) {s:Sp} (h1:-(2000 * k+3000)≤s.low∧s.low≤2000 * k+3000) (h2:-(2000 * k+3000)≤s.high∧s.high≤2000 * k+3000):Wb k (RS.lQ s):=by
 unfold RS.lQ
 split
 ·refine ⟨?_,?_,h2,h1⟩
  ·show (-2000:Int)≤0∧(0:Int)≤2000
   exact ⟨by decide,by decide⟩
  ·show -k≤0∧0≤k
   omega
 ·exact Wb.zero h0
theorem Ki (h0:0≤k) (h:l.wb k) (n:Int):vG k (RT.leave l n):=by
 have hz:∀{k:Int},0≤k→Wb k Wd.zero:=Wb.zero
 unfold RT.leave
 refine gH (fun _=>⟨⟨h.h,by show -(2000 * k+3000)≤0∧0≤2000 * k+3000;omega,by show -(2000 * k+3000)≤0∧0≤2000 * k+3000;omega⟩,?_⟩) fun _=>gH (fun _=>?_) fun _=>⟨h,hz h0⟩
 ·exact hz (by omega)
 ·split
  ·exact ⟨h.hold (hz h0) _,trivial⟩
  ·exact ⟨h,hz h0⟩
theorem FJ (h0:0≤k) (h:l.wb k):vG k (RT.scan l):=by
 unfold RT.scan
 exact gH (fun _=>⟨h,Wb.zero h0⟩) fun _=>gH (fun _=>⟨h,trivial⟩) fun _=>⟨h,Wb.zero h0⟩
theorem CK (h0:0≤k) (h:l.wb k):vG k (RT.dn l):=by
 unfold RT.dn
 exact gH (fun _=>FJ h0 h) fun _=>⟨h,Wb.zero h0⟩
theorem Qv (h0:0≤k) (h:l.wb k) {w:Wd} (hw:Wb k w):vG k (RT.ed l w):=by
 unfold RT.ed
 exact gH (fun _=>CK h0 ⟨h.h,h.lo,h.hi⟩) fun _=>gH (fun _=>⟨h,hw⟩) fun _=>gH (fun _=>⟨h,hw⟩) fun _=>⟨h,Wb.zero h0⟩
theorem Tp (h0:0≤k) (h:l.wb k) {c:Ca} (hn:Wb (k+1) c.new) (ho:Wb k c.old):vG k (RT.begin l c):=by
 have hz:∀{k:Int},0≤k→Wb k Wd.zero:=Wb.zero
 unfold RT.begin
 refine gH (fun _=>gH (fun _=>⟨h,trivial⟩) fun _=>⟨h,hz h0⟩) fun _=>gH (fun _=>Ki h0 h 0) fun _=>gH (fun _=>⟨h,?_⟩) fun _=>gH (fun _=>⟨h,hn⟩) fun _=>gH (fun _=>⟨h,hn⟩) fun _=>gH (fun _=>⟨h,trivial⟩) fun _ =>
  gH (fun _=>gH (fun _=>⟨h.hold (h.h _) _,(h.h _).mono (by omega)⟩) fun _=>⟨h,hz h0⟩) fun _=>gH (fun _=>gH (fun _=>⟨h,trivial⟩) fun _=>⟨h,?_⟩) fun _=>gH (fun _=>⟨h,?_⟩) fun _=>gH (fun _=>Qv h0 h ho) fun _=>FJ h0 h
 ·exact hz (by omega)
 ·exact hz (by omega)
 ·exact hz (by omega)
theorem FL (h0:0≤k) (h:l.wb k) (r:List Nt):vG k (RT.fw l r):=by
 cases r
 ·exact ⟨h,Wb.zero h0⟩
 ·exact ⟨h,trivial⟩
theorem VE (h0:0≤k) (h:l.wb k) {t:RT} (ht:t.wb k) {x:Rp} (hx:Wb (k+1) x.word):vG (k+1) (RT.aK l t x):=by
 have h':l.wb (k+1):=h.mono (by omega)
 have hz:∀{k:Int},0≤k→Wb k Wd.zero:=Wb.zero
 have hz1:Wb (k+1) Wd.zero:=hz (by omega)
 have xn:-(2000 * (k+1)+3000)≤x.word.num∧x.word.num≤2000 * (k+1)+3000:=hx.n
 have hs:Wb (k+1) (Wd.dG x.word.num):=Wb.num (by omega) xn
 cases t with
 | idle y=>exact ⟨h',Wb.mono ht (by omega)⟩
 | one a=>exact ⟨h',hx⟩
 | fin a=>exact ⟨h',hz1⟩
 | pK=>exact ⟨⟨h'.h,xn,xn⟩,(LW (k:=k+1) (s:=⟨true,x.word.num,x.word.num⟩) (by omega) xn xn).mono (by omega)⟩
 | jm i=>exact Ki (by omega) h' _
 | fU c =>
  exact gH (fun _=>⟨h',hx⟩) fun _=>gH (fun _=>⟨h'.hold (hx.ref (by omega)) _,(hx.ref (by omega):Wb (k+1) _).mono (by omega)⟩) fun _=>⟨h',hx⟩
 | ji c w =>
  refine gH (fun _=>⟨h',Wb.mono ht (by omega)⟩) fun _=>gH (fun _=>⟨h'.hold hs _,hs.mono (by omega)⟩) fun _=>?_
  have hl:-(2000 * (k+1)+3000)≤(if l.s.is=true then l.s.low else x.word.num)∧(if l.s.is=true then l.s.low else x.word.num)≤2000 * (k+1)+3000:=by
   split
   ·exact h'.lo
   ·exact xn
  exact ⟨⟨h'.h,hl,xn⟩,(LW (k:=k+1) (s:=⟨true,if l.s.is=true then l.s.low else x.word.num,x.word.num⟩) (by omega) hl xn).mono (by omega)⟩
 | fA c a=>exact ⟨h',trivial⟩
 | ou=>exact ⟨h',hs.mono (by omega)⟩
 | jC old=>exact ⟨h',Wb.mono ht (by omega)⟩
 | dU old b=>exact gH (fun _=>⟨⟨h'.h,h'.lo,h'.hi⟩,hx⟩) fun _=>CK (by omega) ⟨h'.h,h'.lo,h'.hi⟩
 | jZ c=>exact CK (by omega) h'
 | je=>exact ⟨h',hx⟩
 | bV c seen =>
  exact gH (fun _=>⟨h',Wb.mono ht (by omega)⟩) fun _=>gH (fun _=>FL (by omega) h' _) fun _=>gH (fun _=>⟨h',Wb.mono ht (by omega)⟩) fun _=>⟨h',trivial⟩
 | iE c=>exact ⟨h',trivial⟩
 | dO=>exact FL (by omega) h' _
 | fe d r=>exact FL (l:={l with notes:=l.notes.erase d,freed:=l.freed+1}) (by omega) ⟨h'.h,h'.lo,h'.hi⟩ r
theorem Qw (h0:0≤k) {t:RT} (ht:t.wb k) (h:l.wb k):Wb (k+1) (t.acc l).new:=by
 have hz:Wb (k+1) Wd.zero:=Wb.zero (by omega)
 have eO:∀{c:Wd},Wb k c→Wb (k+1) ⟨0,0,c.tag+1,c.num+1,false⟩:=fun {c} hc=>by
  obtain ⟨a,b,d,e⟩:=hc
  refine ⟨⟨by show (-2000:Int)≤0;decide,by show (0:Int)≤2000;decide⟩,?_,?_,?_⟩
  ·show -(k+1)≤0∧0≤k+1
   omega
  ·show -(2000 * (k+1)+3000)≤c.tag+1∧c.tag+1≤2000 * (k+1)+3000
   omega
  ·show -(2000 * (k+1)+3000)≤c.num+1∧c.num+1≤2000 * (k+1)+3000
   omega
 cases t with
 | one a=>exact ht
 | fin a=>exact ht
 | fA c a=>exact ht
 | jZ c=>exact eO ht
 | iE c=>exact eO ht
 | _=>exact hz
end
structure Th.wb (k:Int) (h:Th):Prop where
 old:Wb k h.old
 node:Wb k h.node
 l:h.l.wb k
 t:h.t.wb k
section
variable {k:Int} {h:Th}
theorem Th.wb.mono {k':Int} (H:h.wb k) (h0:0≤k) (hk:k≤k'):h.wb k':=by
 refine ⟨H.old.mono hk,H.node.mono hk,H.l.mono hk,?_⟩
 have ht:=H.t
 revert ht
 cases h.t <;> intro ht <;> first | exact trivial | exact Wb.mono ht (by omega)
theorem XR (h0:0≤k) {w:Wd} (h:Wb k w):Wb k (Wd.dG (dV w)):=by
 obtain ⟨a,b,c,d⟩:=h
 refine Wb.num h0 ?_
 unfold dV
 omega
theorem Th.wb.call (h0:0≤k) (H:h.wb k) {x:Rp} (hx:Wb k x.word):(h.call x).1.wb k∧Wb (k+1) (h.call x).2.new∧Wb k (h.call x).2.old:=by
 have hz:Wb k Wd.zero:=Wb.zero h0
 have hz1:Wb (k+1) Wd.zero:=Wb.zero (by omega)
 have hk1:Wb (k+1) (⟨h.node.slot,h.node.gen,h.old.tag+1,0,false⟩:Wd):=by
  have a:=H.node
  have b:=H.old
  refine ⟨a.s,?_,?_,?_⟩
  ·have:=a.g
   show -(k+1)≤h.node.gen∧h.node.gen≤k+1
   omega
  ·have:=b.t
   show -(2000 * (k+1)+3000)≤h.old.tag+1∧h.old.tag+1≤2000 * (k+1)+3000
   omega
  ·show -(2000 * (k+1)+3000)≤0∧0≤2000 * (k+1)+3000
   omega
 have hm1:=(XR h0 hx).mono (show k≤k+1 by omega)
 have st:∀{pc:Int} {b:Bool},Th.wb k {h with pc:=pc,bad:=b}:=⟨H.old,H.node,H.l,H.t⟩
 have so:∀{pc:Int},Th.wb k {h with pc:=pc,old:=x.word}:=⟨hx,H.node,H.l,H.t⟩
 have sn:∀{pc:Int},Th.wb k {h with pc:=pc,node:=x.word}:=⟨H.old,hx,H.l,H.t⟩
 unfold Th.call
 split
 ·exact ⟨st,hz1,hz⟩
 split
 ·exact ⟨st,hz1,hz⟩
 split
 ·refine ⟨so,?_,?_⟩
  ·show Wb (k+1) (Ca.new (if x.word.slot=0 then Ca.of 3 else {Ca.of 3 with slot:=x.word.slot,gen:=x.word.gen,field:=1}))
   split <;> exact hz1
  ·show Wb k (Ca.old (if x.word.slot=0 then Ca.of 3 else {Ca.of 3 with slot:=x.word.slot,gen:=x.word.gen,field:=1}))
   split <;> exact hz
 split
 ·exact ⟨st,hz1,hz⟩
 split
 ·split
  ·exact ⟨st,hz1,hz⟩
  ·exact ⟨sn,hm1,hz⟩
 split
 ·exact ⟨st,hk1,H.old⟩
 split
 ·refine ⟨st,?_,?_⟩
  ·show Wb (k+1) (Ca.new (if x.ok=false then {Ca.of 9 with old:=h.node} else if h.old.slot=0 then Ca.of 3 else {Ca.of 10 with old:=h.old}))
   split
   ·exact hz1
   split <;> exact hz1
  ·show Wb k (Ca.old (if x.ok=false then {Ca.of 9 with old:=h.node} else if h.old.slot=0 then Ca.of 3 else {Ca.of 10 with old:=h.old}))
   split
   ·exact H.node
   split
   ·exact hz
   ·exact H.old
 ·exact ⟨st,hz1,hz⟩
theorem Th.wb.dP (h0:0≤k) (H:h.wb k) {x:Rp} (hx:Wb k x.word):(h.dP x).wb k:=by
 obtain ⟨a,b,c⟩:=H.call h0 hx
 obtain ⟨d,e⟩:=Tp h0 a.l b c
 exact ⟨a.old,a.node,d,e⟩
theorem Th.wb.aK (h0:0≤k) (H:h.wb k) {x:Rp} (hx:Wb (k+1) x.word):(h.aK x).wb (k+1):=by
 obtain ⟨a,b⟩:=VE h0 H.l H.t hx
 exact ⟨H.old.mono (by omega),H.node.mono (by omega),a,b⟩
end
section
variable {n:Nat} {e:Int} {p:PS} {T:Nat→Th} {own:Int→iy} {A:Nat→Int} {i:Nat} {h h':Th}
theorem KI {l:Lo} {c:Ca} (hc:c.kind≠10):(RT.begin l c).1.notes=l.notes:=by
 have hif:∀{q:Prop} [Decidable q] {a b:LR},a.1.notes=l.notes→b.1.notes=l.notes→(if q then a else b).1.notes=l.notes:=fun {q} _ {a b} h1 h2=>by
  by_cases h:q
  ·rw [if_pos h];exact h1
  ·rw [if_neg h];exact h2
 have hl:(RT.leave l 0).1.notes=l.notes:=by
  refine hif rfl (hif ?_ rfl)
  cases RS.first l.h (0:Int).toNat (9-(0:Int).toNat) <;> rfl
 have hs:(RT.scan l).1.notes=l.notes:=hif rfl (hif rfl rfl)
 unfold RT.begin
 refine hif (hif rfl rfl)<|hif hl<|hif rfl<|hif rfl<|hif rfl<|hif rfl<|hif (hif rfl rfl)<|hif (hif rfl rfl)<|hif rfl ?_
 rw [if_neg hc]
 exact hs
theorem Kj {l:Lo} {w:Wd}:(RT.ed l w).1.notes=l.notes∨(l.aj=2∧RT.ed l w=RT.dn (RT.note l w 0 0)):=by
 unfold RT.ed
 by_cases h2:l.aj=2
 ·rw [if_pos h2];exact .inr ⟨h2,rfl⟩
 ·rw [if_neg h2]
  left
  by_cases h4:l.aj=4
  ·rw [if_pos h4]
  ·rw [if_neg h4]
   by_cases h3:l.aj=3∨l.aj=5
   ·rw [if_pos h3]
   ·rw [if_neg h3]
theorem l9:∀{l m:List Int},l.Nodup→(∀x∈l,x∈m)→l.length≤m.length
 | [],m,_,_=>Nat.zero_le _
 | x :: l,m,h,hs=>by
  rw [List.nodup_cons] at h
  have hx:=hs x (List.mem_cons_self ..)
  have:=l9 (l:=l) (m:=m.erase x) h.2 fun y hy=>by
   have hne:y≠x:=fun e=>h.1 (by rw [←e];exact hy)
   exact (List.mem_erase_of_ne hne).2 (hs y (List.mem_cons_of_mem _ hy))
  rw [List.length_erase_of_mem hx] at this
  have:=List.length_pos_of_mem hx
  simp only [List.length_cons]
  omega
end
def Th.gd (p:PS) (h:Th):Prop:=(h.l.aj=2→(p.bd 0).slot=0∨h.l.h 0=(p.bd 0).dK)∧(h.l.aj=3∨h.l.aj=5→RT.bZ h.l 0 p.aB)
instance (p:PS) (h:Th):Decidable (h.gd p):=by unfold Th.gd;exact inferInstance
def Th.left (p:PS) (h:Th):Int :=
 match h.t with
 | .idle _=>if h.pc=0 then 0 else if h.pc=7 then 2 else (if h.pc=6 then 10 else if h.pc=5 then 12 else if h.pc=4 then 14 else if h.pc=3 then 17 else if h.pc=2 then 19 else 26)+(h.l.notes.length+h.l.all)
 | .one _=>if h.pc=7 then 3 else (if h.pc=6 then 11 else if h.pc=5 then 13 else if h.pc=4 then 15 else 18)+(h.l.notes.length+h.l.all)
 | .fin _=>if h.pc=0 then 1 else if h.pc=7 then 3 else 27+(h.l.notes.length+h.l.all)
 | .pK=>28+(h.l.notes.length+h.l.all)
 | .jm _=>1
 | .fU _=>(if h.gd p then 21 else 24)+(h.l.notes.length+h.l.all)
 | .ji _ _=>(if h.gd p then 20 else 23)+(h.l.notes.length+h.l.all)
 | .fA _ _=>(if h.gd p then 22 else 25)+(h.l.notes.length+h.l.all)
 | .ou=>16+(h.l.notes.length+h.l.all)
 | .jC _=>9+(h.l.notes.length+h.l.all)
 | .dU _ _=>8+(h.l.notes.length+h.l.all)
 | .jZ _=>6+(h.l.notes.length+h.l.all)
 | .je=>5+(h.l.notes.length+h.l.all)
 | .bV _ seen=>4+(h.l.notes.length+(h.l.all-seen.length))
 | .iE _=>4+h.l.notes.length
 | .dO=>3+h.l.notes.length
 | .fe _ r=>3+r.length
section
variable {n:Nat} {e:Int} {p p':PS} {T:Nat→Th} {own:Int→iy} {A:Nat→Int} {i:Nat} {h h':Th}
theorem VF (L:h.Loc e n p i) (h6:1≤n∧n≤6) (hr:∀d r,h.t=.fe d r→r.length≤h.l.notes.length):h.left p≤28+(h.l.notes.length+h.l.all):=by
 have ha:=L.nC h6
 unfold Th.left
 cases ht:h.t <;> simp only
 all_goals try (have:=hr _ _ ht)
 all_goals repeat' first
  | omega
  | (split)
theorem x8 (L:h.Loc e n p i) (h6:1≤n∧n≤6) (hne:¬(h.pc=0∧h.t.aW=0)):0<h.left p:=by
 have ha:=L.nC h6
 have hsh:=L.jN
 unfold Th.sh at hsh
 unfold Th.left
 cases ht:h.t with
 | idle x =>
  rw [ht] at hne
  simp only
  rw [if_neg (fun h0=>hne ⟨h0,rfl⟩)]
  repeat' first
   | omega
   | (split)
 | bV c s =>
  rw [ht] at hsh
  have:=hsh.2.2.1
  simp only
  omega
 | _ =>
  simp only
  repeat' first
   | omega
   | (split)
theorem Tq (L:h.Loc e n p i) (h6:1≤n∧n≤6) (he:1≤e∧e≤5) {x:Rp} (ht:h.t=.idle x) (h0:h.pc≠0):(h.dP x).left p≤h.left p:=by
 have ha:=L.nC h6
 have hsh:=L.jN
 unfold Th.sh at hsh
 rw [ht] at hsh
 have hr:h.left p=if h.pc=0 then 0 else if h.pc=7 then 2 else (if h.pc=6 then 10 else if h.pc=5 then 12 else if h.pc=4 then 14 else if h.pc=3 then 17 else if h.pc=2 then 19 else 26)+(h.l.notes.length+h.l.all):=by unfold Th.left;rw [ht]
 have hlv:∀g:Th,g.pc=0→(g.with (RT.leave h.l 0)).left p≤1:=by
  intro g hg
  rcases Bl L he with ⟨_,_,q⟩ | ⟨_,_,q⟩ | ⟨_,_,q⟩
  ·rw [q];simp [Th.left,Th.with,hg]
  ·rw [q];simp [Th.left,Th.with]
  ·rw [q];simp [Th.left,Th.with,hg]
 rcases (by omega:h.pc=1∨h.pc=2∨h.pc=3∨h.pc=4∨h.pc=5∨h.pc=6∨h.pc=7) with q | q | q | q | q | q | q
 ·rw [show h.left p=26+(h.l.notes.length+h.l.all) by rw [hr];simp [q]]
  unfold Th.dP Th.call
  rw [if_neg (by omega),if_pos q]
  simp only [Th.with,RT.begin,Ca.of,Ca.zero,Th.left]
  simp
  split <;> omega
 ·rw [show h.left p=19+(h.l.notes.length+h.l.all) by rw [hr];simp [q]]
  unfold Th.dP Th.call
  rw [if_neg (by omega),if_neg (by omega),if_pos q]
  by_cases g:x.word.slot=0 <;> simp [Th.with,RT.begin,Ca.of,Ca.zero,Th.left,g] <;> omega
 ·rw [show h.left p=17+(h.l.notes.length+h.l.all) by rw [hr];simp [q]]
  unfold Th.dP Th.call
  rw [if_neg (by omega),if_neg (by omega),if_neg (by omega),if_pos q]
  by_cases g:h.l.bu <;> simp [Th.with,RT.begin,Ca.of,Ca.zero,Th.left,g] <;> omega
 ·rw [show h.left p=14+(h.l.notes.length+h.l.all) by rw [hr];simp [q]]
  unfold Th.dP Th.call
  rw [if_neg (by omega),if_neg (by omega),if_neg (by omega),if_neg (by omega),if_pos q]
  cases hx:x.ok with
  | false =>
   rw [if_pos rfl]
   have:=hlv {h with pc:=0} rfl
   simp only [RT.begin,Ca.of,Ca.zero]
   simp
   omega
  | true =>
   rw [if_neg (by decide)]
   simp [Th.with,RT.begin,Ca.of,Ca.zero,Th.left]
 ·rw [show h.left p=12+(h.l.notes.length+h.l.all) by rw [hr];simp [q]]
  unfold Th.dP Th.call
  rw [if_neg (by omega),if_neg (by omega),if_neg (by omega),if_neg (by omega),if_neg (by omega),if_pos q]
  simp [Th.with,RT.begin,Ca.of,Ca.zero,Th.left]
 ·rw [show h.left p=10+(h.l.notes.length+h.l.all) by rw [hr];simp [q]]
  unfold Th.dP Th.call
  rw [if_neg (by omega),if_neg (by omega),if_neg (by omega),if_neg (by omega),if_neg (by omega),if_neg (by omega),if_pos q]
  cases hx:x.ok with
  | false =>
   rw [if_pos rfl]
   simp [Th.with,RT.begin,Ca.of,Ca.zero,Th.left]
   omega
  | true =>
   rw [if_neg (by decide)]
   by_cases g0:h.old.slot=0
   ·rw [if_pos g0]
    simp [Th.with,RT.begin,Ca.of,Ca.zero,Th.left]
    omega
   ·rw [if_neg g0]
    show (({h with pc:=7}:Th).with (RT.ed h.l h.old)).left p≤_
    unfold RT.ed
    by_cases g2:h.l.aj=2
    ·rw [if_pos g2]
     have hlen:((RT.note h.l h.old 0 0).notes.length:Int)=h.l.notes.length+1:=by
      show ((h.l.notes ++ [_]).length:Int)=_
      simp
     have hal:(RT.note h.l h.old 0 0).all=h.l.all:=rfl
     rcases nT (l:=RT.note h.l h.old 0 0) with g | ⟨g1,g⟩ | ⟨g1,g3,g⟩
     ·rw [g];simp [Th.with,Th.left];omega
     ·rw [g];simp [Th.with,Th.left];omega
     ·rw [g];simp [Th.with,Th.left];omega
    ·rw [if_neg g2]
     by_cases g4:h.l.aj=4
     ·rw [if_pos g4];simp [Th.with,Th.left]
     ·rw [if_neg g4]
      by_cases g5:h.l.aj=3∨h.l.aj=5
      ·rw [if_pos g5];simp [Th.with,Th.left]
      ·rw [if_neg g5];simp [Th.with,Th.left];omega
 ·rw [show h.left p=2 by rw [hr];simp [q]]
  unfold Th.dP Th.call
  rw [if_neg (by omega),if_neg (by omega),if_neg (by omega),if_neg (by omega),if_neg (by omega),if_neg (by omega),if_neg (by omega)]
  have:=hlv {h with pc:=0} rfl
  simp only [RT.begin,Ca.of,Ca.zero]
  simp
  omega
theorem Qx (H:Inv n e p T own A) (hi:i<n) (hb:(T i).t.aW≠0) {x:Rp} (ha:p.act ((T i).t.acc (T i).l)=(p',some x)):((T i).aK x).left p'<(T i).left p:=by
 have L:=H.loc i hi
 have hpos:=L.nC H.n6
 have hsh:=L.jN
 unfold Th.sh at hsh
 have hnn:∀k:Nat,(0:Int)≤k:=fun k=>Int.natCast_nonneg k
 cases ht:(T i).t with
 | idle y=>rw [ht] at hb;exact absurd rfl hb
 | one a =>
  rw [ht] at hsh
  have htk:(T i).aK x={T i with l:=(T i).l,t:=.idle x}:=Th.bG ht rfl
  rw [htk]
  rcases hsh with ⟨q,_⟩ | ⟨q,_⟩ | ⟨q,_⟩ | ⟨q,_⟩ | ⟨q,_⟩ <;> simp [Th.left,ht,q]
 | fin a =>
  rw [ht] at hsh
  have htk:(T i).aK x={T i with l:=(T i).l,t:=.idle Rp.yes}:=Th.bG ht rfl
  rw [htk]
  rcases hsh with ⟨⟨q,_⟩ | ⟨q,_⟩,_⟩ | ⟨q,_⟩ <;> simp [Th.left,ht,q]
 | pK =>
  rw [ht] at hsh
  have htk:(T i).aK x={T i with l:={(T i).l with s:=⟨true,x.word.num,x.word.num⟩},t:=.fin (RT.fV (T i).l ⟨true,x.word.num,x.word.num⟩)}:=Th.bG ht rfl
  have hal:({(T i).l with s:=⟨true,x.word.num,x.word.num⟩}:Lo).all=(T i).l.all:=rfl
  rw [htk]
  simp [Th.left,ht,hsh.1,hal]
 | jm k =>
  have hoff:=L.off (by rw [ht] at hsh;exact hsh.1)
  rw [ht] at hsh
  obtain ⟨q,rfl,he⟩:=hsh
  have hlv:RT.leave (T i).l (0+1)=((T i).l,.idle Rp.yes):=by
   unfold RT.leave
   rw [if_neg (fun h=>h.2 hoff.2),if_pos (L.bf.2 he)]
   rw [show RS.first (T i).l.h (0+1:Int).toNat (9-(0+1:Int).toNat)=none from su fun j hj=>by
     by_cases h0:j=0
     · rw [h0];exact hoff.1
     · exact L.hz j h0]
  have htk:(T i).aK x={T i with l:=(T i).l,t:=.idle Rp.yes}:=Th.bG ht hlv
  rw [htk]
  simp [Th.left,ht,q]
 | fU c =>
  rw [ht] at hsh ha
  obtain ⟨q,rfl⟩:=hsh
  have h1:=(uW H).symm.trans ha
  obtain ⟨rfl,rfl⟩:p'={p with steps:=p.steps+1}∧x=⟨p.bd 0,true⟩:=by
   simp only [Prod.mk.injEq,Option.some.injEq] at h1
   exact ⟨h1.1.symm,h1.2.symm⟩
  have hl:(T i).left p=(if (T i).gd p then 21 else 24)+((T i).l.notes.length+(T i).l.all):=by unfold Th.left;rw [ht]
  rw [hl]
  by_cases hd:(T i).l.bu
  ·have htk:(T i).aK ⟨p.bd 0,true⟩={T i with l:=(T i).l,t:=.ji (Ca.of 6) (p.bd 0)}:=Th.bG ht (if_pos hd)
   rw [htk]
   show (if (T i).gd p then 20 else 23)+(((T i).l.notes.length:Int)+(T i).l.all)<_
   by_cases g:(T i).gd p
   ·rw [if_pos g,if_pos g];omega
   ·rw [if_neg g,if_neg g];omega
  ·by_cases g:(T i).l.aj=2∧(p.bd 0).slot≠0∧(T i).l.h (0:Int).toNat≠(p.bd 0).dK
   ·have htk:(T i).aK ⟨p.bd 0,true⟩={T i with l:=(T i).l.hold 0 (p.bd 0).dK,t:=.fA (Ca.of 6) (Ac.store 0 0 (25+(T i).l.me * 9+0) (p.bd 0).dK)}:=Th.bG ht (by
       show (if (T i).l.bu then _ else if (T i).l.aj=2∧(p.bd 0).slot≠0∧(T i).l.h (0:Int).toNat≠(p.bd 0).dK then _ else _:LR)=_
       rw [if_neg hd,if_pos g]
       rfl)
    rw [htk]
    have XT:¬(T i).gd p:=fun hg=>by
     rcases hg.1 g.1 with h | h
     ·exact g.2.1 h
     ·exact g.2.2 h
    have hg2:({T i with l:=(T i).l.hold 0 (p.bd 0).dK,t:=.fA (Ca.of 6) (Ac.store 0 0 (25+(T i).l.me * 9+0) (p.bd 0).dK)}:Th).gd {p with steps:=p.steps+1}:=by
     refine ⟨fun _=>.inr (AQ _ _),fun h=>?_⟩
     have h:(T i).l.aj=3∨(T i).l.aj=5:=h
     omega
    show (if ({T i with l:=(T i).l.hold 0 (p.bd 0).dK,t:=.fA (Ca.of 6) (Ac.store 0 0 (25+(T i).l.me * 9+0) (p.bd 0).dK)}:Th).gd {p with steps:=p.steps+1} then 22 else 25)+(((T i).l.notes.length:Int)+(T i).l.all)<_
    rw [if_pos hg2,if_neg XT]
    omega
   ·have htk:(T i).aK ⟨p.bd 0,true⟩={T i with l:=(T i).l,t:=.idle ⟨p.bd 0,true⟩}:=Th.bG ht (by
       show (if (T i).l.bu then _ else if (T i).l.aj=2∧(p.bd 0).slot≠0∧(T i).l.h (0:Int).toNat≠(p.bd 0).dK then _ else _:LR)=_
       rw [if_neg hd,if_neg g])
    rw [htk]
    simp only [Th.left,q]
    simp
    split <;> omega
 | ji c w =>
  rw [ht] at hsh ha
  obtain ⟨q,rfl,he⟩:=hsh
  have h1:=(lS H).symm.trans ha
  obtain ⟨rfl,rfl⟩:p'={p with steps:=p.steps+1}∧x=⟨dW p.aB,true⟩:=by
   simp only [Prod.mk.injEq,Option.some.injEq] at h1
   exact ⟨h1.1.symm,h1.2.symm⟩
  have hl:(T i).left p=(if (T i).gd p then 20 else 23)+((T i).l.notes.length+(T i).l.all):=by unfold Th.left;rw [ht]
  rw [hl]
  have jT:=L.iA
  by_cases hcv:RT.bZ (T i).l 0 p.aB
  ·have htk:(T i).aK ⟨dW p.aB,true⟩={T i with l:=(T i).l,t:=.idle ⟨w,true⟩}:=Th.bG ht (if_pos hcv)
   rw [htk]
   simp only [Th.left,q]
   simp
   split <;> omega
  ·have XT:¬(T i).gd p:=fun hg=>hcv (hg.2 (by omega))
   rw [if_neg XT]
   by_cases h3:(T i).l.aj=3
   ·have htk:(T i).aK ⟨dW p.aB,true⟩={T i with l:=(T i).l.hold 0 (Wd.dG p.aB),t:=.fA (Ca.of 6) (Ac.store 0 0 (25+(T i).l.me * 9+0) (Wd.dG p.aB))}:=Th.bG ht (by
       show (if RT.bZ (T i).l 0 p.aB then _ else if (T i).l.aj=3 then _ else _:LR)=_
       rw [if_neg hcv,if_pos h3]
       rfl)
    rw [htk]
    have hC:=H.clock.2
    have hg2:({T i with l:=(T i).l.hold 0 (Wd.dG p.aB),t:=.fA (Ca.of 6) (Ac.store 0 0 (25+(T i).l.me * 9+0) (Wd.dG p.aB))}:Th).gd {p with steps:=p.steps+1}:=by
     refine ⟨fun h=>?_,fun _=>?_⟩
     ·have h:(T i).l.aj=2:=h
      omega
     ·unfold RT.bZ
      rw [if_pos (show ((T i).l.hold 0 (Wd.dG p.aB)).aj=3 from h3)]
      have:((T i).l.hold 0 (Wd.dG p.aB)).h (0:Int).toNat=Wd.dG p.aB:=AQ _ _
      rw [this]
      refine ⟨fun h=>?_,rfl⟩
      have:p.aB=0:=congrArg Wd.num h
      omega
    show (if ({T i with l:=(T i).l.hold 0 (Wd.dG p.aB),t:=.fA (Ca.of 6) (Ac.store 0 0 (25+(T i).l.me * 9+0) (Wd.dG p.aB))}:Th).gd {p with steps:=p.steps+1} then 22 else 25)+(((T i).l.notes.length:Int)+(T i).l.all)<_
    rw [if_pos hg2]
    omega
   ·have htk:(T i).aK ⟨dW p.aB,true⟩={T i with l:={(T i).l with s:=⟨true,if (T i).l.s.is=true then (T i).l.s.low else p.aB,p.aB⟩},t:=.fA (Ca.of 6) (RT.fV (T i).l ⟨true,if (T i).l.s.is=true then (T i).l.s.low else p.aB,p.aB⟩)}:=Th.bG ht (by
       show (if RT.bZ (T i).l 0 p.aB then _ else if (T i).l.aj=3 then _ else _:LR)=_
       rw [if_neg hcv,if_neg h3]
       rfl)
    rw [htk]
    have hg2:({T i with l:={(T i).l with s:=⟨true,if (T i).l.s.is=true then (T i).l.s.low else p.aB,p.aB⟩},t:=.fA (Ca.of 6) (RT.fV (T i).l ⟨true,if (T i).l.s.is=true then (T i).l.s.low else p.aB,p.aB⟩)}:Th).gd {p with steps:=p.steps+1}:=by
     refine ⟨fun h=>?_,fun _=>?_⟩
     ·have h:(T i).l.aj=2:=h
      omega
     ·unfold RT.bZ
      rw [if_neg (show ¬(T i).l.aj=3 from h3)]
      exact ⟨rfl,rfl⟩
    show (if ({T i with l:={(T i).l with s:=⟨true,if (T i).l.s.is=true then (T i).l.s.low else p.aB,p.aB⟩},t:=.fA (Ca.of 6) (RT.fV (T i).l ⟨true,if (T i).l.s.is=true then (T i).l.s.low else p.aB,p.aB⟩)}:Th).gd {p with steps:=p.steps+1} then 22 else 25)+(((T i).l.notes.length:Int)+({(T i).l with s:=⟨true,if (T i).l.s.is=true then (T i).l.s.low else p.aB,p.aB⟩}:Lo).all)<_
    rw [if_pos hg2,show ({(T i).l with s:=⟨true,if (T i).l.s.is=true then (T i).l.s.low else p.aB,p.aB⟩}:Lo).all=(T i).l.all from rfl]
    omega
 | fA c a =>
  rw [ht] at hsh ha
  obtain ⟨q,rfl,he⟩:=hsh
  have htk:(T i).aK x={T i with l:=(T i).l,t:=.fU (Ca.of 6)}:=Th.bG ht rfl
  have hl:(T i).left p=(if (T i).gd p then 22 else 25)+((T i).l.notes.length+(T i).l.all):=by unfold Th.left;rw [ht]
  rw [htk,hl]
  have hp:p'.bd 0=p.bd 0∧p'.aB=p.aB:=by
   have h6:=H.n6
   have hme:=L.me
   have hst:∃f w,a=Ac.store 0 0 f w∧25≤f∧f<85:=by
    rcases he with ⟨_,he⟩ | ⟨_,he⟩
    ·exact ⟨_,_,he,by omega,by omega⟩
    ·exact ⟨_,_,he,by omega,by omega⟩
   obtain ⟨f,w,rfl,f1,f2⟩:=hst
   have h1:=(vF H (f:=f) (w:=w) (by omega) f2).symm.trans ha
   simp only [Prod.mk.injEq,Option.some.injEq] at h1
   rw [←h1.1]
   exact ⟨wI (by omega),CJ (by omega)⟩
  have hgd:({T i with l:=(T i).l,t:=.fU (Ca.of 6)}:Th).gd p'↔(T i).gd p:=by
   unfold Th.gd
   rw [hp.1,hp.2]
  show (if ({T i with l:=(T i).l,t:=.fU (Ca.of 6)}:Th).gd p' then 21 else 24)+(((T i).l.notes.length:Int)+(T i).l.all)<_
  by_cases g:(T i).gd p
  ·rw [if_pos g,if_pos (hgd.2 g)];omega
  ·rw [if_neg g,if_neg (fun h=>g (hgd.1 h))];omega
 | ou =>
  rw [ht] at hsh
  have htk:(T i).aK x={T i with l:=(T i).l,t:=.one ⟨4,0,0,0,Wd.zero,Wd.dG x.word.num⟩}:=Th.bG ht rfl
  rw [htk]
  simp [Th.left,ht,hsh.1]
 | jC o =>
  have htk:(T i).aK x={T i with l:=(T i).l,t:=.dU o x.word.num}:=Th.bG ht rfl
  rw [htk]
  simp [Th.left,ht]
 | dU o b =>
  rw [ht] at hsh
  have hlen:((RT.note (T i).l o b x.word.num).notes.length:Int)=(T i).l.notes.length+1:=by
   show (((T i).l.notes ++ [_]).length:Int)=_
   simp
  have hal:(RT.note (T i).l o b x.word.num).all=(T i).l.all:=rfl
  have hl:(T i).left p=8+((T i).l.notes.length+(T i).l.all):=by unfold Th.left;rw [ht]
  rw [hl]
  by_cases hd:(T i).l.bu
  ·have htk:(T i).aK x={T i with l:=RT.note (T i).l o b x.word.num,t:=.jZ x.word}:=Th.bG ht (if_pos hd)
   rw [htk]
   show 6+(((RT.note (T i).l o b x.word.num).notes.length:Int)+(RT.note (T i).l o b x.word.num).all)<_
   omega
  ·have htk:(T i).aK x=(T i).with (RT.dn (RT.note (T i).l o b x.word.num)):=by
    unfold Th.aK
    rw [ht]
    show (T i).with (if (T i).l.bu then _ else _:LR)=_
    rw [if_neg hd]
   rw [htk]
   rcases nT (l:=RT.note (T i).l o b x.word.num) with g | ⟨g1,g⟩ | ⟨g1,g3,g⟩
   ·rw [g];simp [Th.with,Th.left,hsh.1];omega
   ·rw [g];simp [Th.with,Th.left];omega
   ·rw [g];simp [Th.with,Th.left];omega
 | jZ c =>
  rw [ht] at hsh
  have hl:(T i).left p=6+((T i).l.notes.length+(T i).l.all):=by unfold Th.left;rw [ht]
  rw [hl]
  have htk:(T i).aK x=(T i).with (RT.dn (T i).l):=by unfold Th.aK;rw [ht];rfl
  rw [htk]
  rcases nT (l:=(T i).l) with g | ⟨g1,g⟩ | ⟨g1,g3,g⟩
  ·rw [g];simp [Th.with,Th.left,hsh.1];omega
  ·rw [g];simp [Th.with,Th.left]
  ·rw [g];simp [Th.with,Th.left]
 | je =>
  have htk:(T i).aK x={T i with l:=(T i).l,t:=.bV x.word []}:=Th.bG ht rfl
  rw [htk]
  simp [Th.left,ht]
 | bV ck seen =>
  rw [ht] at hsh
  obtain ⟨q,_,hlen,_⟩:=hsh
  have hl:(T i).left p=4+((T i).l.notes.length+((T i).l.all-seen.length)):=by unfold Th.left;rw [ht]
  rw [hl]
  by_cases g:(seen.length:Int)+1<(T i).l.all
  ·have htk:(T i).aK x={T i with l:=(T i).l,t:=.bV ck (seen ++ [x.word])}:=Th.bG ht (if_pos g)
   rw [htk]
   simp only [Th.left,List.length_append,List.length_singleton]
   omega
  ·by_cases g4:(T i).l.aj≠4
   ·have htk:(T i).aK x=(T i).with (RT.dS (T i).l ck (seen ++ [x.word])):=by
     unfold Th.aK
     rw [ht]
     show (T i).with (if (seen.length:Int)+1<(T i).l.all then _ else if (T i).l.aj≠4 then _ else _:LR)=_
     rw [if_neg g,if_pos g4]
    rw [htk]
    rcases nD (l:=(T i).l) (ck:=ck) (seen:=seen ++ [x.word]) with ⟨g1,g2⟩ | ⟨d,r,g1,g2⟩
    ·rw [g1]
     rcases q with q | q <;> simp [Th.with,Th.left,q] <;> omega
    ·have hle:=List.length_filter_le (fun m=>!RT.kept (T i).l ck (seen ++ [x.word]) m) (T i).l.notes
     rw [←g2] at hle
     simp only [List.length_cons] at hle
     rw [g1]
     simp [Th.with,Th.left]
     omega
   ·by_cases gm:RS.may ck.num ((seen ++ [x.word]).map RS.gN)=true
    ·have htk:(T i).aK x={T i with l:=(T i).l,t:=.iE ck}:=Th.bG ht (by
        show (if (seen.length:Int)+1<(T i).l.all then _ else if (T i).l.aj≠4 then _ else if RS.may ck.num ((seen ++ [x.word]).map RS.gN)=true then _ else _:LR)=_
        rw [if_neg g,if_neg g4,if_pos gm])
     rw [htk]
     simp [Th.left]
     omega
    ·have htk:(T i).aK x={T i with l:=(T i).l,t:=.dO}:=Th.bG ht (by
        show (if (seen.length:Int)+1<(T i).l.all then _ else if (T i).l.aj≠4 then _ else if RS.may ck.num ((seen ++ [x.word]).map RS.gN)=true then _ else _:LR)=_
        rw [if_neg g,if_neg g4,if_neg gm])
     rw [htk]
     simp [Th.left]
     omega
 | iE c =>
  have htk:(T i).aK x={T i with l:=(T i).l,t:=.dO}:=Th.bG ht rfl
  rw [htk]
  simp [Th.left,ht]
 | dO =>
  rw [ht] at hsh
  obtain ⟨q,_⟩:=hsh
  have htk:(T i).aK x=(T i).with (RT.dS (T i).l x.word []):=by unfold Th.aK;rw [ht];rfl
  have hl:(T i).left p=3+(T i).l.notes.length:=by unfold Th.left;rw [ht]
  rw [htk,hl]
  rcases nD (l:=(T i).l) (ck:=x.word) (seen:=[]) with ⟨g1,g2⟩ | ⟨d,r,g1,g2⟩
  ·rw [g1]
   rcases q with q | q <;> simp [Th.with,Th.left,q] <;> omega
  ·have hle:=List.length_filter_le (fun m=>!RT.kept (T i).l x.word [] m) (T i).l.notes
   rw [←g2] at hle
   simp only [List.length_cons] at hle
   rw [g1]
   simp [Th.with,Th.left]
   omega
 | fe d r =>
  rw [ht] at hsh
  obtain ⟨q,_⟩:=hsh
  have hl:(T i).left p=3+r.length:=by unfold Th.left;rw [ht]
  rw [hl]
  cases r with
  | nil =>
   have htk:(T i).aK x={T i with l:={(T i).l with notes:=(T i).l.notes.erase d,freed:=(T i).l.freed+1},t:=.idle Rp.yes}:=Th.bG ht rfl
   rw [htk]
   rcases q with q | q <;> simp [Th.left,q]
  | cons d' r' =>
   have htk:(T i).aK x={T i with l:={(T i).l with notes:=(T i).l.notes.erase d,freed:=(T i).l.freed+1},t:=.fe d' r'}:=Th.bG ht rfl
   rw [htk]
   simp [Th.left]
   omega
theorem Inv.goLeft (hi:i<n):∀(k:Nat) {T:Nat→Th} {own:Int→iy},Inv n e p T own A→(T i).stop=true→((T i).go k).1.left p≤(T i).left p
 | 0,T,own,H,hs=>Int.le_refl _
 | k+1,T,own,H,hs=>by
  by_cases h0:(T i).t.aW=0
  ·obtain ⟨x,ht⟩:=RT.iP h0
   rw [Th.sU ht]
   by_cases hst:(T i).stop=true∧(T i).pc=0
   ·rw [if_pos hst];exact Int.le_refl _
   ·rw [if_neg hst]
    obtain ⟨Kh,H1⟩:=H.dP hi ht
    have h1:=Tq (p:=p) (H.loc i hi) H.n6 H.e5 ht (fun h=>hst ⟨hs,h⟩)
    have:=Inv.goLeft hi k (T:=bA T i ((T i).dP x)) H1 (by rw [aF];exact ((T i).pQ x).2.2.trans hs)
    rw [aF] at this
    omega
  ·rw [Th.nA h0];exact Int.le_refl _
theorem Inv.Kk (H:Inv n e p T own A) (hi:i<n) (hb:(T i).bad=false) (hs:(T i).stop=true) (hne:¬((T i).pc=0∧(T i).t.aW=0)):((T i).step p).1.left ((T i).step p).2.1<(T i).left p:=by
 have h1:=Inv.goLeft (A:=A) hi 12 H hs
 have h2:=x8 (p:=p) (H.loc i hi) H.n6 hne
 obtain ⟨Kh,H1,hb1,hc⟩:=Inv.go (A:=A) hi 12 H hb (Nat.lt_of_le_of_lt (NT _) (by omega))
 unfold Th.step
 generalize hg:(T i).go 12=g at *
 obtain ⟨g1,g2⟩:=g
 simp only at h1 H1 hb1 hc ⊢
 rcases hc with ⟨rfl,c2,c3,c4⟩ | ⟨rfl,c2⟩
 ·obtain ⟨x,hx⟩:=RT.iP c4
  have:g1.left p=0:=by unfold Th.left;rw [hx];simp [c3]
  show g1.left p<_
  omega
 ·simp only
  rw [if_neg c2]
  obtain ⟨p2,x,XP,A2,ha,hI⟩:=H1.acc hi (by rw [aF];exact c2)
  have h3:=Qx H1 hi (by rw [aF];exact c2) ha
  rw [aF] at ha h3
  rw [ha]
  exact Int.lt_of_lt_of_le h3 h1
theorem KJ:∀(N:Nat) {l:List Int},l.Nodup→(∀x∈l,1≤x∧x≤(N:Int))→l.length≤N:=by
 intro N l h hs
 have:=l9 (l:=l) (m:=(List.range N).map fun k:Nat=>(k:Int)+1) h fun x hx=>by
  obtain ⟨h1,h2⟩:=hs x hx
  exact List.mem_map.2 ⟨(x-1).toNat,List.mem_range.2 (by omega),by omega⟩
 simpa using this
theorem zW {α β:Type} {f:α→β} {m:List α}:∀{l:List α},l.Nodup→(∀x∈l,x∈m)→(m.map f).Nodup→(l.map f).Nodup
 | [],_,_,_=>List.nodup_nil
 | a :: l,h,hs,hm=>by
  rw [List.nodup_cons] at h
  rw [List.map_cons,List.nodup_cons]
  refine ⟨fun hx=>?_,zW h.2 (fun x hx=>hs x (List.mem_cons_of_mem _ hx)) hm⟩
  obtain ⟨b,hb,hab⟩:=List.mem_map.1 hx
  have:=uU hm (hs b (List.mem_cons_of_mem _ hb)) (hs a (List.mem_cons_self ..)) hab
  exact h.1 (by rw [←this];exact hb)
theorem Inv.CL (H:Inv n e p T own A):((T i).l.notes.length:Int)≤p.ns:=by
 have h0:=H.ok.ns
 have:=KJ p.ns.toNat (H.oi.pU i) fun x hx=>by
  obtain ⟨m,hm,rfl⟩:=List.mem_map.1 hx
  obtain ⟨r1,r2,_⟩:=H.oi.jS (o:=.note i) (w:=m.ref) ⟨m,hm,rfl⟩
  omega
 rw [List.length_map] at this
 omega
theorem Inv.Eu (H:Inv n e p T own A) (hi:i<n):(T i).left p≤82+p.ns:=by
 have L:=H.loc i hi
 have h1:=VF (p:=p) L H.n6 (fun d r ht=>by
   have hsh:=L.jN
   unfold Th.sh at hsh
   rw [ht] at hsh
   obtain ⟨_,_,hsub,hnd⟩:=hsh
   have hm:(r.map (·.ref.slot)).length≤((T i).l.notes.map (·.ref.slot)).length:=l9 (zW (List.nodup_cons.1 hnd).2 (fun x hx=>hsub x (List.mem_cons_of_mem _ hx)) (H.oi.pU i)) fun x hx=>by
     obtain ⟨b,hb,rfl⟩:=List.mem_map.1 hx
     exact List.mem_map.2 ⟨b,hsub b (List.mem_cons_of_mem _ hb),rfl⟩
   simpa using hm)
 have h2:=H.CL (i:=i)
 have h3:(T i).l.all≤54:=by
  have:=L.nS
  have:=H.n6
  unfold Lo.all
  by_cases g:(T i).l.bf
  ·rw [if_pos g];omega
  ·rw [if_neg g];omega
 omega
end
theorem iM {q:Prop} [Decidable q] {l:Lo} {a b:LR} (h1:a.1.freed=l.freed) (h2:b.1.freed=l.freed):(if q then a else b).1.freed=l.freed:=by
 by_cases h:q
 ·rw [if_pos h];exact h1
 ·rw [if_neg h];exact h2
theorem Bo (l:Lo) (k:Int):(RT.leave l k).1.freed=l.freed:=by
 refine iM rfl (iM ?_ rfl)
 cases RS.first l.h k.toNat (9-k.toNat) <;> rfl
theorem x9 (l:Lo):(RT.scan l).1.freed=l.freed:=iM rfl (iM rfl rfl)
theorem vH (l:Lo):(RT.dn l).1.freed=l.freed:=iM (x9 l) rfl
theorem KL (l:Lo) (c:Ca):(RT.begin l c).1.freed=l.freed :=
 iM (iM rfl rfl)<|iM (Bo l 0)<|iM rfl<|iM rfl<|iM rfl<|iM rfl<|iM (iM rfl rfl)<|iM (iM rfl rfl)<|iM rfl<|iM (iM (vH _)<|iM rfl<|iM rfl rfl) (x9 l)
theorem yf (l:Lo) (r:List Nt):(RT.fw l r).1.freed=l.freed:=by cases r <;> rfl
theorem NU (l:Lo) (t:RT) (x:Rp):l.freed≤(RT.aK l t x).1.freed∧(RT.aK l t x).1.freed≤l.freed+1:=by
 have e:∀{a:LR},a.1.freed=l.freed→l.freed≤a.1.freed∧a.1.freed≤l.freed+1:=fun h=>by omega
 cases t with
 | jm i=>exact e (Bo l _)
 | fU c=>exact e (iM rfl (iM rfl rfl))
 | ji c w=>exact e (iM rfl (iM rfl rfl))
 | dU old b=>exact e (iM rfl (vH _))
 | jZ _=>exact e (vH l)
 | bV ck seen=>exact e (iM rfl (iM (yf _ _) (iM rfl rfl)))
 | dO=>exact e (yf _ _)
 | fe d r =>
  have:=yf {l with notes:=l.notes.erase d,freed:=l.freed+1} r
  show l.freed≤(RT.fw _ _).1.freed∧(RT.fw _ _).1.freed≤l.freed+1
  rw [this]
  show l.freed≤l.freed+1∧l.freed+1≤l.freed+1
  omega
 | _=>exact e rfl
theorem Th.GU (h:Th) (x:Rp):(h.dP x).l.freed=h.l.freed:=by
 have:=KL (h.call x).1.l (h.call x).2
 rw [(h.pQ x).1] at this
 show (RT.begin (h.call x).1.l (h.call x).2).1.freed=_
 rw [(h.pQ x).1]
 exact this
theorem MT.dP {m:Mn} {h:Th} (H:MT m h) (ho:h.l.OK) {x:Rp} (hx:h.t=.idle x):MT {m.next.1 with r:=(m.r.begin m.next.2).1} (h.dP x)∧(m.r.begin m.next.2).2=true∧m.r.gW=x∧m.next.2.OK∧m.next.1.r=m.r:=by
 have hrep:iL h.l (.idle x) m.r:=by
  have:=H.rep
  rw [hx] at this
  exact this
 have hr:m.r.gW=x:=hrep.more
 obtain ⟨n1,n2,n3,n4,n5,n6,n7⟩:=H.next hr
 have hb:=hrep.begin ho (c:=(h.call x).2) (h.wh x)
 have hl:=h.pQ x
 refine ⟨⟨?_,n3,n4,n5,n6,n7⟩,?_,hr,?_,n2⟩
 ·show iL (RT.begin (h.call x).1.l (h.call x).2).1 (RT.begin (h.call x).1.l (h.call x).2).2 _
  rw [hl.1,n1]
  exact hb.1
 ·rw [n1];exact hb.2
 ·rw [n1];exact h.wh x
structure Good (k:Int) (n:Nat) (e:Int) (p:PS) (T:Nat→Th) (own:Int→iy) (A:Nat→Int) (i:Nat) (m:Mn):Prop where
 inv:Inv n e p T own A
 hi:i<n
 mt:MT m (T i)
 wb:(T i).wb k
 fr:0≤(T i).l.freed∧(T i).l.freed≤k
 pw:p.wb k
 st:p.steps≤k
 k0:0≤k
section
variable {n:Nat} {e k:Int} {p:PS} {T:Nat→Th} {own:Int→iy} {A:Nat→Int} {i:Nat} {m:Mn}
theorem Good.ok (G:Good k n e p T own A i m):(T i).l.OK:=(G.inv.loc i G.hi).ok G.hi G.inv.n6 G.inv.e5
theorem Good.dP (G:Good k n e p T own A i m) (h0:m.r.step=0):m.next.2.OK∧(m.r.begin m.next.2).2=true∧m.next.1.r=m.r∧∃own',Good k n e p (bA T i ((T i).dP m.r.gW)) own' A i {m.next.1 with r:=(m.r.begin m.next.2).1}:=by
 have hst:(T i).t.aW=0:=by rw [←G.mt.rep.step];exact h0
 obtain ⟨x,hx⟩:=RT.iP hst
 obtain ⟨a1,a2,a3,a4,a5⟩:=G.mt.dP G.ok hx
 obtain ⟨own',hI⟩:=G.inv.dP G.hi hx
 have hwx:Wb k x.word:=by
  have:=G.wb.t
  rw [hx] at this
  exact this
 refine ⟨a4,a2,a5,own',?_⟩
 rw [a3]
 have hf:=(T i).GU x
 refine ⟨hI,G.hi,by rw [aF];exact a1,by rw [aF];exact G.wb.dP G.k0 hwx,by rw [aF,hf];exact G.fr,G.pw,G.st,G.k0⟩
structure Small (m:Mn):Prop where
 pc:0≤m.pc∧m.pc≤7
 old:(-1000000000000≤m.old.slot∧m.old.slot≤1000000000000)∧(-1000000000000≤m.old.gen∧m.old.gen≤1000000000000)∧(-1000000000000≤m.old.tag∧m.old.tag≤1000000000000)
 rp:(-1000000000000≤m.r.gW.word.slot∧m.r.gW.word.slot≤1000000000000)∧(-1000000000000≤m.r.gW.word.gen∧m.r.gW.word.gen≤1000000000000)
theorem Good.small (G:Good k n e p T own A i m) (hk:k≤1000000) (h0:m.r.step=0):Small m:=by
 have hst:(T i).t.aW=0:=by rw [←G.mt.rep.step];exact h0
 obtain ⟨x,hx⟩:=RT.iP hst
 have hwx:Wb k x.word:=by
  have:=G.wb.t
  rw [hx] at this
  exact this
 have hr:m.r.gW=x:=by
  have:=G.mt.rep
  rw [hx] at this
  exact this.more
 have hpc:0≤(T i).pc∧(T i).pc≤7:=by
  have:=(G.inv.loc i G.hi).jN
  unfold Th.sh at this
  rw [hx] at this
  exact this.1
 obtain ⟨o1,o2,o3,o4⟩:=G.wb.old
 obtain ⟨x1,x2,x3,x4⟩:=hwx
 refine ⟨by rw [G.mt.pc];exact hpc,?_,?_⟩
 ·rw [G.mt.old]
  omega
 ·rw [hr]
  omega
theorem Good.rs (G:Good k n e p T own A i m):((0≤m.r.me∧m.r.me<6)∧1≤m.r.threads∧m.r.threads≤6)∧m.r.notes.length≤1000000:=by
 have h1:=G.ok
 have h2:=G.mt.rep
 have h3:=G.inv.CL (i:=i)
 have h4:=G.inv.ok.ns
 have a:=h1.me
 have b:=h1.threads
 rw [h2.me,h2.threads,h2.notes]
 omega
theorem Good.acc (G:Good k n e p T own A i m) (hk:k≤1000000) (h0:m.r.step≠0):∃p' x,p.act m.r.acc=(p',some x)∧m.r.Tk x∧p.OK:=by
 have hst:(T i).t.aW≠0:=by rw [←G.mt.rep.step];exact h0
 obtain ⟨p',x,own',A',ha,hI⟩:=G.inv.acc G.hi hst
 rw [←G.mt.rep.acc hst] at ha
 have L:=G.inv.loc i G.hi
 have hsh:=L.jN
 have hrep:=G.mt.rep
 have hrs:=G.rs
 have hwa:Wb (k+1) x.word:=by
  have hn:Wb (k+1) m.r.acc.new:=by rw [hrep.acc hst];exact Qw G.k0 G.wb.t G.wb.l
  exact (G.pw.act G.k0 G.inv.ok G.st hn).2 x (by rw [ha])
 obtain ⟨x1,x2,x3,x4⟩:=hwa
 have JK:m.r.step=13→∃ck seen,(T i).t=.bV ck seen:=fun h=>by
  rw [hrep.step] at h
  cases ht:(T i).t with
  | bV c s=>exact ⟨_,_,rfl⟩
  | _=>rw [ht] at h;cases h
 have hbd:∀ck seen,(T i).t=.bV ck seen→seen.length≤99999:=fun ck seen ht=>by
  unfold Th.sh at hsh
  rw [ht] at hsh
  obtain ⟨-,-,hl,-⟩:=hsh
  have:=L.nS
  have:=G.inv.n6
  have hall:(T i).l.all≤54:=by
   unfold Lo.all
   by_cases g:(T i).l.bf
   ·rw [if_pos g];omega
   ·rw [if_neg g];omega
  omega
 refine ⟨p',x,ha,⟨hrs.1.1,hrs.1.2,h0,hrs.2,fun h=>?_,fun h h4=>?_,fun h=>?_,by omega,by rw [hrep.freed];have:=G.fr;omega,fun h=>?_,fun h=>?_,fun h=>?_,fun h=>?_⟩,G.inv.ok⟩
 ·obtain ⟨ck,seen,ht⟩:=JK h
  have hb:=hbd ck seen ht
  rw [ht] at hrep
  rw [hrep.more.2.1]
  exact hb
 ·obtain ⟨ck,seen,ht⟩:=JK h
  have hw:Wb k ck:=by
   have:=G.wb.t
   rw [ht] at this
   exact this
  rw [ht] at hrep
  rw [hrep.more.1 (by rw [←hrep.aj];exact h4)]
  obtain ⟨w1,w2,w3,w4⟩:=hw
  omega
 ·obtain ⟨ck,seen,ht⟩:=JK h
  have hb:=hbd ck seen ht
  rw [ht] at hrep
  rw [hrep.more.2.2]
  omega
 ·rw [hrep.step] at h
  unfold Th.sh at hsh
  cases ht:(T i).t with
  | dO=>rw [ht] at hsh;rw [hrep.aj,L.iA];exact hsh.2
  | _=>rw [ht] at h;cases h
 ·rw [hrep.step] at h
  unfold Th.sh at hsh
  cases ht:(T i).t with
  | jm j =>
   rw [ht] at hsh hrep
   rw [hrep.more,hsh.2.1]
   decide
  | _=>rw [ht] at h;cases h
 ·have hc:m.r.call=Ca.of 6:=by
   rw [hrep.step] at h
   unfold Th.sh at hsh
   cases ht:(T i).t with
   | fU c=>rw [ht] at hsh hrep;rw [hrep.more];exact hsh.2
   | ji c w=>rw [ht] at hsh hrep;rw [hrep.more.1];exact hsh.2.1
   | fA c a=>rw [ht] at hsh hrep;rw [hrep.more];exact hsh.2.1
   | _=>rw [ht] at h;rcases h with h | h | h <;> cases h
  rw [hc]
  decide
 ·rw [hrep.step] at h
  unfold Th.sh at hsh
  cases ht:(T i).t with
  | fe d r =>
   rw [ht] at hsh hrep
   exact ⟨d,r,hrep.more,by rw [hrep.notes];exact hsh.2.2.1 d (List.mem_cons_self ..)⟩
  | _=>rw [ht] at h;cases h
end
def UD:Kn:=[(.bT (.var 0) (.lit 0),false),(.bT (.lit 1024) (.var 0),false),(.bT (.var 1) (.lit 0),false),(.bT (.lit 200) (.var 1),false)]
noncomputable def XU:Ex:={sched:=sched,loops:=[L13],fin:=wy}
def Kl:Out :=
 .alt
 (.ob (.aA (.lit 0) (.var 1)) <|
  .ob (.aA (.mul (.var 1) (.lit 40)) (.lit 281474976710656)) <|
  .ob (.aA (.var 1) (.lit 9223372036854775807)) <|
  .ob (.aA (.lit 0) (.var 0)) <|
  .ob (.aA (.mul (.var 0) (.lit 416)) (.lit 281474976710656)) <|
  .ob (.aA (.var 0) (.lit 9223372036854775807)) <|
  .loop 2 {lo:=2,az:=3,iv:=[(11,.lit 0),(10,.lit 0),(8,.lit 0),(7,.lit 0),(2,yv 0)],bv:=[(12,.lit true),(6,.lit true)],ct:=[(5,.up {r:=0,n1:=.var 0,s1:=52,n2:=10,s2:=5,lo:=2,ks:=yW,z:=true} 1 [] (.lit 0)),(4,.up {r:=0,n1:=.var 0,s1:=52,ks:=yB,z:=true} 0 [] (.lit 0)),(3,.up {r:=0,n1:=.var 1,s1:=5,ks:=yW,z:=true} 0 [] (.lit 0))],nb:=[4,3,4,3]} <|
  .br (.aA (.lit 1) (.var 2))
  (.ob (.aA (.mul (.add (.var 7) (.lit 1)) (.lit 8)) (.lit 140737488355328)) <|
   .ob (.aA (.lit 0) (.var 7)) <|
   .ob (.aA (.var 7) (.var 8)) <|
   .ob (.aA (.var 8) (.lit 9223372036854775807)) <|
   .ob (.or (.not (.var 6)) (.aC (.var 7) (.lit 0))) <|
   .new 13 [.be (.and (.aA (.add (.var 7) (.lit 1)) (.var 13)) (.aA (.var 13) (.lit 9223372036854775807)))] <|
   .ob (.inr .i64 (.sub (.var 2) (.lit 1))) <|
   .back 0 {lo:=2,az:=3,iv:=[(11,yv 11),(10,yv 10),(8,yv 13),(7,.add (.var 7) (.lit 1)),(2,.sub (.var 2) (.lit 1))],bv:=[(12,yw 12),(6,.lit false)],ct:=[(9,.up {r:=9,n1:=.add (.var 7) (.lit 1),s1:=1,ks:=yI} 0 [⟨0,(.var 7),(.lit 0),0,.int .i64 (.var 2)⟩] (.lit 0)),(5,.up {r:=5,n1:=.var 0,s1:=52,n2:=10,s2:=5,lo:=2,ks:=yW} 1 [] (.lit 0)),(4,yu 4 0 52 yB 0),(3,yu 3 1 5 yW 0)],bk:=[(4,yb 4),(3,yc 6 1)]})
  (.fin {lo:=2,az:=0,iv:=[(6,yv 11),(5,yv 10),(4,yv 8),(3,yv 7)],bv:=[(7,yw 12),(2,yw 6)],ct:=[(11,yu 9 7 1 yI 0),(10,.up {r:=5,n1:=.var 0,s1:=52,n2:=10,s2:=5,lo:=2,ks:=yW} 1 [] (.lit 0)),(9,yu 4 0 52 yB 0),(8,yu 3 1 5 yW 0)],bk:=[(4,yb 4),(3,yc 3 1),(2,yc 1 52),(1,yc 0 5),(0,yb 2)]}))
 (.ob (.aA (.lit 0) (.var 0)) <|
  .ob (.aA (.mul (.var 0) (.lit 416)) (.lit 281474976710656)) <|
  .ob (.aA (.var 0) (.lit 9223372036854775807)) <|
  .ob (.aA (.lit 0) (.var 1)) <|
  .ob (.aA (.mul (.var 1) (.lit 40)) (.lit 281474976710656)) <|
  .ob (.aA (.var 1) (.lit 9223372036854775807)) <|
  .loop 2 {lo:=2,az:=3,iv:=[(11,.lit 0),(10,.lit 0),(8,.lit 0),(7,.lit 0),(2,yv 0)],bv:=[(12,.lit true),(6,.lit true)],ct:=[(3,.up {r:=0,n1:=.var 1,s1:=5,ks:=yW,z:=true} 0 [] (.lit 0)),(5,.up {r:=0,n1:=.var 0,s1:=52,n2:=10,s2:=5,lo:=2,ks:=yW,z:=true} 1 [] (.lit 0)),(4,.up {r:=0,n1:=.var 0,s1:=52,ks:=yB,z:=true} 0 [] (.lit 0))],nb:=[4,3,4,3]} <|
  .br (.aA (.lit 1) (.var 2))
  (.ob (.aA (.mul (.add (.var 7) (.lit 1)) (.lit 8)) (.lit 140737488355328)) <|
   .ob (.aA (.lit 0) (.var 7)) <|
   .ob (.aA (.var 7) (.var 8)) <|
   .ob (.aA (.var 8) (.lit 9223372036854775807)) <|
   .ob (.or (.not (.var 6)) (.aC (.var 7) (.lit 0))) <|
   .new 13 [.be (.and (.aA (.add (.var 7) (.lit 1)) (.var 13)) (.aA (.var 13) (.lit 9223372036854775807)))] <|
   .ob (.inr .i64 (.sub (.var 2) (.lit 1))) <|
   .back 0 {lo:=2,az:=3,iv:=[(11,yv 11),(10,yv 10),(8,yv 13),(7,.add (.var 7) (.lit 1)),(2,.sub (.var 2) (.lit 1))],bv:=[(12,yw 12),(6,.lit false)],ct:=[(9,.up {r:=9,n1:=.add (.var 7) (.lit 1),s1:=1,ks:=yI} 0 [⟨0,(.var 7),(.lit 0),0,.int .i64 (.var 2)⟩] (.lit 0)),(3,yu 3 1 5 yW 0),(5,.up {r:=5,n1:=.var 0,s1:=52,n2:=10,s2:=5,lo:=2,ks:=yW} 1 [] (.lit 0)),(4,yu 4 0 52 yB 0)],bk:=[(4,yb 4),(3,yc 6 1)]})
  (.fin {lo:=2,az:=0,iv:=[(6,yv 11),(5,yv 10),(4,yv 8),(3,yv 7)],bv:=[(7,yw 12),(2,yw 6)],ct:=[(11,yu 9 7 1 yI 0),(10,.up {r:=5,n1:=.var 0,s1:=52,n2:=10,s2:=5,lo:=2,ks:=yW} 1 [] (.lit 0)),(9,yu 4 0 52 yB 0),(8,yu 3 1 5 yW 0)],bk:=[(4,yb 4),(3,yc 3 1),(2,yc 0 52),(1,yc 1 5),(0,yb 2)]}))
theorem VG:exec tab XU 8000 [] (fT 13 2 UD [] wy.hp wy.args)=Kl:=by kernel_rfl
def rD (ρ:Env):Prop:=(0≤ρ.iv 0∧ρ.iv 0≤1024)∧0≤ρ.iv 1∧ρ.iv 1≤200
def AU (ρ:Env):Prop:=bg ρ 2∧∃p:PS,ag ρ (ρ.iv 1) (ρ.iv 0) 2=p∧p.nb=ρ.iv 1∧p.ns=ρ.iv 0∧p.nf=ρ.iv 0∧p.steps=0∧p.made=0∧p.gV=true∧(∀i,p.bd i=Wd.zero)∧(∀i,p.gen i=0)∧(∀i,p.used i=false)∧(∀i k,p.cell i k=Wd.zero)∧∀i:Nat,(i:Int)<ρ.iv 0→p.fr i=ρ.iv 0-i
def wJ (ρ:Env):Prop:=(0≤ρ.iv 2∧ρ.iv 2≤ρ.iv 0)∧bg ρ 6∧ρ.iv 7=ρ.iv 0-ρ.iv 2∧ρ.iv 10=0∧ρ.iv 11=0∧ρ.bv 12=true∧(∀i,aG (ρ.ic 3 i 0) (ρ.bc 3 i 0)=Wd.zero)∧(∀i,ρ.ic 4 i 0 0=0∧ρ.bc 4 i 0 1=false)∧(∀i k,aG (ρ.ic 5 i k) (ρ.bc 5 i k)=Wd.zero)∧∀i:Nat,(i:Int)<ρ.iv 7→ρ.ic 9 i 0 0=ρ.iv 0-i
theorem Tt {q:Env} (hp:rD q) {σ:Sub} {k:Out} (h0:wJ (σ.af q)) (hk:∀r,rD r→wJ r→∀Γ,Γ=(fun ρ':Env=>wJ ρ'∧ρ'.iv 2+1≤r.iv 2∧0≤ρ'.iv 2)→Sat AU [] [fun ρ'=>wJ ρ'∧(ρ'.iv 2).toNat<(r.num.iv 2).toNat] r k):Sat AU [] [] q (.loop 2 σ k) :=
 Sat.uL wJ (fun r=>(r.iv 2).toNat) rD h0 (fun _=>hp) fun r hp hI=>hk r hp hI _ rfl
set_option maxHeartbeats 1000000 in
theorem VH (q:Env) (hpre:rD q.num):Sat AU [] [] q Kl:=by
 replace hpre:rD q:=hpre
 obtain ⟨⟨a1,a2⟩,a3,a4⟩:=id hpre
 unfold Kl
 refine Sat.alt ?_ ?_
 all_goals
  refine Sat.ob (by simp only [Da];omega) (Sat.ob (by simp only [Da];omega) (Sat.ob (by simp only [Da];omega) (Sat.ob (by simp only [Da];omega) (Sat.ob (by simp only [Da];omega) (Sat.ob (by simp only [Da];omega) (Tt hpre ?_ fun r hp hI _ _=>?_))))))
  ·refine ⟨⟨a1,Int.le_refl _⟩,⟨fun _=>rfl,Int.le_refl 0,Int.le_refl 0,by show (0:Int)≤_;decide⟩,?_,rfl,rfl,rfl,fun i=>?_,fun i=>?_,fun i k=>?_,fun i hi=>?_⟩
   ·show (0:Int)=q.iv 0-q.iv 0
    omega
   ·simp [aG,Wd.zero,-Int.pred_toNat,Sub.af,assoc,CV.I,CV.B,ah,ai,aa.I,aa.B,SC.I,SC.B,IE.den,BE.den]
   ·simp [-Int.pred_toNat,Sub.af,assoc,CV.I,CV.B,ah,ai,aa.I,aa.B,SC.I,SC.B,IE.den,BE.den]
   ·simp [aG,Wd.zero,-Int.pred_toNat,Sub.af,assoc,CV.I,CV.B,ah,ai,aa.I,aa.B,SC.I,SC.B,IE.den,BE.den]
   ·have:(i:Int)<0:=hi
    omega
  ·obtain ⟨⟨a1,a2⟩,a3,a4⟩:=hp
   obtain ⟨⟨i1,i2⟩,ho,i3,i4,i5,i6,i7,i8,i9,i10⟩:=hI
   refine Sat.br (fun hlt=>?_) (fun hge=>?_)
   ·simp only [Da] at hlt
    refine Sat.ob (by simp only [Da];omega) (Sat.ob (decide_eq_true ho.2.1) (Sat.ob (decide_eq_true ho.2.2.1) (Sat.ob (decide_eq_true ho.2.2.2) (Sat.ob (aR ho) (Sat.zH (fun u=>rD u∧wJ u∧1≤u.iv 2∧(u.iv 2-1).toNat<(r.num.iv 2).toNat) (fun _=>⟨⟨⟨a1,a2⟩,a3,a4⟩,⟨⟨i1,i2⟩,ho,i3,i4,i5,i6,i7,i8,i9,i10⟩,hlt,by show (r.iv 2-1).toNat<(r.iv 2).toNat;omega⟩) fun u hu hf=>?_)))))
    obtain ⟨⟨⟨a1,a2⟩,a3,a4⟩,⟨⟨i1,i2⟩,ho,i3,i4,i5,i6,i7,i8,i9,i10⟩,hlt,hm⟩:=hu
    simp only [Da] at hf
    have h7:0≤u.iv 7:=ho.2.1
    refine Sat.ob (by simp only [Da];omega) (Sat.back rfl ⟨⟨⟨by show 0≤u.iv 2-1;omega,by show u.iv 2-1≤u.iv 0;omega⟩,⟨fun h=>(by cases h),by show 0≤u.iv 7+1;omega,hf.1,hf.2⟩,by show u.iv 7+1=u.iv 0-(u.iv 2-1);omega,i4,i5,i6,fun i=>?_,fun i=>?_,fun i k=>?_,fun i hi=>?_⟩,hm⟩)
    ·rw [←i7 i]
     simp [aG,-Int.pred_toNat,Sub.af,assoc,CV.I,CV.B,ah,ai,aa.I,aa.B,SC.I,SC.B,IE.den,BE.den]
    ·obtain ⟨x,y⟩:=i8 i
     refine ⟨?_,?_⟩
     ·simp [-Int.pred_toNat,Sub.af,assoc,CV.I,CV.B,ah,ai,aa.I,aa.B,SC.I,SC.B,IE.den,BE.den,x]
     ·simp [-Int.pred_toNat,Sub.af,assoc,CV.I,CV.B,ah,ai,aa.I,aa.B,SC.I,SC.B,IE.den,BE.den,y]
    ·rw [←i9 i k]
     simp [aG,-Int.pred_toNat,Sub.af,assoc,CV.I,CV.B,ah,ai,aa.I,aa.B,SC.I,SC.B,IE.den,BE.den]
    ·replace hi:(i:Int)<u.iv 7+1:=hi
     by_cases h:i=(u.iv 7).toNat
     ·subst h
      have:(((u.iv 7).toNat:Nat):Int)=u.iv 7:=by omega
      simp [-Int.pred_toNat,Sub.af,assoc,CV.I,CV.B,ah,ai,aa.I,aa.B,SC.I,SC.B,IE.den,BE.den]
      omega
     ·have hr:=i10 i (by omega)
      have hr2:u.iv 0-(i:Int)=(u.iv 0-(i:Int)):=rfl
      simp [-Int.pred_toNat,Sub.af,assoc,CV.I,CV.B,ah,ai,aa.I,aa.B,SC.I,SC.B,IE.den,BE.den,Ne.symm h,hr]
   ·simp only [Da] at hge
    have h2:r.iv 2=0:=by omega
    refine Sat.fin ⟨ho,_,rfl,rfl,rfl,?_,i4,i5,i6,fun i=>?_,fun i=>?_,fun i=>?_,fun i k=>?_,fun i hi=>?_⟩
    ·show r.iv 7=r.iv 0
     omega
    ·rw [←i7 i]
     simp [ag,aG,-Int.pred_toNat,Sub.af,assoc,CV.I,CV.B,ah,ai,aa.I,aa.B,SC.I,SC.B,IE.den,BE.den]
    ·simp [ag,-Int.pred_toNat,Sub.af,assoc,CV.I,CV.B,ah,ai,aa.I,aa.B,SC.I,SC.B,IE.den,BE.den,(i8 i).1]
    ·simp [ag,-Int.pred_toNat,Sub.af,assoc,CV.I,CV.B,ah,ai,aa.I,aa.B,SC.I,SC.B,IE.den,BE.den,(i8 i).2]
    ·rw [←i9 i k]
     simp [ag,aG,-Int.pred_toNat,Sub.af,assoc,CV.I,CV.B,ah,ai,aa.I,aa.B,SC.I,SC.B,IE.den,BE.den]
    ·replace hi:(i:Int)<r.iv 0:=hi
     show _=r.iv 0-(i:Int)
     rw [←i10 i (by omega)]
     simp [ag,-Int.pred_toNat,Sub.af,assoc,CV.I,CV.B,ah,ai,aa.I,aa.B,SC.I,SC.B,IE.den,BE.den]
theorem VI:bF Tryd.prog wy rD AU :=
 dH eQ (E:=XU) (cs:=[]) rfl (fun k pre post h=>by cases h) cK rfl VG (by kernel_rfl) (fun ρ h p hp=>by
   obtain ⟨⟨a1,a2⟩,a3,a4⟩:rD ρ.num:=h
   simp only [UD,List.mem_cons,List.not_mem_nil,or_false] at hp
   rcases hp with rfl | rfl | rfl | rfl <;> simp only [Da] <;> omega) VH
end Go.Proofs.YthomdlajobnmnaaDoor
