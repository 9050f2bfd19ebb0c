/- part 19 of the proof -/
import Derived.Test.YthomdlajobnmnaaDoorQ18
set_option linter.unusedSimpArgs false
set_option linter.unusedVariables false
set_option linter.unusedSimpArgs false
set_option linter.unusedVariables false
namespace Go.Proofs.YthomdlajobnmnaaDoor
open Go.Rex
def PS.cK (p:PS) (k:Int) (b:Nat) (w:Wd):PS:={p with steps:=k,bd:=fun a=>if a=b then w else p.bd a}
def PS.Ms (p:PS) (k:Int) (s f:Nat) (w:Wd):PS:={p with steps:=k,cell:=fun i j=>if i=s∧j=f then w else p.cell i j}
section
variable {n:Nat} {e:Int} {p:PS} {T:Nat→Th} {own:Int→iV} {A:Nat→Int} {i:Nat} {h h':Th}
theorem Th.Loc.other {p':PS} (L:h.Loc e n p i) (hb:∀k,k<9→p'.bd (25+9 * i+k)=p.bd (25+9 * i+k)) (hs:p'.bd (79+i)=p.bd (79+i)) (hc:p.aJ≤p'.aJ):h.Loc e n p' i:=by
 have hb0:=hb 0 (by omega)
 rw [Nat.add_zero] at hb0
 refine ⟨L.iR,L.me,L.oN,L.most,L.hz,fun k h1 h2=>by rw [hb k h2];exact L.kz k h1 h2,?_,?_,?_,?_,?_,?_,?_,L.on,L.off,?_⟩
 ·rw [hb0];exact L.nk
 ·rw [hs];exact L.ns
 ·rw [hb0];intro e3;have:=L.h3 e3;omega
 ·rcases L.s5 with h | ⟨a,b,h1,h2,h3⟩
  ·exact .inl h
  ·exact .inr ⟨a,b,h1,h2,by omega⟩
 ·rw [hs]
  rcases L.b5 with h | ⟨a,b,h1,h2,h3⟩
  ·exact .inl h
  ·exact .inr ⟨a,b,h1,h2,by omega⟩
 ·rw [hb0];exact L.kc
 ·rw [hs];exact L.sc
 ·have hsh:=L.lC
  unfold Th.sh at hsh ⊢
  cases ht:h.t with
  | one a =>
   rw [ht] at hsh
   rcases hsh with h | ⟨h1,b,h2,h3⟩ | h
   ·exact .inl h
   ·exact .inr (.inl ⟨h1,b,h2,by omega⟩)
   ·exact .inr (.inr h)
  | lq ck =>
   rw [ht] at hsh
   obtain ⟨h1,h2,c,h3,h4⟩:=hsh
   exact ⟨h1,h2,c,by omega,h4⟩
  | dE ck seen =>
   rw [ht] at hsh
   obtain ⟨h1,h2,h3,h4⟩:=hsh
   exact ⟨h1,h2,h3,fun e4=>by obtain ⟨c,h5,h6⟩:=h4 e4;exact ⟨c,by omega,h6⟩⟩
  | ji ck =>
   rw [ht] at hsh
   obtain ⟨h1,h2,c,h3,h4⟩:=hsh
   exact ⟨h1,h2,c,by omega,h4⟩
  | _=>rw [ht] at hsh;exact hsh
theorem Inv.Xj (H:Inv n e p T own A) (hi:i<n) {k:Int} {b:Nat} {w0:Wd} (hok:(p.cK k b w0).OK) (hb:b=25+9 * i∨b=79+i) (h1:h'.hand=(T i).hand) (h2:h'.cut=(T i).cut)
  (h3:h'.l.notes=(T i).l.notes) (hl:h'.Loc e n (p.cK k b w0) i) (hs:h'.snap=none) (hf:h'.full=none) (hr:∀o b,h'.t≠.dW o b) (hp:∀C,h'.bX C=none) (hcm:Calm h'.t)
  (hw:e=4→w0.num≤p.aJ):Inv n e (p.cK k b w0) (bT T i h') own (bT A i p.aJ):=by
 have h6:=H.n6
 have q0:(p.cK k b w0).bd 0=p.bd 0:=if_neg (by omega)
 have q24:(p.cK k b w0).bd 24=p.bd 24:=if_neg (by omega)
 have qc:(p.cK k b w0).aJ=p.aJ:=by unfold PS.aJ;rw [q24]
 have qr:(p.cK k b w0).rt=p.rt:=by unfold PS.rt;rw [q0]
 have qk:∀j,j<n→j≠i→∀m,m<9→(p.cK k b w0).bd (25+9 * j+m)=p.bd (25+9 * j+m):=fun j hj hne m hm=>if_neg (by omega)
 have qs:∀j,j<n→j≠i→(p.cK k b w0).bd (79+j)=p.bd (79+j):=fun j hj hne=>if_neg (by omega)
 have qa:∀j,j<n→j≠i→gK e (p.cK k b w0) j=gK e p j:=fun j hj hne=>by
  unfold gK
  rw [show (p.cK k b w0).bd (25+9 * j)=p.bd (25+9 * j) from qk j hj hne 0 (by omega),qs j hj hne]
 refine ⟨hok,H.nb,H.gN,H.n6,H.e5,?_,?_,?_,?_,?_,?_,H.val,?_,?_,?_,?_,?_,?_⟩
 ·rw [q24,qc];exact H.clock
 ·rw [q0];exact H.root
 ·rw [qr]
  refine H.oi.same rfl ?_ ?_ ?_
  ·exact aB (P:=fun k (h:Th)=>h.hand=(T k).hand) h1 fun _ _=>rfl
  ·exact aB (P:=fun k (h:Th)=>h.cut=(T k).cut) h2 fun _ _=>rfl
  ·exact aB (P:=fun k (h:Th)=>h.l.notes=(T k).l.notes) h3 fun _ _=>rfl
 ·exact aB (P:=fun j (h:Th)=>j<n→h.Loc e n (p.cK k b w0) j) (fun _=>hl) fun j hj hjn=>(H.loc j hjn).other (qk j hjn hj) (qs j hjn hj) (by rw [qc];exact Int.le_refl _)
 ·exact aB (P:=fun k (h:Th)=>n≤k→h.hand=none∧h.cut=none∧h.l.notes=[]) (fun h=>absurd hi (Nat.not_lt.2 h)) fun k _=>H.rest k
 ·rw [q0]
  exact aB (P:=fun k (h:Th)=>k<n→∀w,h.snap=some w→w.tag≤(p.bd 0).tag∧(w.tag=(p.bd 0).tag→w=p.bd 0)) (fun _ w hw=>by rw [hs] at hw;cases hw) fun k _=>H.snap k
 ·exact aB (P:=fun k (h:Th)=>k<n→∀w,h.full=some w→(p.cell (w.slot-1).toNat 1).num=dH w) (fun _ w hw=>by rw [hf] at hw;cases hw) fun k _=>H.full k
 ·rw [qc];exact H.aU
 ·rw [qc]
  exact aB (P:=fun k (h:Th)=>∀m∈h.l.notes,(e=3∨e=5→m.aU=p.aU m.ref.slot)∧(e≠2→m.dh≤p.aJ)) (by rw [h3];exact H.dh i) fun k _=>H.dh k
 ·exact aB (P:=fun k (h:Th)=>k<n→∀o b,h.t=.dW o b→e≠4→b=p.aU o.slot) (fun _ o b hb=>absurd hb (hr o b)) fun k _=>H.rb k
 ·rw [qc]
  refine aB (P:=fun j (h:Th)=>j<n→∀w,h.bX p.aJ=some w→(own w.slot).qF∧p.gen (w.slot-1).toNat=w.gen∧pK e (p.cK k b w0) (bT T i h') (bT A i p.aJ) j w.slot) (fun _ w hw=>by rw [hp] at hw;cases hw) fun j hj hjn w hw=>?_
  obtain ⟨a1,b1,c1,d1⟩:=H.held j hjn w hw
  refine ⟨a1,b1,by rw [qa j hjn hj];exact c1,?_⟩
  rw [qa j hjn hj,bH _ _ hj]
  exact aB (P:=fun _ (h:Th)=>NK e (gK e p j) (A j) (jk e j) h w.slot) ((d1 i).calm h3 hcm) fun j _=>d1 j
 ·intro e4 j hj hm
  rw [qc]
  by_cases hji:j=i
  ·subst hji
   rw [aS]
   refine ⟨⟨?_,Int.le_refl _,by omega⟩,fun hc=>by omega⟩
   by_cases hbb:b=79+j
   ·rw [show (p.cK k b w0).bd (79+j)=w0 from if_pos hbb.symm]
    exact hw e4
   ·have hb0:(p.cK k b w0).bd (79+j)=p.bd (79+j):=if_neg (fun h=>hbb h.symm)
    rw [hb0] at hm ⊢
    have:=(H.ep e4 j hj hm).1
    omega
  ·rw [qs j hj hji] at hm ⊢
   obtain ⟨a1,b1⟩:=H.ep e4 j hj hm
   rw [bH _ _ hji]
   exact ⟨a1,fun hc=>aB (P:=fun k (h:Th)=>k<n→ky p.aJ j h) (fun _=>ky.calm hcm) fun k _ hk=>b1 hc k hk⟩
theorem OV (L:h.Loc e n p i) {C:Int} (hC:p.aJ<C) (he:1≤e∧e≤5) {w:Wd} (hw:h.bX C=some w):h.bX p.aJ=some w:=by
 unfold Th.bX at hw ⊢
 cases ht:h.t with
 | jA c v =>
  rw [ht] at hw
  simp only at hw
  by_cases g:v.slot≠0∧RT.cZ h.l 0 C
  ·exfalso
   have hsh:=L.lC
   unfold Th.sh at hsh
   rw [ht] at hsh
   obtain ⟨g1,g2,g3⟩:=hsh
   have g4:=g.2
   unfold RT.cZ at g4
   rcases g3 with g3 | g3
   ·rw [if_pos (by rw [L.iR];exact g3)] at g4
    have:=(L.h3 g3).1
    have:=g4.2
    simp only [Int.toNat_zero] at this
    omega
   ·rw [if_neg (by rw [L.iR];omega)] at g4
    rcases L.s5 with h | ⟨a,b,h1,h2,h3⟩
    ·rw [h] at g4;exact absurd g4.1 (by decide)
    ·rw [h1] at g4
     have:b=C:=g4.2
     omega
  ·rw [if_neg g] at hw;cases hw
 | _=>rw [ht] at hw;exact hw
theorem Inv.tick (H:Inv n e p T own A) (hi:i<n) {k:Int} (hok:(p.cK k 24 (eQ (p.aJ+1))).OK) (h1:h'.hand=(T i).hand) (h2:h'.cut=(T i).cut)
  (h3:h'.l.notes=(T i).l.notes) (hl:h'.Loc e n p i) (hs:h'.snap=none) (hf:h'.full=none) (hr:∀o b,h'.t≠.dW o b) (hp:∀C,h'.bX C=none) (hcm:Calm h'.t)
  (ha:e=4→(T i).t=.ji (eQ p.aJ)):Inv n e (p.cK k 24 (eQ (p.aJ+1))) (bT T i h') own A:=by
 have h6:=H.n6
 have q0:(p.cK k 24 (eQ (p.aJ+1))).bd 0=p.bd 0:=by simp [PS.cK]
 have q24:(p.cK k 24 (eQ (p.aJ+1))).bd 24=eQ (p.aJ+1):=by simp [PS.cK]
 have qc:(p.cK k 24 (eQ (p.aJ+1))).aJ=p.aJ+1:=by rw [PS.aJ,q24];rfl
 have qr:(p.cK k 24 (eQ (p.aJ+1))).rt=p.rt:=by unfold PS.rt;rw [q0]
 have qk:∀j m,(p.cK k 24 (eQ (p.aJ+1))).bd (25+9 * j+m)=p.bd (25+9 * j+m):=fun j m=>if_neg (by omega)
 have qs:∀j,(p.cK k 24 (eQ (p.aJ+1))).bd (79+j)=p.bd (79+j):=fun j=>if_neg (by omega)
 have qa:∀j,gK e (p.cK k 24 (eQ (p.aJ+1))) j=gK e p j:=fun j=>by
  unfold gK
  rw [show (p.cK k 24 (eQ (p.aJ+1))).bd (25+9 * j)=p.bd (25+9 * j) from qk j 0,qs j]
 have hL:∀j,j<n→∀h:Th,h.Loc e n p j→h.Loc e n (p.cK k 24 (eQ (p.aJ+1))) j:=fun j hj h L=>L.other (fun m _=>qk j m) (qs j) (by rw [qc];omega)
 refine ⟨hok,H.nb,H.gN,H.n6,H.e5,?_,?_,?_,?_,?_,?_,H.val,?_,?_,?_,?_,?_,?_⟩
 ·rw [q24,qc];exact ⟨rfl,by have:=H.clock.2;omega⟩
 ·rw [q0];exact H.root
 ·rw [qr]
  refine H.oi.same rfl ?_ ?_ ?_
  ·exact aB (P:=fun k (h:Th)=>h.hand=(T k).hand) h1 fun _ _=>rfl
  ·exact aB (P:=fun k (h:Th)=>h.cut=(T k).cut) h2 fun _ _=>rfl
  ·exact aB (P:=fun k (h:Th)=>h.l.notes=(T k).l.notes) h3 fun _ _=>rfl
 ·exact aB (P:=fun j (h:Th)=>j<n→h.Loc e n (p.cK k 24 (eQ (p.aJ+1))) j) (fun hj=>hL i hj _ hl) fun j hj hjn=>hL j hjn _ (H.loc j hjn)
 ·exact aB (P:=fun k (h:Th)=>n≤k→h.hand=none∧h.cut=none∧h.l.notes=[]) (fun h=>absurd hi (Nat.not_lt.2 h)) fun k _=>H.rest k
 ·rw [q0]
  exact aB (P:=fun k (h:Th)=>k<n→∀w,h.snap=some w→w.tag≤(p.bd 0).tag∧(w.tag=(p.bd 0).tag→w=p.bd 0)) (fun _ w hw=>by rw [hs] at hw;cases hw) fun k _=>H.snap k
 ·exact aB (P:=fun k (h:Th)=>k<n→∀w,h.full=some w→(p.cell (w.slot-1).toNat 1).num=dH w) (fun _ w hw=>by rw [hf] at hw;cases hw) fun k _=>H.full k
 ·rw [qc]
  intro s hs
  have:p.aU s≤p.aJ:=H.aU s hs
  show p.aU s≤p.aJ+1
  omega
 ·rw [qc]
  have:∀j,∀m∈(T j).l.notes,(e=3∨e=5→m.aU=p.aU m.ref.slot)∧(e≠2→m.dh≤p.aJ+1):=fun j m hm=>by
   obtain ⟨a1,a2⟩:=H.dh j m hm
   exact ⟨a1,fun h=>by have:=a2 h;omega⟩
  exact aB (P:=fun k (h:Th)=>∀m∈h.l.notes,(e=3∨e=5→m.aU=p.aU m.ref.slot)∧(e≠2→m.dh≤p.aJ+1)) (by rw [h3];exact this i) fun k _=>this k
 ·exact aB (P:=fun k (h:Th)=>k<n→∀o b,h.t=.dW o b→e≠4→b=p.aU o.slot) (fun _ o b hb=>absurd hb (hr o b)) fun k _=>H.rb k
 ·rw [qc]
  refine aB (P:=fun j (h:Th)=>j<n→∀w,h.bX (p.aJ+1)=some w→(own w.slot).qF∧p.gen (w.slot-1).toNat=w.gen∧pK e (p.cK k 24 (eQ (p.aJ+1))) (bT T i h') A j w.slot) (fun _ w hw=>by rw [hp] at hw;cases hw) fun j hj hjn w hw=>?_
  obtain ⟨a1,b1,c1,d1⟩:=H.held j hjn w (OV (H.loc j hjn) (by omega) H.e5 hw)
  refine ⟨a1,b1,by rw [qa j];exact c1,?_⟩
  rw [qa j]
  exact aB (P:=fun _ (h:Th)=>NK e (gK e p j) (A j) (jk e j) h w.slot) ((d1 i).calm h3 hcm) fun j _=>d1 j
 ·intro e4 j hj hm
  rw [qs j] at hm ⊢
  obtain ⟨a1,b1⟩:=H.ep e4 j hj hm
  rw [qc]
  have hne:p.aJ≠A j+1:=fun hc=>(b1 hc i hi).2 _ (ha e4) rfl
  refine ⟨by omega,fun hc=>?_⟩
  refine aB (P:=fun k (h:Th)=>k<n→ky (p.aJ+1) j h) (fun _=>ky.calm hcm) fun m _ hm=>?_
  have Lm:=(H.loc m hm).lC
  unfold Th.sh at Lm
  refine ⟨fun ck seen ht hck x hx=>?_,fun ck ht hck=>?_⟩
  ·exfalso
   rw [ht] at Lm
   obtain ⟨c,c1,c2⟩:=Lm.2.2.2 e4
   rw [c2] at hck
   have:c=p.aJ+1:=hck
   omega
  ·rw [ht] at Lm
   obtain ⟨c,c1,c2⟩:=Lm.2.2
   rw [c2] at hck
   have:c=p.aJ+1:=hck
   omega
end
end Go.Proofs.YthomdlajobnmnaaDoor
set_option linter.unusedSimpArgs false
set_option linter.unusedVariables false
set_option linter.unusedSimpArgs false
set_option linter.unusedVariables false
namespace Go.Proofs.YthomdlajobnmnaaDoor
open Go.Rex
def PS.VI (p:PS) (k nf made:Int) (w0:Wd) (b:Int):PS :=
 {p with steps:=k,nf:=nf,made:=made,gen:=fun i=>if i=(w0.slot-1).toNat then w0.gen else p.gen i,used:=fun i=>if i=(w0.slot-1).toNat then true else p.used i,
          cell:=fun i j=>if i=(w0.slot-1).toNat∧j<10 then nP b j else p.cell i j}
def PS.I6 (p:PS) (k nf:Int) (fr:Nat→Int) (s:Int):PS:={p with steps:=k,nf:=nf,fr:=fr,used:=fun i=>if i=(s-1).toNat then false else p.used i}
theorem y5 {h:Th} {w:Wd} (hw:h.full=some w):h.hand=some w:=by
 unfold Th.full at hw
 unfold Th.hand
 cases ht:h.t with
 | idle x =>
  rw [ht] at hw
  simp only at hw ⊢
  by_cases g:h.pc=5
  ·rw [if_pos g] at hw;rw [if_neg (by omega),if_pos g];exact hw
  ·rw [if_neg g] at hw;cases hw
 | one a =>
  rw [ht] at hw
  simp only at hw ⊢
  by_cases g:h.pc=6
  ·rw [if_pos g] at hw;rw [if_pos (.inr g)];exact hw
  ·rw [if_neg g] at hw;cases hw
 | _=>rw [ht] at hw;cases hw
theorem Q6 {h:Th} {o:Wd} {b:Int} (ht:h.t=.dW o b):h.cut=some o:=by unfold Th.cut;rw [ht]
section
variable {n:Nat} {e:Int} {p p':PS} {T:Nat→Th} {own:Int→iV} {A:Nat→Int} {i:Nat} {h h':Th}
theorem Th.Loc.same (L:h.Loc e n p i) (hb:p'.bd=p.bd):h.Loc e n p' i :=
 L.other (fun _ _=>by rw [hb]) (by rw [hb]) (by unfold PS.aJ;rw [hb];exact Int.le_refl _)
theorem Inv.slot (H:Inv n e p T own A) (hi:i<n) (s0:Int) {o0 o1:iV} (hs0:1≤s0) (hown:own s0=o0) (hok:p'.OK) (hnb:p'.nb=p.nb) (hns:p'.ns=p.ns) (hgood:p'.gN=p.gN) (hbd:p'.bd=p.bd)
  (VJ:∀s,1≤s→s≠s0→p'.gen (s-1).toNat=p.gen (s-1).toNat) (hcell:∀s f,1≤s→s≠s0→p'.cell (s-1).toNat f=p.cell (s-1).toNat f)
  (hoi:OI e p.ns p'.used p'.gen p.rt (fun j=>(bT T i h' j).hand) (fun j=>(bT T i h' j).cut) (fun j=>(bT T i h' j).l.notes) (fun s=>if s=s0 then o1 else own s))
  (ho:o0=.free∨o0=.hand i∨o0=.note i) (ho1:∀j,j≠i→o1≠.hand j) (hl:h'.Loc e n p i) (hs:h'.snap=none∨h'.snap=(T i).snap) (hr:∀o b,h'.t≠.dW o b) (hp:∀C,h'.bX C=none)
  (Yz:∀j,j<n→j≠i→∀w,(T j).bX p.aJ=some w→w.slot≠s0)
  (hval:o1.qF→(p'.cell (s0-1).toNat 1).num=s0+2000 * p'.gen (s0-1).toNat) (hfull:∀w,h'.full=some w→(p'.cell (w.slot-1).toNat 1).num=dH w) (VK:o1≠.free→p'.aU s0≤p.aJ)
  (VL:∀m∈h'.l.notes,m∈(T i).l.notes∧m.ref.slot≠s0) (VF:∀j,j<n→j≠i→∀s,s≠s0→NK e (gK e p j) (A j) (jk e j) (T i) s→NK e (gK e p j) (A j) (jk e j) h' s)
  (VG:∀j,ky p.aJ j (T i)→ky p.aJ j h'):Inv n e p' (bT T i h') (fun s=>if s=s0 then o1 else own s) A:=by
 have qc:p'.aJ=p.aJ:=by unfold PS.aJ;rw [hbd]
 have qr:p'.rt=p.rt:=by unfold PS.rt;rw [hbd]
 have qa:∀j,gK e p' j=gK e p j:=fun j=>by unfold gK;rw [hbd]
 have qb:∀s,1≤s→s≠s0→p'.aU s=p.aU s:=fun s h1 h2=>by unfold PS.aU;rw [hcell s 9 h1 h2]
 have jY:∀s,own s≠.free→1≤s:=fun s h=>(H.oi.out s h).1
 have Nn:∀j,j≠i→∀w,(T j).hand=some w→1≤w.slot∧w.slot≠s0:=fun j hj w hw=>by
  obtain ⟨r1,r2,r3,r4,r5⟩:=H.oi.jY (o:=.hand j) (w:=w) hw
  refine ⟨r1,fun he=>?_⟩
  rw [he,hown] at r5
  rcases ho with h | h | h
  ·rw [h] at r5;cases r5
  ·rw [h] at r5;cases r5;exact hj rfl
  ·rw [h] at r5;cases r5
 refine ⟨hok,by rw [hnb];exact H.nb,by rw [hgood];exact H.gN,H.n6,H.e5,by rw [qc,hbd];exact H.clock,by rw [hbd];exact H.root,by rw [hns,qr];exact hoi,?_,?_,?_,?_,?_,?_,?_,?_,?_,?_⟩
 ·exact aB (P:=fun j (h:Th)=>j<n→h.Loc e n p' j) (fun _=>hl.same hbd) fun j _ hjn=>(H.loc j hjn).same hbd
 ·exact aB (P:=fun k (h:Th)=>n≤k→h.hand=none∧h.cut=none∧h.l.notes=[]) (fun h=>absurd hi (Nat.not_lt.2 h)) fun k _=>H.rest k
 ·rw [hbd]
  refine aB (P:=fun k (h:Th)=>k<n→∀w,h.snap=some w→w.tag≤(p.bd 0).tag∧(w.tag=(p.bd 0).tag→w=p.bd 0)) (fun _ w hw=>?_) fun k _=>H.snap k
  rcases hs with hs | hs
  ·rw [hs] at hw;cases hw
  ·rw [hs] at hw;exact H.snap i hi w hw
 ·intro s hs'
  by_cases hx:s=s0
  ·simp only [if_pos hx] at hs'
   rw [hx];exact hval hs'
  ·simp only [if_neg hx] at hs'
   have h1:=jY s hs'.1
   rw [hcell s 1 h1 hx,VJ s h1 hx]
   exact H.val s hs'
 ·refine aB (P:=fun k (h:Th)=>k<n→∀w,h.full=some w→(p'.cell (w.slot-1).toNat 1).num=dH w) (fun _=>hfull) fun k hk hkn w hw=>?_
  obtain ⟨h1,h2⟩:=Nn k hk w (y5 hw)
  rw [hcell _ 1 h1 h2]
  exact H.full k hkn w hw
 ·intro s hs'
  rw [qc]
  by_cases hx:s=s0
  ·simp only [if_pos hx] at hs'
   rw [hx];exact VK hs'
  ·simp only [if_neg hx] at hs'
   rw [qb s (jY s hs') hx]
   exact H.aU s hs'
 ·rw [qc]
  have hm:∀j,∀m∈(T j).l.notes,m.ref.slot≠s0→(e=3∨e=5→m.aU=p'.aU m.ref.slot)∧(e≠2→m.dh≤p.aJ):=fun j m hm hne=>by
   obtain ⟨r1,r2,r3,r4,r5⟩:=H.oi.jY (o:=.note j) (w:=m.ref) ⟨m,hm,rfl⟩
   rw [qb _ r1 hne]
   exact H.dh j m hm
  refine aB (P:=fun k (h:Th)=>∀m∈h.l.notes,(e=3∨e=5→m.aU=p'.aU m.ref.slot)∧(e≠2→m.dh≤p.aJ)) (fun m hx=>?_) fun k hk m hx=>?_
  ·obtain ⟨h1,h2⟩:=VL m hx
   exact hm i m h1 h2
  ·refine hm k m hx fun he=>?_
   obtain ⟨r1,r2,r3,r4,r5⟩:=H.oi.jY (o:=.note k) (w:=m.ref) ⟨m,hx,rfl⟩
   rw [he,hown] at r5
   rcases ho with h | h | h
   ·rw [h] at r5;cases r5
   ·rw [h] at r5;cases r5
   ·rw [h] at r5;cases r5;exact hk rfl
 ·refine aB (P:=fun k (h:Th)=>k<n→∀o b,h.t=.dW o b→e≠4→b=p'.aU o.slot) (fun _ o b hb=>absurd hb (hr o b)) fun k hk hkn o b hb h4=>?_
  have hc:=Q6 hb
  obtain ⟨r1,r2,r3,r4,r5⟩:=H.oi.jY (o:=.cut k) (w:=o) hc
  rw [qb _ r1 (fun he=>by
    rw [he,hown] at r5
    rcases ho with h | h | h
    · rw [h] at r5;cases r5
    · rw [h] at r5;cases r5
    · rw [h] at r5;cases r5)]
  exact H.rb k hkn o b hb h4
 ·rw [qc]
  refine aB (P:=fun k (h:Th)=>k<n→∀w,h.bX p.aJ=some w→(if w.slot=s0 then o1 else own w.slot).qF∧p'.gen (w.slot-1).toNat=w.gen∧pK e p' (bT T i h') A k w.slot) (fun _ w hw=>by rw [hp] at hw;cases hw) fun k hk hkn w hw=>?_
  obtain ⟨a1,b1,c1,d1⟩:=H.held k hkn w hw
  have hne:=Yz k hkn hk w hw
  have h1:=jY _ a1.1
  refine ⟨by rw [if_neg hne];exact a1,by rw [VJ _ h1 hne];exact b1,by rw [qa,qb _ h1 hne];exact c1,?_⟩
  rw [qa]
  exact aB (P:=fun _ (h:Th)=>NK e (gK e p k) (A k) (jk e k) h w.slot) (VF k hkn hk _ hne (d1 i)) fun j _=>d1 j
 ·rw [hbd,qc]
  intro e4 j hj hm
  obtain ⟨a1,b1⟩:=H.ep e4 j hj hm
  exact ⟨a1,fun hc=>aB (P:=fun k (h:Th)=>k<n→ky p.aJ j h) (fun _=>VG j (b1 hc i hi)) fun k _ hk=>b1 hc k hk⟩
theorem Inv.alloc (H:Inv n e p T own A) (hi:i<n) {k nf made:Int} {w0:Wd} {b:Int} (hok:(p.VI k nf made w0 b).OK) (hs:1≤w0.slot∧w0.slot≤p.ns) (hu:p.used (w0.slot-1).toNat=false) (hb:b≤p.aJ)
  (h0:(T i).hand=none) (h1:h'.hand=some w0) (h2:h'.cut=(T i).cut) (h3:h'.l.notes=(T i).l.notes) (hl:h'.Loc e n p i) (hsn:h'.snap=(T i).snap) (hf:h'.full=none) (hr:∀o b,h'.t≠.dW o b) (hp:∀C,h'.bX C=none) (hcm:Calm h'.t) :
  ∃own',Inv n e (p.VI k nf made w0 b) (bT T i h') own' A:=by
 have hown:own w0.slot=.free:=by
  by_cases h:own w0.slot=.free
  ·exact h
  ·have:=(H.oi.used w0.slot hs.1 hs.2).2 h
   rw [hu] at this;cases this
 have hoi:=H.oi.alloc (i:=i) w0 hs hu h0
 refine ⟨fun s=>if s=w0.slot then .hand i else own s,H.slot hi w0.slot hs.1 hown hok rfl rfl rfl rfl (fun s q1 q2=>if_neg (by omega)) (fun s f q1 q2=>if_neg (by omega)) ?_ (.inl rfl) (fun j hj h=>hj (by cases h;rfl)) hl (.inr hsn) hr hp ?_ ?_ ?_ ?_ ?_ ?_ ?_⟩
 ·refine hoi.same rfl ?_ ?_ ?_
  ·refine aB (P:=fun k (h:Th)=>h.hand=bT (fun i=>(T i).hand) i (some w0) k) ?_ fun k hk=>?_
   ·rw [aS,h1]
   ·rw [bH _ _ hk]
  ·exact aB (P:=fun k (h:Th)=>h.cut=(T k).cut) h2 fun _ _=>rfl
  ·exact aB (P:=fun k (h:Th)=>h.l.notes=(T k).l.notes) h3 fun _ _=>rfl
 ·intro j hj _ w hw he
  have:=(H.held j hj w hw).1.1
  rw [he,hown] at this
  exact this rfl
 ·exact fun h=>absurd rfl (h.2 i)
 ·exact fun w hw=>by rw [hf] at hw;cases hw
 ·intro _
  show (if _∧_ then _ else _:Wd).num≤_
  rw [if_pos ⟨rfl,by omega⟩]
  exact hb
 ·intro m hm
  rw [h3] at hm
  refine ⟨hm,fun he=>?_⟩
  obtain ⟨r1,r2,r3,r4,r5⟩:=H.oi.jY (o:=.note i) (w:=m.ref) ⟨m,hm,rfl⟩
  rw [he,hown] at r5
  cases r5
 ·exact fun j _ _ s _ h=>h.calm h3 hcm
 ·exact fun j _=>ky.calm hcm
theorem Inv.fill (H:Inv n e p T own A) (hi:i<n) {k:Int} {w0:Wd} (hok:(p.Ms k (w0.slot-1).toNat 1 (Wd.eD (dH w0))).OK) (h0:(T i).hand=some w0) (h1:h'.hand=some w0) (h2:h'.cut=(T i).cut) (h3:h'.l.notes=(T i).l.notes) (hl:h'.Loc e n p i)
  (hsn:h'.snap=(T i).snap) (hf:h'.full=some w0) (hr:∀o b,h'.t≠.dW o b) (hp:∀C,h'.bX C=none) (hcm:Calm h'.t) :
  ∃own',Inv n e (p.Ms k (w0.slot-1).toNat 1 (Wd.eD (dH w0))) (bT T i h') own' A:=by
 obtain ⟨r1,r2,r3,r4,r5⟩:=H.oi.jY (o:=.hand i) (w:=w0) h0
 refine ⟨_,H.slot hi w0.slot (o1:=.hand i) r1 r5 hok rfl rfl rfl rfl (fun s q1 q2=>rfl) (fun s f q1 q2=>if_neg (by omega)) ?_ (.inr (.inl rfl)) (fun j hj h=>hj (by cases h;rfl)) hl (.inr hsn) hr hp ?_ ?_ ?_ ?_ ?_ ?_ ?_⟩
 ·have:(fun s=>if s=w0.slot then iV.hand i else own s)=own:=funext fun s=>by
   by_cases hx:s=w0.slot
   ·rw [if_pos hx,hx,r5]
   ·rw [if_neg hx]
  rw [this]
  refine H.oi.same rfl ?_ ?_ ?_
  ·exact aB (P:=fun k (h:Th)=>h.hand=(T k).hand) (by rw [h1,h0]) fun _ _=>rfl
  ·exact aB (P:=fun k (h:Th)=>h.cut=(T k).cut) h2 fun _ _=>rfl
  ·exact aB (P:=fun k (h:Th)=>h.l.notes=(T k).l.notes) h3 fun _ _=>rfl
 ·intro j hj _ w hw he
  have:=(H.held j hj w hw).1.2 i
  rw [he,r5] at this
  exact this rfl
 ·exact fun h=>absurd rfl (h.2 i)
 ·intro w hw
  rw [hf] at hw
  cases hw
  show (if _∧_ then _ else _:Wd).num=_
  rw [if_pos ⟨rfl,rfl⟩]
  rfl
 ·intro _
  show (if _∧_ then _ else _:Wd).num≤_
  rw [if_neg (by omega)]
  exact H.aU _ (by rw [r5];simp)
 ·intro m hm
  rw [h3] at hm
  refine ⟨hm,fun he=>?_⟩
  obtain ⟨q1,q2,q3,q4,q5⟩:=H.oi.jY (o:=.note i) (w:=m.ref) ⟨m,hm,rfl⟩
  rw [he,r5] at q5
  cases q5
 ·exact fun j _ _ s _ h=>h.calm h3 hcm
 ·exact fun j _=>ky.calm hcm
theorem Inv.drop (H:Inv n e p T own A) (hi:i<n) {k nf:Int} {fr:Nat→Int} {w0:Wd} (hok:(p.I6 k nf fr w0.slot).OK) (h0:(T i).hand=some w0) (h1:h'.hand=none) (h2:h'.cut=(T i).cut) (h3:h'.l.notes=(T i).l.notes) (hl:h'.Loc e n p i)
  (hsn:h'.snap=none) (hf:h'.full=none) (hr:∀o b,h'.t≠.dW o b) (hp:∀C,h'.bX C=none) (hcm:Calm h'.t) :
  ∃own',Inv n e (p.I6 k nf fr w0.slot) (bT T i h') own' A:=by
 obtain ⟨r1,r2,r3,r4,r5⟩:=H.oi.jY (o:=.hand i) (w:=w0) h0
 have hoi:=H.oi.drop (i:=i) h0
 refine ⟨_,H.slot hi w0.slot (o1:=.free) r1 r5 hok rfl rfl rfl rfl (fun s q1 q2=>rfl) (fun s f q1 q2=>rfl) ?_ (.inr (.inl rfl)) (fun j hj h=>by cases h) hl (.inl hsn) hr hp ?_ ?_ ?_ ?_ ?_ ?_ ?_⟩
 ·refine hoi.same rfl ?_ ?_ ?_
  ·refine aB (P:=fun k (h:Th)=>h.hand=bT (fun i=>(T i).hand) i none k) ?_ fun k hk=>?_
   ·rw [aS,h1]
   ·rw [bH _ _ hk]
  ·exact aB (P:=fun k (h:Th)=>h.cut=(T k).cut) h2 fun _ _=>rfl
  ·exact aB (P:=fun k (h:Th)=>h.l.notes=(T k).l.notes) h3 fun _ _=>rfl
 ·intro j hj _ w hw he
  have:=(H.held j hj w hw).1.2 i
  rw [he,r5] at this
  exact this rfl
 ·exact fun h=>absurd rfl h.1
 ·exact fun w hw=>by rw [hf] at hw;cases hw
 ·exact fun h=>absurd rfl h
 ·intro m hm
  rw [h3] at hm
  refine ⟨hm,fun he=>?_⟩
  obtain ⟨q1,q2,q3,q4,q5⟩:=H.oi.jY (o:=.note i) (w:=m.ref) ⟨m,hm,rfl⟩
  rw [he,r5] at q5
  cases q5
 ·exact fun j _ _ s _ h=>h.calm h3 hcm
 ·exact fun j _=>ky.calm hcm
theorem Inv.eG (H:Inv n e p T own A) (hi:i<n) {k nf:Int} {fr:Nat→Int} {d:Nt} {r:List Nt} (hok:(p.I6 k nf fr d.ref.slot).OK) (ht:(T i).t=.ib d r) (hd:d∈(T i).l.notes) (h1:h'.hand=none) (h2:h'.cut=none)
  (h3:h'.l.notes=(T i).l.notes.erase d) (hl:h'.Loc e n p i) (hsn:h'.snap=none) (hf:h'.full=none) (hr:∀o b,h'.t≠.dW o b) (hp:∀C,h'.bX C=none) (h4:(r=[]∧∃x,h'.t=.idle x)∨∃d' r',r=d' :: r'∧h'.t=.ib d' r') :
  ∃own',Inv n e (p.I6 k nf fr d.ref.slot) (bT T i h') own' A:=by
 obtain ⟨r1,r2,r3,r4,r5⟩:=H.oi.jY (o:=.note i) (w:=d.ref) ⟨d,hd,rfl⟩
 have hoi:=H.oi.eG (i:=i) hd
 have g1:(T i).hand=none:=by unfold Th.hand;rw [ht]
 have g2:(T i).cut=none:=by unfold Th.cut;rw [ht]
 have hnd:=ma (H.oi.qO i)
 refine ⟨_,H.slot hi d.ref.slot (o1:=.free) r1 r5 hok rfl rfl rfl rfl (fun s q1 q2=>rfl) (fun s f q1 q2=>rfl) ?_ (.inr (.inr rfl)) (fun j hj h=>by cases h) hl (.inl hsn) hr hp ?_ ?_ ?_ ?_ ?_ ?_ ?_⟩
 ·refine hoi.same rfl ?_ ?_ ?_
  ·exact aB (P:=fun k (h:Th)=>h.hand=(T k).hand) (by rw [h1,g1]) fun _ _=>rfl
  ·exact aB (P:=fun k (h:Th)=>h.cut=(T k).cut) (by rw [h2,g2]) fun _ _=>rfl
  ·refine aB (P:=fun k (h:Th)=>h.l.notes=bT (fun i=>(T i).l.notes) i ((T i).l.notes.erase d) k) ?_ fun k hk=>?_
   ·rw [aS,h3]
   ·rw [bH _ _ hk]
 ·intro j hj _ w hw he
  have:=((H.held j hj w hw).2.2.2 i d hd he.symm).2.1 d r ht
  exact this.1 rfl
 ·exact fun h=>absurd rfl h.1
 ·exact fun w hw=>by rw [hf] at hw;cases hw
 ·exact fun h=>absurd rfl h
 ·intro m hm
  rw [h3,hnd.mem_erase_iff] at hm
  exact ⟨hm.2,fun he=>hm.1 (yZ (H.oi.qO i) hm.2 hd he)⟩
 ·intro j _ _ s hs hn m hm hms
  rw [h3,hnd.mem_erase_iff] at hm
  obtain ⟨a1,a2,a3⟩:=hn m hm.2 hms
  refine ⟨a1,fun d' r' ht'=>?_,fun ck seen ht'=>?_⟩
  ·obtain ⟨b1,b2⟩:=a2 d r ht
   rcases h4 with ⟨-,x,hx⟩ | ⟨d2,r2,e1,e2⟩
   ·rw [hx] at ht';cases ht'
   ·rw [e2] at ht'
    cases ht'
    rw [e1] at b2
    exact ⟨fun h=>b2 (by rw [h];exact List.mem_cons_self ..),fun h=>b2 (List.mem_cons_of_mem _ h)⟩
  ·rcases h4 with ⟨-,x,hx⟩ | ⟨d2,r2,e1,e2⟩
   ·rw [hx] at ht';cases ht'
   ·rw [e2] at ht';cases ht'
 ·intro j _
  rcases h4 with ⟨-,x,hx⟩ | ⟨d2,r2,e1,e2⟩
  ·exact ⟨fun ck seen h=>(by rw [hx] at h;cases h),fun ck h=>(by rw [hx] at h;cases h)⟩
  ·exact ⟨fun ck seen h=>(by rw [e2] at h;cases h),fun ck h=>(by rw [e2] at h;cases h)⟩
theorem Inv.swap (H:Inv n e p T own A) (hi:i<n) {k:Int} {nd w1:Wd} (hok:(p.cK k 0 w1).OK) (hw1:w1.slot=nd.slot∧w1.gen=nd.gen∧w1.num=0∧w1.mark=false∧(p.bd 0).tag<w1.tag) (h0:(T i).full=some nd) (hc0:(T i).cut=none)
  (h1:h'.hand=none) (h2:h'.cut=p.rt) (h3:h'.l.notes=(T i).l.notes) (hl:h'.Loc e n p i) (hsn:h'.snap=none) (hf:h'.full=none) (hr:∀o b,h'.t≠.dW o b) (hp:∀C,h'.bX C=none) (hcm:Calm h'.t) :
  ∃own',Inv n e (p.cK k 0 w1) (bT T i h') own' A:=by
 have hh:=y5 h0
 obtain ⟨r1,r2,r3,r4,r5⟩:=H.oi.jY (o:=.hand i) (w:=nd) hh
 have q0:(p.cK k 0 w1).bd 0=w1:=by simp [PS.cK]
 have qx:∀a,a≠0→(p.cK k 0 w1).bd a=p.bd a:=fun a ha=>if_neg ha
 have qc:(p.cK k 0 w1).aJ=p.aJ:=by unfold PS.aJ;rw [qx 24 (by omega)]
 have qr:(p.cK k 0 w1).rt=some w1:=by unfold PS.rt;rw [q0,if_neg (by omega)]
 have qa:∀j,gK e (p.cK k 0 w1) j=gK e p j:=fun j=>by unfold gK;rw [qx _ (by omega),qx _ (by omega)]
 have hoi:∃own',OI e p.ns p.used p.gen (some w1) (bT (fun j=>(T j).hand) i none) (bT (fun j=>(T j).cut) i p.rt) (fun j=>(T j).l.notes) own'∧(∀s,own' s=.free↔own s=.free)∧(∀s,(own s).qF→(own' s).qF)∧(∀s,(own' s).qF→(own s).qF∨s=nd.slot):=by
  have hbase:=H.oi
  by_cases hz:(p.bd 0).slot=0
  ·have hrt:p.rt=none:=if_pos hz
   rw [hrt] at hbase
   refine ⟨_,(hbase.put (w1:=w1) hh ⟨hw1.1,hw1.2.1⟩).same rfl (fun _=>rfl) ?_ (fun _=>rfl),fun s=>?_,fun s hs=>?_,fun s hs=>?_⟩
   ·rw [hrt]
    exact aB (P:=fun k (x:Option Wd)=>x=(T k).cut) hc0.symm fun _ _=>rfl
   ·by_cases hx:s=nd.slot
    ·rw [if_pos hx,hx,r5];simp
    ·rw [if_neg hx]
   ·by_cases hx:s=nd.slot
    ·rw [if_pos hx];exact ⟨by simp,by simp⟩
    ·rw [if_neg hx];exact hs
   ·by_cases hx:s=nd.slot
    ·exact .inr hx
    ·rw [if_neg hx] at hs;exact .inl hs
  ·have hrt:p.rt=some (p.bd 0):=if_neg hz
   rw [hrt] at hbase
   obtain ⟨t1,t2,t3,t4,t5⟩:=hbase.jY (o:=.root) (w:=p.bd 0) rfl
   have hne:(p.bd 0).slot≠nd.slot:=fun he=>by rw [he,r5] at t5;cases t5
   have h2':=hbase.take (i:=i) (w1:=p.bd 0) hc0 ⟨rfl,rfl⟩
   refine ⟨_,(h2'.put (w1:=w1) hh ⟨hw1.1,hw1.2.1⟩).same rfl (fun _=>rfl) ?_ (fun _=>rfl),fun s=>?_,fun s hs=>?_,fun s hs=>?_⟩
   ·rw [hrt];exact fun _=>rfl
   ·by_cases hx:s=nd.slot
    ·rw [if_pos hx,hx,r5];simp
    ·rw [if_neg hx]
     by_cases hy:s=(p.bd 0).slot
     ·rw [if_pos hy,hy,t5];simp
     ·rw [if_neg hy]
   ·by_cases hx:s=nd.slot
    ·rw [if_pos hx];exact ⟨by simp,by simp⟩
    ·rw [if_neg hx]
     by_cases hy:s=(p.bd 0).slot
     ·rw [if_pos hy];exact ⟨by simp,by simp⟩
     ·rw [if_neg hy];exact hs
   ·by_cases hx:s=nd.slot
    ·exact .inr hx
    ·rw [if_neg hx] at hs
     by_cases hy:s=(p.bd 0).slot
     ·left
      rw [hy,t5];exact ⟨by simp,by simp⟩
     ·rw [if_neg hy] at hs;exact .inl hs
 obtain ⟨own',hoi,hfree,XR,Wz⟩:=hoi
 have hL:∀j,j<n→∀h:Th,h.Loc e n p j→h.Loc e n (p.cK k 0 w1) j:=fun j hj h L=>L.other (fun m _=>qx _ (by omega)) (qx _ (by omega)) (by rw [qc];exact Int.le_refl _)
 refine ⟨own',hok,H.nb,H.gN,H.n6,H.e5,?_,?_,?_,?_,?_,?_,?_,?_,?_,?_,?_,?_,?_⟩
 ·rw [qc,qx 24 (by omega)];exact H.clock
 ·rw [q0];exact ⟨hw1.2.2.1,hw1.2.2.2.1⟩
 ·rw [qr]
  refine hoi.same rfl ?_ ?_ ?_
  ·refine aB (P:=fun k (h:Th)=>h.hand=bT (fun i=>(T i).hand) i none k) ?_ fun k hk=>?_
   ·rw [aS,h1]
   ·rw [bH _ _ hk]
  ·refine aB (P:=fun k (h:Th)=>h.cut=bT (fun i=>(T i).cut) i p.rt k) ?_ fun k hk=>?_
   ·rw [aS,h2]
   ·rw [bH _ _ hk]
  ·exact aB (P:=fun k (h:Th)=>h.l.notes=(T k).l.notes) h3 fun _ _=>rfl
 ·exact aB (P:=fun j (h:Th)=>j<n→h.Loc e n (p.cK k 0 w1) j) (fun hj=>hL i hj _ hl) fun j hj hjn=>hL j hjn _ (H.loc j hjn)
 ·exact aB (P:=fun k (h:Th)=>n≤k→h.hand=none∧h.cut=none∧h.l.notes=[]) (fun h=>absurd hi (Nat.not_lt.2 h)) fun k _=>H.rest k
 ·rw [q0]
  refine aB (P:=fun k (h:Th)=>k<n→∀w,h.snap=some w→w.tag≤w1.tag∧(w.tag=w1.tag→w=w1)) (fun _ w hw=>by rw [hsn] at hw;cases hw) fun k _ hk w hw=>?_
  have:=(H.snap k hk w hw).1
  have:=hw1.2.2.2.2
  exact ⟨by omega,fun h=>by omega⟩
 ·intro s hs
  rcases Wz s hs with hs | hs
  ·exact H.val s hs
  ·rw [hs]
   have:=H.full i hi nd h0
   unfold dH at this
   rw [←r4] at this
   exact this
 ·exact aB (P:=fun k (h:Th)=>k<n→∀w,h.full=some w→(p.cell (w.slot-1).toNat 1).num=dH w) (fun _ w hw=>by rw [hf] at hw;cases hw) fun k _=>H.full k
 ·rw [qc]
  exact fun s hs=>H.aU s fun h=>hs ((hfree s).2 h)
 ·rw [qc]
  exact aB (P:=fun k (h:Th)=>∀m∈h.l.notes,(e=3∨e=5→m.aU=p.aU m.ref.slot)∧(e≠2→m.dh≤p.aJ)) (by rw [h3];exact H.dh i) fun k _=>H.dh k
 ·exact aB (P:=fun k (h:Th)=>k<n→∀o b,h.t=.dW o b→e≠4→b=p.aU o.slot) (fun _ o b hb=>absurd hb (hr o b)) fun k _=>H.rb k
 ·rw [qc]
  refine aB (P:=fun j (h:Th)=>j<n→∀w,h.bX p.aJ=some w→(own' w.slot).qF∧p.gen (w.slot-1).toNat=w.gen∧pK e (p.cK k 0 w1) (bT T i h') A j w.slot) (fun _ w hw=>by rw [hp] at hw;cases hw) fun j hj hjn w hw=>?_
  obtain ⟨a1,b1,c1,d1⟩:=H.held j hjn w hw
  refine ⟨XR _ a1,b1,by rw [qa j];exact c1,?_⟩
  rw [qa j]
  exact aB (P:=fun _ (h:Th)=>NK e (gK e p j) (A j) (jk e j) h w.slot) ((d1 i).calm h3 hcm) fun j _=>d1 j
 ·rw [qc]
  intro e4 j hj hm
  rw [qx _ (by omega)] at hm ⊢
  obtain ⟨a1,b1⟩:=H.ep e4 j hj hm
  exact ⟨a1,fun hc=>aB (P:=fun k (h:Th)=>k<n→ky p.aJ j h) (fun _=>ky.calm hcm) fun k _ hk=>b1 hc k hk⟩
end
end Go.Proofs.YthomdlajobnmnaaDoor
set_option linter.unusedSimpArgs false
set_option linter.unusedVariables false
set_option linter.unusedSimpArgs false
set_option linter.unusedVariables false
namespace Go.Proofs.YthomdlajobnmnaaDoor
open Go.Rex
section
variable {n:Nat} {e:Int} {p:PS} {T:Nat→Th} {own:Int→iV} {A:Nat→Int} {i:Nat} {h h':Th}
theorem sZ {s g f:Int} {o w:Wd} (hv:p.has s g f) (hl:p.live s g):p.act ⟨1,s,g,f,o,w⟩=({p with steps:=p.steps+1},some ⟨p.at s f,true⟩):=by
 unfold PS.act
 rw [if_pos (by unfold PS.valid;rw [if_pos (.inl rfl)];exact hv),if_pos (by unfold PS.right;rw [if_neg (show ¬(1:Int)=4 by decide),if_neg (show ¬(1:Int)=5 by decide)];exact hl)]
 rfl
theorem y7 {s g f:Int} {o w:Wd} (hv:p.has s g f) (hl:p.live s g):p.act ⟨2,s,g,f,o,w⟩=(PS.put {p with steps:=p.steps+1} s f w,some ⟨Wd.zero,true⟩):=by
 unfold PS.act
 rw [if_pos (by unfold PS.valid;rw [if_pos (.inr (.inl rfl))];exact hv),if_pos (by unfold PS.right;rw [if_neg (show ¬(2:Int)=4 by decide),if_neg (show ¬(2:Int)=5 by decide)];exact hl)]
 rfl
theorem I7 {s g f:Int} {o w:Wd} (hv:p.has s g f) (hl:p.live s g):p.act ⟨3,s,g,f,o,w⟩=if iy (p.at s f) o then (PS.put {p with steps:=p.steps+1} s f w,some ⟨p.at s f,true⟩) else ({p with steps:=p.steps+1},some ⟨p.at s f,false⟩):=by
 unfold PS.act
 rw [if_pos (by unfold PS.valid;rw [if_pos (.inr (.inr rfl))];exact hv),if_pos (by unfold PS.right;rw [if_neg (show ¬(3:Int)=4 by decide),if_neg (show ¬(3:Int)=5 by decide)];exact hl)]
 unfold PS.makes
 rw [if_neg (show ¬(3:Int)=4 by decide),if_neg (show ¬(3:Int)=5 by decide),if_neg (show ¬(3:Int)=1 by decide),if_neg (show ¬(3:Int)=2 by decide)]
 by_cases g:iy (p.at s f) o
 ·rw [if_pos g,if_pos (show iy (PS.at {p with steps:=p.steps+1} s f) o from g)]
  rfl
 ·rw [if_neg g,if_neg (show ¬iy (PS.at {p with steps:=p.steps+1} s f) o from g)]
  rfl
theorem TM {s g f:Int} {o w:Wd}:p.act ⟨4,s,g,f,o,w⟩=((PS.alloc {p with steps:=p.steps+1} w.num).1,some (PS.alloc {p with steps:=p.steps+1} w.num).2):=by
 unfold PS.act
 rw [if_pos (by unfold PS.valid;rw [if_neg (by simp),if_pos rfl];trivial),if_pos (by unfold PS.right;rw [if_pos rfl];trivial)]
 rfl
theorem I8 {s g f:Int} {o w:Wd} (hv:p.is o.slot) (hl:p.live o.slot o.gen):p.act ⟨5,s,g,f,o,w⟩=(PS.free {p with steps:=p.steps+1} o.slot,some ⟨Wd.zero,true⟩):=by
 unfold PS.act
 rw [if_pos (by unfold PS.valid;rw [if_neg (by simp),if_neg (by simp),if_pos rfl];exact hv),if_pos (by unfold PS.right;rw [if_neg (by simp),if_pos rfl];exact hl)]
 rfl
theorem Inv.Es (H:Inv n e p T own A) {f:Int} (h1:0≤f) (h2:f<85):p.has 0 0 f:=by
 unfold PS.has
 rw [if_pos rfl,H.nb]
 exact ⟨rfl,h1,h2⟩
theorem Inv.zO:p.live 0 0:=.inl rfl
theorem tq {f:Int}:p.at 0 f=p.bd f.toNat:=if_pos rfl
theorem y8 {f:Int} {w:Wd}:PS.put {p with steps:=p.steps+1} 0 f w=p.cK (p.steps+1) f.toNat w:=by
 unfold PS.put
 rw [if_pos rfl]
 rfl
theorem Q7 {s f:Int} {w:Wd} (hs:s≠0):PS.put {p with steps:=p.steps+1} s f w=p.Ms (p.steps+1) (s-1).toNat f.toNat w:=by
 unfold PS.put
 rw [if_neg hs]
 rfl
theorem Inv.I9 (H:Inv n e p T own A) {o:iV} {w:Wd} (hc:Cl p.rt (fun i=>(T i).hand) (fun i=>(T i).cut) (fun i=>(T i).l.notes) o w):1≤w.slot∧w.slot≤p.ns∧p.is w.slot∧p.live w.slot w.gen∧∀f,0≤f→f<10→p.has w.slot w.gen f:=by
 obtain ⟨r1,r2,r3,r4,r5⟩:=H.oi.jY hc
 refine ⟨r1,r2,⟨r1,r2⟩,.inr ⟨r3,r4⟩,fun f h1 h2=>?_⟩
 unfold PS.has
 rw [if_neg (by omega)]
 exact ⟨⟨r1,r2⟩,h1,h2⟩
theorem Inv.kept (H:Inv n e p T own A) (hi:i<n) {w:Wd} (hw:(T i).bX p.aJ=some w):w.slot≠0∧p.live w.slot w.gen∧(∀f,0≤f→f<10→p.has w.slot w.gen f)∧(p.at w.slot 1).num=dH w:=by
 obtain ⟨h1,h2,h3⟩:=H.held i hi w hw
 obtain ⟨r1,r2⟩:=H.oi.out _ h1.1
 have hu:=(H.oi.used _ r1 r2).2 h1.1
 refine ⟨by omega,.inr ⟨hu,h2⟩,fun f f1 f2=>?_,?_⟩
 ·unfold PS.has
  rw [if_neg (by omega)]
  exact ⟨⟨r1,r2⟩,f1,f2⟩
 ·unfold PS.at
  rw [if_neg (by omega)]
  have:=H.val _ h1
  rw [h2] at this
  exact this
theorem Inv.uu (H:Inv n e p T own A) (a:Ac):(p.act a).1.OK:=H.ok.act a
theorem Th.Loc.goN (L:h.Loc e n p i) (h1:h'.l.ak=h.l.ak∧h'.l.me=h.l.me∧h'.l.threads=h.l.threads∧h'.l.most=h.l.most∧h'.l.h=h.l.h∧h'.l.s=h.l.s) (hk:¬h.dD) (hs:¬h.dX)
  (hon:e=4∨e=5→h'.busy→h.l.s.is=true) (hoff:h'.pc=0→h.l.h 0=Wd.zero∧h.l.s=Sp.zero) (hsh:h'.sh e p.aJ):h'.Loc e n p i:=by
 obtain ⟨h1,h2,h3,h4,h5,h6⟩:=h1
 refine ⟨?_,?_,?_,?_,?_,L.kz,?_,?_,?_,?_,L.b5,?_,?_,?_,?_,hsh⟩
 ·rw [h1];exact L.iR
 ·rw [h2];exact L.me
 ·rw [h3];exact L.oN
 ·rw [h4];exact L.most
 ·rw [h5];exact L.hz
 ·rw [h5];exact L.nk
 ·rw [h6];exact L.ns
 ·rw [h5];exact L.h3
 ·rw [h6];exact L.s5
 ·rw [h5];exact fun _=>L.kc hk
 ·rw [h6];exact fun _=>L.sc hs
 ·rw [h6];exact hon
 ·rw [h5,h6];exact hoff
structure Plain (h:Th):Prop where
 hand:h.hand=none
 cut:h.cut=none
 snap:h.snap=none
 full:h.full=none
 bX:∀C,h.bX C=none
 uJ:∀o b,h.t≠.dW o b
theorem cz {h:Th} (ht:h.t=.lu∨(∃c s,h.t=.dE c s)∨(∃c,h.t=.ji c)∨h.t=.gI∨(∃d r,h.t=.ib d r)∨(∃c,h.t=.lq c)∨h.t=.pJ∨(∃k,h.t=.jD k)∨(∃c,h.t=.gZ c)∨(∃c a,h.t=.gU c a)):Plain h:=by
 refine ⟨?_,?_,?_,?_,?_,?_⟩
 ·unfold Th.hand;rcases ht with ht | ⟨_,_,ht⟩ | ⟨_,ht⟩ | ht | ⟨_,_,ht⟩ | ⟨_,ht⟩ | ht | ⟨_,ht⟩ | ⟨_,ht⟩ | ⟨_,_,ht⟩ <;> rw [ht]
 ·unfold Th.cut;rcases ht with ht | ⟨_,_,ht⟩ | ⟨_,ht⟩ | ht | ⟨_,_,ht⟩ | ⟨_,ht⟩ | ht | ⟨_,ht⟩ | ⟨_,ht⟩ | ⟨_,_,ht⟩ <;> rw [ht]
 ·unfold Th.snap;rcases ht with ht | ⟨_,_,ht⟩ | ⟨_,ht⟩ | ht | ⟨_,_,ht⟩ | ⟨_,ht⟩ | ht | ⟨_,ht⟩ | ⟨_,ht⟩ | ⟨_,_,ht⟩ <;> rw [ht]
 ·unfold Th.full;rcases ht with ht | ⟨_,_,ht⟩ | ⟨_,ht⟩ | ht | ⟨_,_,ht⟩ | ⟨_,ht⟩ | ht | ⟨_,ht⟩ | ⟨_,ht⟩ | ⟨_,_,ht⟩ <;> rw [ht]
 ·intro C;unfold Th.bX;rcases ht with ht | ⟨_,_,ht⟩ | ⟨_,ht⟩ | ht | ⟨_,_,ht⟩ | ⟨_,ht⟩ | ht | ⟨_,ht⟩ | ⟨_,ht⟩ | ⟨_,_,ht⟩ <;> rw [ht]
 ·intro o b hb;rcases ht with ht | ⟨_,_,ht⟩ | ⟨_,ht⟩ | ht | ⟨_,_,ht⟩ | ⟨_,ht⟩ | ht | ⟨_,ht⟩ | ⟨_,ht⟩ | ⟨_,_,ht⟩ <;> rw [ht] at hb <;> cases hb
theorem mK {h:Th} {x:Rp} (ht:h.t=.idle x) (hpc:h.pc=0∨h.pc=1∨h.pc=7):Plain h:=by
 have h4:¬h.pc=4:=by omega
 have h5:¬h.pc=5:=by omega
 have h6:¬h.pc=6:=by omega
 have h2:¬h.pc=2:=by omega
 have Ko:¬(3≤h.pc∧h.pc≤5):=by omega
 refine ⟨?_,?_,?_,?_,?_,?_⟩
 ·unfold Th.hand;rw [ht];simp [h4,h5,h6]
 ·unfold Th.cut;rw [ht];simp [h6]
 ·unfold Th.snap;rw [ht];simp only;rw [if_neg h2,if_neg Ko]
 ·unfold Th.full;rw [ht];simp [h5]
 ·intro C;unfold Th.bX;rw [ht];simp [h2]
 ·intro o b hb;rw [ht] at hb;cases hb
theorem Ja {h0:Th} {l1:Lo} (hpc:h0.pc=7):∃t,h0.with (RT.dn l1)={h0 with l:=l1,t:=t}∧(t=.idle Rp.yes∨(l1.ak=4∧t=.lu)∨(l1.ak≠1∧l1.ak≠4∧t=.dE Wd.zero []))∧Plain {h0 with l:=l1,t:=t}∧Calm t:=by
 rcases Ai (l:=l1) with g | ⟨g1,g⟩ | ⟨g1,g2,g⟩
 ·exact ⟨.idle Rp.yes,by unfold Th.with;rw [g],.inl rfl,mK (h:={h0 with l:=l1,t:=.idle Rp.yes}) rfl (.inr (.inr hpc)),Calm.idle _⟩
 ·exact ⟨.lu,by unfold Th.with;rw [g],.inr (.inl ⟨g1,rfl⟩),cz (.inl rfl),dR (.inl (by simp only [RT.bO];omega))⟩
 ·exact ⟨.dE Wd.zero [],by unfold Th.with;rw [g],.inr (.inr ⟨g1,g2,rfl⟩),cz (.inr (.inl ⟨_,_,rfl⟩)),Calm.new _⟩
end
end Go.Proofs.YthomdlajobnmnaaDoor
set_option linter.unusedSimpArgs false
set_option linter.unusedVariables false
set_option linter.unusedSimpArgs false
set_option linter.unusedVariables false
namespace Go.Proofs.YthomdlajobnmnaaDoor
open Go.Rex
def kC (n:Nat) (e:Int) (p:PS) (T:Nat→Th) (i:Nat):Prop:=∃p' x own' A',p.act ((T i).t.acc (T i).l)=(p',some x)∧Inv n e p' (bT T i ((T i).bq x)) own' A'
section
variable {n:Nat} {e:Int} {p:PS} {T:Nat→Th} {own:Int→iV} {A:Nat→Int} {i:Nat} {h h':Th}
theorem jq {p':PS} {x:Rp} {own':Int→iV} {A':Nat→Int} {a:Ac} (ha:(T i).t.acc (T i).l=a) (h1:p.act a=(p',some x)) (h2:Inv n e p' (bT T i ((T i).bq x)) own' A'):kC n e p T i :=
 ⟨p',x,own',A',by rw [ha];exact h1,h2⟩
theorem Inv.gV (H:Inv n e p T own A):({p with steps:=p.steps+1}:PS).OK:=H.ok.Kh
theorem pO (H:Inv n e p T own A):p.act Ac.era=({p with steps:=p.steps+1},some ⟨eQ p.aJ,true⟩):=by
 have:=sZ (p:=p) (s:=0) (g:=0) (f:=24) (o:=Wd.zero) (w:=Wd.zero) (H.Es (by decide) (by decide)) Inv.zO
 rw [tq] at this
 rw [show p.bd (24:Int).toNat=eQ p.aJ from H.clock.1] at this
 exact this
theorem y9 (H:Inv n e p T own A):p.act (Ac.load 0 0 0)=({p with steps:=p.steps+1},some ⟨p.bd 0,true⟩):=by
 have:=sZ (p:=p) (s:=0) (g:=0) (f:=0) (o:=Wd.zero) (w:=Wd.zero) (H.Es (by decide) (by decide)) Inv.zO
 rw [tq] at this
 exact this
theorem Th.iD (h1:2≤h.pc):h.busy:=by
 unfold Th.busy
 cases h.t <;> simp only <;> omega
theorem Inv.TN (H:Inv n e p T own A) (hi:i<n) {a:Ac} (ht:(T i).t=.one a):kC n e p T i:=by
 have L:=H.loc i hi
 have hsh:=L.lC
 unfold Th.sh at hsh
 rw [ht] at hsh
 have hk:¬(T i).dD:=by unfold Th.dD;rw [ht];exact id
 have hs:¬(T i).dX:=by unfold Th.dX;rw [ht];exact id
 have oh:(T i).hand=if (T i).pc=5∨(T i).pc=6 then some (T i).node else none:=by unfold Th.hand;rw [ht]
 have oc:(T i).cut=none:=by unfold Th.cut;rw [ht]
 have os:(T i).snap=if 3≤(T i).pc∧(T i).pc≤6 then some (T i).old else none:=by unfold Th.snap;rw [ht]
 have of:(T i).full=if (T i).pc=6 then some (T i).node else none:=by unfold Th.full;rw [ht]
 have op:(T i).bX p.aJ=if (T i).pc=3∧(T i).old.slot≠0 then some (T i).old else none:=by unfold Th.bX;rw [ht]
 have on:e=4∨e=5→2≤(T i).pc→(T i).l.s.is=true:=fun h1 h2=>L.on h1 (Th.iD h2)
 have hsn:=H.snap i hi
 have hac:(T i).t.acc (T i).l=a:=by rw [ht];rfl
 have htk:∀x,(T i).bq x={T i with t:=.idle x}:=fun x=>by unfold Th.bq;rw [ht];rfl
 rcases hsh with ⟨q,ha⟩ | ⟨q,b,ha,hb⟩ | ⟨q,ha⟩ | ⟨q,ha⟩ | ⟨q,ha⟩
 ·have key:∀x:Rp,((T i).old.slot≠0→x.word.num=dH (T i).old)→Inv n e {p with steps:=p.steps+1} (bT T i ((T i).bq x)) own A:=by
   intro x hx
   rw [htk]
   refine H.calm hi H.gV ?_ ?_ rfl (L.go rfl hk hs (fun h _=>on h (by omega)) (fun h=>absurd (show (T i).pc=0 from h) (by omega)) ⟨⟨by show 0≤(T i).pc;omega,by show (T i).pc≤7;omega⟩,fun _=>hx⟩) (fun w hw=>hsn w ?_) (fun w hw=>?_) (fun o b h=>(by cases h)) (fun w hw=>?_) (Calm.idle _)
   ·rw [oh];simp [Th.hand,q]
   ·rw [oc];simp [Th.cut,q]
   ·rw [os,←hw];simp [Th.snap,q]
   ·simp [Th.full,q] at hw
   ·simp [Th.bX,q] at hw
  by_cases h0:(T i).old.slot=0
  ·rw [if_pos h0] at ha
   exact jq (own':=own) (A':=A) hac (by rw [ha];exact y9 H) (key _ fun h=>absurd h0 h)
  ·rw [if_neg h0] at ha
   obtain ⟨k1,k2,k3,k4⟩:=H.kept hi (w:=(T i).old) (by rw [op,if_pos ⟨q,h0⟩])
   exact jq (own':=own) (A':=A) hac (by rw [ha];exact sZ (k3 1 (by decide) (by decide)) k2) (key _ fun _=>k4)
 ·have hal:p.act a=((PS.alloc {p with steps:=p.steps+1} b).1,some (PS.alloc {p with steps:=p.steps+1} b).2):=by rw [ha];exact TM
  have hok:=H.uu a
  rw [hal] at hok
  unfold PS.alloc at hal hok
  by_cases h0:p.nf=0
  ·rw [if_pos (show ({p with steps:=p.steps+1}:PS).nf=0 from h0)] at hal
   refine jq (own':=own) (A':=A) hac hal ?_
   rw [htk]
   refine H.calm hi H.gV ?_ ?_ rfl (L.go rfl hk hs (fun h _=>on h (by omega)) (fun h=>absurd (show (T i).pc=0 from h) (by omega)) ⟨⟨by show 0≤(T i).pc;omega,by show (T i).pc≤7;omega⟩,fun h=>absurd (show (T i).pc=3 from h) (by omega)⟩) (fun w hw=>hsn w ?_) (fun w hw=>?_) (fun o b h=>(by cases h)) (fun w hw=>?_) (Calm.idle _)
   ·rw [oh];simp [Th.hand,q,Rp.no]
   ·rw [oc];simp [Th.cut,q]
   ·rw [os,←hw];simp [Th.snap,q]
   ·simp [Th.full,q] at hw
   ·simp [Th.bX,q] at hw
  ·rw [if_neg (show ¬({p with steps:=p.steps+1}:PS).nf=0 from h0)] at hal hok
   have hnf:=H.ok.nf
   obtain ⟨f1,f2,f3⟩:=H.ok.fr (p.nf-1).toNat (by omega)
   have:=H.alloc (h':=(T i).bq ⟨⟨p.fr (p.nf-1).toNat,p.gen (p.fr (p.nf-1).toNat-1).toNat+1,0,0,false⟩,true⟩) hi (k:=p.steps+1) (nf:=p.nf-1) (made:=p.made+1) (w0:=⟨p.fr (p.nf-1).toNat,p.gen (p.fr (p.nf-1).toNat-1).toNat+1,0,0,false⟩) (b:=b) hok ⟨f1,f2⟩ f3 hb
    (by rw [oh];simp [q]) (by rw [htk];simp [Th.hand,q]) (by rw [oc,htk];simp [Th.cut,q]) (by rw [htk])
    (by
      rw [htk]
      exact L.go rfl hk hs (fun h _=>on h (by omega)) (fun h=>absurd (show (T i).pc=0 from h) (by omega)) ⟨⟨by show 0≤(T i).pc;omega,by show (T i).pc≤7;omega⟩,fun h=>absurd (show (T i).pc=3 from h) (by omega)⟩)
    (by rw [htk,os];simp [Th.snap,q]) (by rw [htk];simp [Th.full,q]) (fun o b h=>by rw [htk] at h;cases h) (fun C=>by rw [htk];simp [Th.bX,q]) (by rw [htk];exact Calm.idle _)
   obtain ⟨own',hI⟩:=this
   exact ⟨_,_,own',A,by rw [hac];exact hal,hI⟩
 ·have hh:(T i).hand=some (T i).node:=by rw [oh];simp [q]
  obtain ⟨m1,m2,m3,m4,m5⟩:=H.I9 (o:=.hand i) (w:=(T i).node) hh
  have hal:p.act a=(p.Ms (p.steps+1) ((T i).node.slot-1).toNat 1 (Wd.eD (dH (T i).node)),some ⟨Wd.zero,true⟩):=by
   rw [ha,y7 (m5 1 (by decide) (by decide)) m4,Q7 (by omega)]
   rfl
  have hok:=H.uu a
  rw [hal] at hok
  have:=H.fill (h':=(T i).bq ⟨Wd.zero,true⟩) hi (k:=p.steps+1) hok hh (by rw [htk];simp [Th.hand,q]) (by rw [oc,htk];simp [Th.cut,q]) (by rw [htk])
    (by
      rw [htk]
      exact L.go rfl hk hs (fun h _=>on h (by omega)) (fun h=>absurd (show (T i).pc=0 from h) (by omega)) ⟨⟨by show 0≤(T i).pc;omega,by show (T i).pc≤7;omega⟩,fun h=>absurd (show (T i).pc=3 from h) (by omega)⟩)
    (by rw [htk,os];simp [Th.snap,q]) (by rw [htk];simp [Th.full,q]) (fun o b h=>by rw [htk] at h;cases h) (fun C=>by rw [htk];simp [Th.bX,q]) (by rw [htk];exact Calm.idle _)
  obtain ⟨own',hI⟩:=this
  exact ⟨_,_,own',A,by rw [hac];exact hal,hI⟩
 ·have hf:(T i).full=some (T i).node:=by rw [of];simp [q]
  obtain ⟨m1,m2,m3,m4,m5⟩:=H.I9 (o:=.hand i) (w:=(T i).node) (y5 hf)
  have hal:p.act a=if iy (p.bd 0) (T i).old then (p.cK (p.steps+1) 0 ⟨(T i).node.slot,(T i).node.gen,(T i).old.tag+1,0,false⟩,some ⟨p.bd 0,true⟩) else ({p with steps:=p.steps+1},some ⟨p.bd 0,false⟩):=by
   rw [ha,I7 (H.Es (by decide) (by decide)) Inv.zO,tq,y8]
   rfl
  by_cases hsm:iy (p.bd 0) (T i).old
  ·rw [if_pos hsm] at hal
   have hold:(T i).old=p.bd 0:=(hsn (T i).old (by rw [os,if_pos (by omega)])).2 hsm.2.1.symm
   have hok:=H.uu a
   rw [hal] at hok
   have:=H.swap (h':=(T i).bq ⟨p.bd 0,true⟩) hi (k:=p.steps+1) (nd:=(T i).node) hok ⟨rfl,rfl,rfl,rfl,by show (p.bd 0).tag<(T i).old.tag+1;rw [hold];omega⟩ hf oc (by rw [htk];simp [Th.hand,q]) (by
         rw [htk]
         simp only [Th.cut]
         unfold PS.rt
         rw [hold]
         by_cases hz:(p.bd 0).slot=0
         · rw [if_pos hz,if_neg (fun h=>h.2.2 hz)]
         · rw [if_neg hz,if_pos ⟨q,trivial,hz⟩]) (by rw [htk])
    (by
      rw [htk]
      exact L.go rfl hk hs (fun h _=>on h (by omega)) (fun h=>absurd (show (T i).pc=0 from h) (by omega)) ⟨⟨by show 0≤(T i).pc;omega,by show (T i).pc≤7;omega⟩,fun h=>absurd (show (T i).pc=3 from h) (by omega)⟩)
    (by rw [htk];simp [Th.snap,q]) (by rw [htk];simp [Th.full,q]) (fun o b h=>by rw [htk] at h;cases h) (fun C=>by rw [htk];simp [Th.bX,q]) (by rw [htk];exact Calm.idle _)
   obtain ⟨own',hI⟩:=this
   exact ⟨_,_,own',A,by rw [hac];exact hal,hI⟩
  ·rw [if_neg hsm] at hal
   refine jq (own':=own) (A':=A) hac hal ?_
   rw [htk]
   refine H.calm hi H.gV ?_ ?_ rfl (L.go rfl hk hs (fun h _=>on h (by omega)) (fun h=>absurd (show (T i).pc=0 from h) (by omega)) ⟨⟨by show 0≤(T i).pc;omega,by show (T i).pc≤7;omega⟩,fun h=>absurd (show (T i).pc=3 from h) (by omega)⟩) (fun w hw=>?_) (fun w hw=>?_) (fun o b h=>(by cases h)) (fun w hw=>?_) (Calm.idle _)
   ·rw [oh];simp [Th.hand,q]
   ·rw [oc];simp [Th.cut,q]
   ·simp [Th.snap,q] at hw
   ·simp [Th.full,q] at hw
   ·simp [Th.bX,q] at hw
 ·refine jq (own':=own) (A':=A) hac (by rw [ha];exact y9 H) ?_
  rw [htk]
  refine H.calm hi H.gV ?_ ?_ rfl (L.go rfl hk hs (fun h _=>on h (by omega)) (fun h=>absurd (show (T i).pc=0 from h) (by omega)) ⟨⟨by show 0≤(T i).pc;omega,by show (T i).pc≤7;omega⟩,fun h=>absurd (show (T i).pc=3 from h) (by omega)⟩) (fun w hw=>?_) (fun w hw=>?_) (fun o b h=>(by cases h)) (fun w hw=>?_) (Calm.idle _)
  ·rw [oh];simp [Th.hand,q]
  ·rw [oc];simp [Th.cut,q]
  ·simp [Th.snap,q] at hw
  ·simp [Th.full,q] at hw
  ·simp [Th.bX,q] at hw
end
end Go.Proofs.YthomdlajobnmnaaDoor
set_option linter.unusedSimpArgs false
set_option linter.unusedVariables false
set_option linter.unusedSimpArgs false
set_option linter.unusedVariables false
namespace Go.Proofs.YthomdlajobnmnaaDoor
open Go.Rex
section
variable {n:Nat} {e:Int} {p:PS} {T:Nat→Th} {own:Int→iV} {A:Nat→Int} {i:Nat} {h h':Th}
theorem Th.fT {l:Lo} {t t':RT} {x:Rp} (ht:h.t=t) (hr:RT.bq h.l t x=(l,t')):h.bq x={h with l:=l,t:=t'}:=by
 unfold Th.bq Th.with
 rw [ht,hr]
theorem Inv.Dq (H:Inv n e p T own A) (hi:i<n) {k:Int} (hok:({p with steps:=k}:PS).OK) (P:Plain (T i)) (P':Plain h') (h3:h'.l.notes=(T i).l.notes) (hl:h'.Loc e n p i) (hc:Calm h'.t):Inv n e {p with steps:=k} (bT T i h') own A :=
 H.calm hi hok (by rw [P'.hand,P.hand]) (by rw [P'.cut,P.cut]) h3 hl (fun w hw=>by rw [P'.snap] at hw;cases hw) (fun w hw=>by rw [P'.full] at hw;cases hw) (fun o b h=>absurd h (P'.uJ o b)) (fun w hw=>by rw [P'.bX] at hw;cases hw) hc
theorem zP {k:Int} {b:Nat} {w:Wd}:(p.cK k b w).bd b=w:=by simp [PS.cK]
theorem zQ {k:Int} {b c:Nat} {w:Wd} (h:c≠b):(p.cK k b w).bd c=p.bd c:=by simp [PS.cK,h]
theorem Aj (H:Inv n e p T own A) {f:Int} {w:Wd} (h1:0≤f) (h2:f<85):p.act (Ac.store 0 0 f w)=(p.cK (p.steps+1) f.toNat w,some ⟨Wd.zero,true⟩):=by
 have:=y7 (p:=p) (s:=0) (g:=0) (f:=f) (o:=Wd.zero) (w:=w) (H.Es h1 h2) Inv.zO
 rw [y8] at this
 exact this
theorem Jb {k:Int} {b:Nat} {w:Wd} (h:b≠24):(p.cK k b w).aJ=p.aJ:=by unfold PS.aJ;rw [zQ (Ne.symm h)]
theorem Kw (L:h.Loc e n p i):RS.ll h.l.s=Wd.zero∨∃a b,RS.ll h.l.s=⟨0,0,b,a,true⟩∧a≤b∧b≤p.aJ:=by
 rcases L.s5 with h1 | ⟨a,b,h1,h2,h3⟩
 ·rw [h1];exact .inl rfl
 ·rw [h1];exact .inr ⟨a,b,rfl,h2,h3⟩
theorem Inv.Jc (H:Inv n e p T own A) (hi:i<n) {a:Ac} (P:Plain (T i)) (hac:(T i).t.acc (T i).l=a) (ha:a=RT.ik (T i).l (T i).l.s) (he:e=4∨e=5) (hk:¬(T i).dD∨True) {t':RT}
  (htk:(T i).bq ⟨Wd.zero,true⟩={T i with t:=t'}) (hP:Plain {T i with t:=t'}) (hc:Calm t') (hsh:({T i with t:=t'}:Th).sh e p.aJ) (hbz:({T i with t:=t'}:Th).busy→(T i).l.s.is=true) (hpk:¬({T i with t:=t'}:Th).dD) (hps:¬({T i with t:=t'}:Th).dX):kC n e p T i:=by
 have L:=H.loc i hi
 have h6:=H.n6
 have hal:p.act a=(p.cK (p.steps+1) (79+i) (RS.ll (T i).l.s),some ⟨Wd.zero,true⟩):=by
  rw [ha]
  unfold RT.ik
  rw [L.me,Aj H (by omega) (by omega),show (79+(i:Int)).toNat=79+i by omega]
 have hok:=H.uu a
 rw [hal] at hok
 have q24:(p.cK (p.steps+1) (79+i) (RS.ll (T i).l.s)).aJ=p.aJ:=Jb (by omega)
 have qk:∀m,m<9→(p.cK (p.steps+1) (79+i) (RS.ll (T i).l.s)).bd (25+9 * i+m)=p.bd (25+9 * i+m):=fun m hm=>zQ (by omega)
 have VM:=qk 0 (by omega)
 rw [Nat.add_zero] at VM
 have hnk:=L.nk (by omega) (by omega)
 refine ⟨_,_,own,bT A i p.aJ,by rw [hac];exact hal,?_⟩
 rw [htk]
 refine H.Xj hi hok (.inr rfl) (hP.hand.trans P.hand.symm) (hP.cut.trans P.cut.symm) rfl ?_ hP.snap hP.full hP.uJ hP.bX hc ?_
 ·refine ⟨L.iR,L.me,L.oN,L.most,L.hz,fun k h1 h2=>by rw [qk k h2];exact L.kz k h1 h2,fun h1 h2=>by rw [VM];exact hnk,fun h1 h2=>absurd he (by omega),fun h3=>by omega,?_,?_,fun _=>by rw [VM,hnk.2];exact hnk.1.symm,fun _=>zP,fun _=>hbz,L.off,by rw [q24];exact hsh⟩
  ·rw [q24];exact L.s5
  ·rw [q24,zP];exact Kw L
 ·intro _
  rcases Kw L with h1 | ⟨a,b,h1,h2,h3⟩
  ·rw [h1]
   have:=H.clock.2
   show (0:Int)≤_
   omega
  ·rw [h1]
   show a≤_
   omega
theorem Inv.Jd (H:Inv n e p T own A) (hi:i<n) {a:Ac} (P:Plain (T i)) (hac:(T i).t.acc (T i).l=a) (ha:a=Ac.store 0 0 (25+(T i).l.me * 9+0) ((T i).l.h 0)) (he:e=2∨e=3) {t':RT}
  (htk:(T i).bq ⟨Wd.zero,true⟩={T i with t:=t'}) (hP:Plain {T i with t:=t'}) (hc:Calm t') (hsh:({T i with t:=t'}:Th).sh e p.aJ):kC n e p T i:=by
 have L:=H.loc i hi
 have h6:=H.n6
 have hal:p.act a=(p.cK (p.steps+1) (25+9 * i) ((T i).l.h 0),some ⟨Wd.zero,true⟩):=by
  rw [ha,L.me,Aj H (by omega) (by omega),show (25+(i:Int) * 9+0).toNat=25+9 * i by omega]
 have hok:=H.uu a
 rw [hal] at hok
 have q24:(p.cK (p.steps+1) (25+9 * i) ((T i).l.h 0)).aJ=p.aJ:=Jb (by omega)
 have qs:(p.cK (p.steps+1) (25+9 * i) ((T i).l.h 0)).bd (79+i)=p.bd (79+i):=zQ (by omega)
 have hns:=L.ns (by omega) (by omega)
 refine ⟨_,_,own,bT A i p.aJ,by rw [hac];exact hal,?_⟩
 rw [htk]
 refine H.Xj hi hok (.inl rfl) (hP.hand.trans P.hand.symm) (hP.cut.trans P.cut.symm) rfl ?_ hP.snap hP.full hP.uJ hP.bX hc (fun h4=>by omega)
 refine ⟨L.iR,L.me,L.oN,L.most,L.hz,fun k h1 h2=>?_,fun h1 h2=>absurd he (by omega),fun h1 h2=>by rw [qs];exact hns,fun h3=>?_,?_,?_,fun _=>zP,fun _=>?_,fun h=>absurd he (by omega),L.off,by rw [q24];exact hsh⟩
 ·rw [zQ (by omega)];exact L.kz k h1 h2
 ·rw [q24,zP];exact ⟨(L.h3 h3).1,(L.h3 h3).1⟩
 ·rw [q24];exact L.s5
 ·rw [qs];exact .inl hns.2
 ·rw [qs,hns.2]
  show Wd.zero=RS.ll (T i).l.s
  rw [hns.1]
  rfl
theorem Inv.TP (H:Inv n e p T own A) (hi:i<n) {a:Ac} (ht:(T i).t=.fin a):kC n e p T i:=by
 have L:=H.loc i hi
 have hsh:=L.lC
 unfold Th.sh at hsh
 rw [ht] at hsh
 have htk:∀x,(T i).bq x={T i with t:=.idle Rp.yes}:=fun x=>Th.fT ht rfl
 have hac:(T i).t.acc (T i).l=a:=by rw [ht];rfl
 rcases hsh with ⟨h1,h2,h3⟩ | ⟨q,ha⟩
 ·have hpc:(T i).pc=0∨(T i).pc=1:=by rcases h1 with h | h <;> omega
  have hP:Plain {T i with t:=.idle Rp.yes}:=mK (h:={T i with t:=.idle Rp.yes}) rfl (by show (T i).pc=0∨(T i).pc=1∨_;omega)
  have P:Plain (T i):=by
   have h5:¬(T i).pc=7:=by omega
   refine ⟨?_,?_,?_,?_,?_,?_⟩
   ·unfold Th.hand;rw [ht];simp [h5]
   ·unfold Th.cut;rw [ht]
   ·unfold Th.snap;rw [ht]
   ·unfold Th.full;rw [ht]
   ·intro C;unfold Th.bX;rw [ht]
   ·intro o b hb;rw [ht] at hb;cases hb
  refine H.Jc hi P hac h3 h2 (.inr trivial) (htk _) hP (Calm.idle _) ⟨⟨by show 0≤(T i).pc;omega,by show (T i).pc≤7;omega⟩,fun h=>absurd (show (T i).pc=3 from h) (by omega)⟩ (fun hb=>?_) id id
  rcases h1 with h | h
  ·have:1≤(T i).pc:=hb
   omega
  ·exact h.2
 ·have hh:(T i).hand=some (T i).node:=by unfold Th.hand;rw [ht];simp [q]
  obtain ⟨m1,m2,m3,m4,m5⟩:=H.I9 (o:=.hand i) (w:=(T i).node) hh
  have hal:p.act a=(p.I6 (p.steps+1) (p.nf+1) (fun i=>if i=p.nf.toNat then (T i).node.slot else p.fr i) (T i).node.slot,some ⟨Wd.zero,true⟩)∨True:=.inr trivial
  have hal:p.act a=(PS.free {p with steps:=p.steps+1} (T i).node.slot,some ⟨Wd.zero,true⟩):=by rw [ha];exact I8 m3 m4
  have hok:=H.uu a
  rw [hal] at hok
  have hP:Plain {T i with t:=.idle Rp.yes}:=mK (h:={T i with t:=.idle Rp.yes}) rfl (.inr (.inr q))
  have hk:¬(T i).dD:=by unfold Th.dD;rw [ht];exact id
  have hs:¬(T i).dX:=by unfold Th.dX;rw [ht];show ¬(T i).pc≤1;omega
  have:=H.drop (h':=(T i).bq ⟨Wd.zero,true⟩) hi (k:=p.steps+1) (nf:=p.nf+1) (fr:=fun j=>if j=p.nf.toNat then (T i).node.slot else p.fr j) hok hh (by rw [htk];exact hP.hand) (by rw [htk];rw [hP.cut];unfold Th.cut;rw [ht]) (by rw [htk])
    (by
      rw [htk]
      exact L.go rfl hk hs (fun h _=>L.on h (Th.iD (by omega))) (fun h=>absurd (show (T i).pc=0 from h) (by omega)) ⟨⟨by show 0≤(T i).pc;omega,by show (T i).pc≤7;omega⟩,fun h=>absurd (show (T i).pc=3 from h) (by omega)⟩)
    (by rw [htk];exact hP.snap) (by rw [htk];exact hP.full) (by rw [htk];exact hP.uJ) (by rw [htk];exact hP.bX) (by rw [htk];exact Calm.idle _)
  obtain ⟨own',hI⟩:=this
  exact ⟨_,_,own',A,by rw [hac];exact hal,hI⟩
theorem Inv.Q8 (H:Inv n e p T own A) (hi:i<n) (ht:(T i).t=.pJ):kC n e p T i:=by
 have L:=H.loc i hi
 have hsh:=L.lC
 unfold Th.sh at hsh
 rw [ht] at hsh
 obtain ⟨q,he⟩:=hsh
 have hC:=H.clock.2
 have htk:(T i).bq ⟨eQ p.aJ,true⟩={T i with l:={(T i).l with s:=⟨true,p.aJ,p.aJ⟩},t:=.fin (RT.ik (T i).l ⟨true,p.aJ,p.aJ⟩)}:=Th.fT ht rfl
 refine jq (own':=own) (A':=A) (by rw [ht];rfl) (pO H) ?_
 rw [htk]
 have P:Plain (T i):=cz (.inr (.inr (.inr (.inr (.inr (.inr (.inl ht)))))))
 have q7:¬(T i).pc=7:=by omega
 refine H.Dq hi H.gV P ⟨?_,rfl,rfl,rfl,fun _=>rfl,fun _ _ h=>by cases h⟩ rfl ?_ (dR (.inl (by simp only [RT.bO];omega)))
 ·simp [Th.hand,q7]
 ·refine ⟨L.iR,L.me,L.oN,L.most,L.hz,L.kz,L.nk,fun h1 h2=>absurd he (by omega),L.h3,.inr ⟨p.aJ,p.aJ,rfl,Int.le_refl _,Int.le_refl _⟩,L.b5,fun _=>L.kc (by unfold Th.dD;rw [ht];exact id),fun h=>absurd (show (T i).pc≤1 by omega) h,fun _ _=>rfl,fun h=>absurd (show (T i).pc=0 from h) (by omega),.inl ⟨.inr ⟨q,rfl⟩,he,rfl⟩⟩
theorem Inv.OW (H:Inv n e p T own A) (hi:i<n) {k:Int} (ht:(T i).t=.jD k):kC n e p T i:=by
 have L:=H.loc i hi
 have hsh:=L.lC
 unfold Th.sh at hsh
 rw [ht] at hsh
 obtain ⟨q,rfl,he⟩:=hsh
 have hoff:=L.off q
 have hns:=L.ns (by omega) (by omega)
 have hlv:RT.leave (T i).l (0+1)=((T i).l,.idle Rp.yes):=by
  unfold RT.leave
  rw [if_neg (fun h=>h.2 hoff.2),if_pos (L.bf.2 he)]
  rw [show RS.first (T i).l.h (0+1:Int).toNat (9-(0+1:Int).toNat)=none from xh fun j hj=>by
    by_cases h0:j=0
    · rw [h0];exact hoff.1
    · exact L.hz j h0]
 have htk:(T i).bq ⟨Wd.zero,true⟩={T i with t:=.idle Rp.yes}:=by
  have:(T i).bq ⟨Wd.zero,true⟩={T i with l:=(T i).l,t:=.idle Rp.yes}:=Th.fT ht hlv
  exact this
 refine H.Jd hi (cz (.inr (.inr (.inr (.inr (.inr (.inr (.inr (.inl ⟨_,ht⟩))))))))) (a:=Ac.store 0 0 (25+(T i).l.me * 9+0) ((T i).l.h 0)) (by rw [ht,hoff.1];rfl) rfl he htk (mK (h:={T i with t:=.idle Rp.yes}) rfl (.inl q)) (Calm.idle _) ⟨⟨by show 0≤(T i).pc;omega,by show (T i).pc≤7;omega⟩,fun h=>absurd (show (T i).pc=3 from h) (by omega)⟩
theorem Inv.Q9 (H:Inv n e p T own A) (hi:i<n) {c:Ca} {a:Ac} (ht:(T i).t=.gU c a):kC n e p T i:=by
 have L:=H.loc i hi
 have hsh:=L.lC
 unfold Th.sh at hsh
 rw [ht] at hsh
 obtain ⟨q,rfl,he⟩:=hsh
 have htk:(T i).bq ⟨Wd.zero,true⟩={T i with t:=.gZ (Ca.of 6)}:=by
  have:(T i).bq ⟨Wd.zero,true⟩={T i with l:=(T i).l,t:=.gZ (Ca.of 6)}:=Th.fT ht rfl
  exact this
 have P:Plain (T i):=cz (.inr (.inr (.inr (.inr (.inr (.inr (.inr (.inr (.inr ⟨_,_,ht⟩)))))))))
 have P':Plain {T i with t:=.gZ (Ca.of 6)}:=cz (.inr (.inr (.inr (.inr (.inr (.inr (.inr (.inr (.inl ⟨_,rfl⟩)))))))))
 have hc:Calm (.gZ (Ca.of 6)):=dR (.inl (by simp only [RT.bO];omega))
 have hac:(T i).t.acc (T i).l=a:=by rw [ht];rfl
 rcases he with ⟨he,ha⟩ | ⟨he,ha⟩
 ·exact H.Jd hi P hac ha he htk P' hc ⟨q,rfl⟩
 ·exact H.Jc hi P hac ha (.inr he) (.inr trivial) htk P' hc ⟨q,rfl⟩ (fun _=>L.on (.inr he) (Th.iD (by omega))) id id
theorem Inv.Ra (H:Inv n e p T own A) (hi:i<n) (ht:(T i).t=.oJ):kC n e p T i:=by
 have L:=H.loc i hi
 have hsh:=L.lC
 unfold Th.sh at hsh
 rw [ht] at hsh
 obtain ⟨q,he⟩:=hsh
 have htk:(T i).bq ⟨eQ p.aJ,true⟩={T i with t:=.one ⟨4,0,0,0,Wd.zero,Wd.eD p.aJ⟩}:=by
  have:(T i).bq ⟨eQ p.aJ,true⟩={T i with l:=(T i).l,t:=.one ⟨4,0,0,0,Wd.zero,Wd.eD p.aJ⟩}:=Th.fT ht rfl
  exact this
 refine jq (own':=own) (A':=A) (by rw [ht];rfl) (pO H) ?_
 rw [htk]
 refine H.calm hi H.gV ?_ ?_ rfl (L.go rfl (by unfold Th.dD;rw [ht];exact id) (by unfold Th.dX;rw [ht];exact id) (fun h _=>L.on h (Th.iD (by omega))) (fun h=>absurd (show (T i).pc=0 from h) (by omega)) (.inr (.inl ⟨q,p.aJ,rfl,Int.le_refl _⟩)))
  (fun w hw=>H.snap i hi w ?_) (fun w hw=>?_) (fun o b h=>(by cases h)) (fun w hw=>?_) (dR (.inl (by simp only [RT.bO];omega)))
 ·unfold Th.hand;rw [ht];simp [q]
 ·unfold Th.cut;rw [ht]
 ·unfold Th.snap;rw [ht,←hw];simp [Th.snap,q]
 ·simp [Th.full,q] at hw
 ·simp [Th.bX,q] at hw
theorem Inv.Mt (H:Inv n e p T own A) (hi:i<n) {o:Wd} (ht:(T i).t=.jB o):kC n e p T i:=by
 have L:=H.loc i hi
 have hsh:=L.lC
 unfold Th.sh at hsh
 rw [ht] at hsh
 obtain ⟨q,he⟩:=hsh
 have hct:(T i).cut=some o:=by unfold Th.cut;rw [ht]
 obtain ⟨m1,m2,m3,m4,m5⟩:=H.I9 (o:=.cut i) (w:=o) hct
 have hal:p.act (Ac.load o.slot o.gen 9)=({p with steps:=p.steps+1},some ⟨p.at o.slot 9,true⟩):=sZ (m5 9 (by decide) (by decide)) m4
 have hat:(p.at o.slot 9).num=p.aU o.slot:=by unfold PS.at PS.aU;rw [if_neg (by omega)];rfl
 have htk:(T i).bq ⟨p.at o.slot 9,true⟩={T i with t:=.dW o (p.aU o.slot)}:=by
  have:(T i).bq ⟨p.at o.slot 9,true⟩={T i with l:=(T i).l,t:=.dW o (p.aU o.slot)}:=Th.fT ht (by rw [←hat];rfl)
  exact this
 refine jq (own':=own) (A':=A) (by rw [ht];rfl) hal ?_
 rw [htk]
 refine H.calm hi H.gV ?_ ?_ rfl (L.go rfl (by unfold Th.dD;rw [ht];exact id) (by unfold Th.dX;rw [ht];exact id) (fun h _=>L.on h (Th.iD (by omega))) (fun h=>absurd (show (T i).pc=0 from h) (by omega)) ⟨q,by omega⟩)
  (fun w hw=>?_) (fun w hw=>?_) (fun o' b h _=>?_) (fun w hw=>?_) (dR (.inl (by simp only [RT.bO];omega)))
 ·unfold Th.hand;rw [ht]
 ·rw [hct];rfl
 ·cases hw
 ·cases hw
 ·cases h;rfl
 ·cases hw
theorem Inv.Rb (H:Inv n e p T own A) (hi:i<n) {o:Wd} {b:Int} (ht:(T i).t=.dW o b):kC n e p T i:=by
 have L:=H.loc i hi
 have hsh:=L.lC
 unfold Th.sh at hsh
 rw [ht] at hsh
 obtain ⟨q,he⟩:=hsh
 have hct:(T i).cut=some o:=by unfold Th.cut;rw [ht]
 have hhd:(T i).hand=none:=by unfold Th.hand;rw [ht]
 have hk:¬(T i).dD:=by unfold Th.dD;rw [ht];exact id
 have hs:¬(T i).dX:=by unfold Th.dX;rw [ht];exact id
 have hrb:=H.rb i hi o b ht
 have hkey:∃t,(T i).bq ⟨eQ p.aJ,true⟩={T i with l:=RT.note (T i).l o b p.aJ,t:=t}∧Plain {T i with l:=RT.note (T i).l o b p.aJ,t:=t}∧Calm t∧({T i with l:=RT.note (T i).l o b p.aJ,t:=t}:Th).sh e p.aJ:=by
  by_cases hd:(T i).l.bA
  ·refine ⟨.lq (eQ p.aJ),Th.fT ht ?_,cz (.inr (.inr (.inr (.inr (.inr (.inl ⟨_,rfl⟩)))))),dR (.inl (by simp only [RT.bO];omega)),⟨q,L.bA.1 hd,p.aJ,Int.le_refl _,rfl⟩⟩
   show (if (T i).l.bA then _ else _:LR)=_
   rw [if_pos hd]
   rfl
  ·obtain ⟨t,n1,n2,n3,n4⟩:=Ja (h0:=T i) (l1:=RT.note (T i).l o b p.aJ) q
   refine ⟨t,?_,n3,n4,?_⟩
   ·rw [←n1]
    unfold Th.bq
    rw [ht]
    show (T i).with (if (T i).l.bA then _ else _:LR)=_
    rw [if_neg hd]
    rfl
   ·have pM:(RT.note (T i).l o b p.aJ).ak=e:=L.iR
    unfold Th.sh
    rcases n2 with n2 | ⟨n2,n5⟩ | ⟨n2,n5,n6⟩
    ·rw [n2];exact ⟨⟨by show 0≤(T i).pc;omega,by show (T i).pc≤7;omega⟩,fun h=>absurd (show (T i).pc=3 from h) (by omega)⟩
    ·rw [n5];exact ⟨.inr q,pM.symm.trans n2⟩
    ·rw [n6];exact ⟨.inr q,fun h=>n2 (pM.trans h),L.zN H.n6,fun h=>absurd (pM.trans h) n5⟩
 obtain ⟨t,htk,hP,hc,hst⟩:=hkey
 have hn:=H.note hi (k:=p.steps+1) (h':=(T i).bq ⟨eQ p.aJ,true⟩) H.gV hct (m:=⟨o.eF,b,p.aJ⟩) ⟨rfl,rfl⟩ (by rw [htk,hP.hand,hhd]) (by rw [htk,hP.cut]) (by rw [htk];rfl)
  (by rw [htk];exact L.goN ⟨rfl,rfl,rfl,rfl,rfl,rfl⟩ hk hs (fun h _=>L.on h (Th.iD (by omega))) (fun h=>absurd (show (T i).pc=0 from h) (by omega)) hst) (by rw [htk];exact hP.snap) (by rw [htk];exact hP.full) (by rw [htk];exact hP.uJ) (by rw [htk];exact hP.bX) (by rw [htk];exact hc)
  (fun h=>by rw [hrb (by omega)];rfl) (fun _=>rfl)
 obtain ⟨own',hI⟩:=hn
 exact ⟨_,_,own',A,by rw [ht];exact pO H,hI⟩
theorem OX {c d:Int}:iy (eQ c) (eQ d)↔c=d:=by
 unfold iy eQ
 simp only [true_and,and_true]
 constructor
 ·exact fun h=>h.2
 ·rintro rfl;exact ⟨rfl,rfl⟩
theorem TQ (H:Inv n e p T own A) {c:Int}:p.act (Ac.dS (eQ c))=if p.aJ=c then (p.cK (p.steps+1) 24 (eQ (p.aJ+1)),some ⟨eQ p.aJ,true⟩) else ({p with steps:=p.steps+1},some ⟨eQ p.aJ,false⟩):=by
 have:=I7 (p:=p) (s:=0) (g:=0) (f:=24) (o:=eQ c) (w:=⟨0,0,(eQ c).tag+1,(eQ c).num+1,false⟩) (H.Es (by decide) (by decide)) Inv.zO
 rw [tq,y8,show p.bd (24:Int).toNat=eQ p.aJ from H.clock.1] at this
 refine Eq.trans this ?_
 by_cases h:p.aJ=c
 ·rw [if_pos (OX.2 h),if_pos h,←h]
  have:(⟨0,0,(eQ p.aJ).tag+1,(eQ p.aJ).num+1,false⟩:Wd)=eQ (p.aJ+1):=by
   show (⟨0,0,p.aJ-1+1,p.aJ+1,false⟩:Wd)=⟨0,0,p.aJ+1-1,p.aJ+1,false⟩
   rw [show p.aJ-1+1=p.aJ+1-1 by omega]
  rw [this]
  rfl
 ·rw [if_neg (fun x=>h (OX.1 x)),if_neg h]
theorem Inv.Ky (H:Inv n e p T own A) (hi:i<n) {c:Int} (hac:(T i).t.acc (T i).l=Ac.dS (eQ c)) (P:Plain (T i)) {t:RT} (htk:∀x,(T i).bq x={T i with t:=t}) (hP:Plain {T i with t:=t}) (hc:Calm t) (hl:({T i with t:=t}:Th).Loc e n p i) (h4:e=4→(T i).t=.ji (eQ c)):kC n e p T i:=by
 have hal:=TQ H (c:=c)
 have hok:=H.uu (Ac.dS (eQ c))
 by_cases hcc:p.aJ=c
 ·rw [if_pos hcc] at hal
  rw [hal] at hok
  refine ⟨_,_,own,A,by rw [hac];exact hal,?_⟩
  rw [htk]
  exact H.tick hi hok (hP.hand.trans P.hand.symm) (hP.cut.trans P.cut.symm) rfl hl hP.snap hP.full hP.uJ hP.bX hc (fun e4=>by rw [h4 e4,hcc])
 ·rw [if_neg hcc] at hal
  refine ⟨_,_,own,A,by rw [hac];exact hal,?_⟩
  rw [htk]
  exact H.Dq hi H.gV P hP rfl hl hc
end
end Go.Proofs.YthomdlajobnmnaaDoor
set_option linter.unusedSimpArgs false
set_option linter.unusedVariables false
set_option linter.unusedSimpArgs false
set_option linter.unusedVariables false
namespace Go.Proofs.YthomdlajobnmnaaDoor
open Go.Rex
section
variable {n:Nat} {e:Int} {p:PS} {T:Nat→Th} {own:Int→iV} {A:Nat→Int} {i:Nat} {h h':Th}
theorem Inv.Je (H:Inv n e p T own A) (hr:(p.bd 0).slot≠0) (hc:OT e (gK e p i) (p.bd 0).slot (p.aU (p.bd 0).slot)):(own (p.bd 0).slot).qF∧p.gen ((p.bd 0).slot-1).toNat=(p.bd 0).gen∧pK e p T A i (p.bd 0).slot:=by
 have hrt:p.rt=some (p.bd 0):=if_neg hr
 obtain ⟨r1,r2,r3,r4,r5⟩:=H.oi.jY (o:=.root) (w:=p.bd 0) hrt
 refine ⟨by rw [r5];exact ⟨by simp,by simp⟩,r4,hc,fun j m hm hs=>?_⟩
 have:=H.oi.one (o:=.note j) (w:=m.ref) ⟨m,hm,rfl⟩ (o':=.root) (w':=p.bd 0) hrt hs
 cases this
theorem Inv.OY (H:Inv n e p T own A) (hr:(p.bd 0).slot≠0):p.aU (p.bd 0).slot≤p.aJ:=by
 have hrt:p.rt=some (p.bd 0):=if_neg hr
 obtain ⟨r1,r2,r3,r4,r5⟩:=H.oi.jY (o:=.root) (w:=p.bd 0) hrt
 exact H.aU _ (by rw [r5];simp)
theorem Inv.covered (H:Inv n e p T own A) (hi:i<n) (hk:¬(T i).dD) (hs:¬(T i).dX) (he:e=3∨e=5) (hr:(p.bd 0).slot≠0) (hc:RT.cZ (T i).l 0 p.aJ):OT e (gK e p i) (p.bd 0).slot (p.aU (p.bd 0).slot):=by
 have L:=H.loc i hi
 have hb:=H.OY hr
 have hC:=H.clock.2
 unfold RT.cZ at hc
 refine ⟨fun h=>by omega,fun h3=>?_,fun h=>by omega,fun h5=>?_⟩
 ·rw [if_pos (by rw [L.iR];exact h3)] at hc
  have h1:((T i).l.h 0).num=p.aJ:=hc.2
  unfold gK
  rw [if_pos (.inr h3),L.kc hk]
  omega
 ·rw [if_neg (by rw [L.iR];omega)] at hc
  unfold gK
  rw [if_neg (by omega),L.sc hs]
  unfold RS.ll
  rw [if_pos hc.1]
  refine ⟨rfl,?_⟩
  show _≤(T i).l.s.high
  rw [hc.2]
  exact hb
theorem Inv.OZ (H:Inv n e p T own A) (hi:i<n) {c:Ca} (ht:(T i).t=.gZ c):kC n e p T i:=by
 have L:=H.loc i hi
 have hsh:=L.lC
 unfold Th.sh at hsh
 rw [ht] at hsh
 obtain ⟨q,rfl⟩:=hsh
 have hk:¬(T i).dD:=by unfold Th.dD;rw [ht];exact id
 have hs:¬(T i).dX:=by unfold Th.dX;rw [ht];exact id
 have on:e=4∨e=5→(T i).l.s.is=true:=fun h=>L.on h (Th.iD (by omega))
 have P:Plain (T i):=cz (.inr (.inr (.inr (.inr (.inr (.inr (.inr (.inr (.inl ⟨_,ht⟩)))))))))
 refine jq (own':=own) (A':=A) (by rw [ht];rfl) (y9 H) ?_
 by_cases hd:(T i).l.bA
 ·have he:=L.bA.1 hd
  have htk:(T i).bq ⟨p.bd 0,true⟩={T i with t:=.jA (Ca.of 6) (p.bd 0)}:=by
   have:(T i).bq ⟨p.bd 0,true⟩={T i with l:=(T i).l,t:=.jA (Ca.of 6) (p.bd 0)}:=Th.fT ht (if_pos hd)
   exact this
  rw [htk]
  refine H.calm hi H.gV (by rw [P.hand];rfl) (by rw [P.cut];rfl) rfl (L.go rfl hk hs (fun h _=>on h) (fun h=>absurd (show (T i).pc=0 from h) (by omega)) ⟨q,rfl,he⟩) (fun w hw=>?_) (fun w hw=>(by cases hw)) (fun o b h=>(by cases h)) (fun w hw=>?_) (dR (.inl (by simp only [RT.bO];omega)))
  ·have:some (p.bd 0)=some w:=hw
   cases this
   exact ⟨Int.le_refl _,fun _=>rfl⟩
  ·have hw:(if (p.bd 0).slot≠0∧RT.cZ (T i).l 0 p.aJ then some (p.bd 0) else none)=some w:=hw
   by_cases g:(p.bd 0).slot≠0∧RT.cZ (T i).l 0 p.aJ
   ·rw [if_pos g] at hw
    cases hw
    exact H.Je g.1 (H.covered hi hk hs he g.1 g.2)
   ·rw [if_neg g] at hw;cases hw
 ·have hnd:¬(e=3∨e=5):=fun h=>hd (L.bA.2 h)
  by_cases g:(T i).l.ak=2∧(p.bd 0).slot≠0∧(T i).l.h 0≠(p.bd 0).eF
  ·have he:e=2:=L.iR.symm.trans g.1
   have htk:(T i).bq ⟨p.bd 0,true⟩={T i with l:=(T i).l.hold 0 (p.bd 0).eF,t:=.gU (Ca.of 6) (Ac.store 0 0 (25+(T i).l.me * 9+0) (p.bd 0).eF)}:=Th.fT ht (by
     show (if (T i).l.bA then _ else if (T i).l.ak=2∧(p.bd 0).slot≠0∧(T i).l.h (0:Int).toNat≠(p.bd 0).eF then _ else _:LR)=_
     rw [if_neg hd,if_pos (show (T i).l.ak=2∧(p.bd 0).slot≠0∧(T i).l.h (0:Int).toNat≠(p.bd 0).eF from g)]
     rfl)
   rw [htk]
   refine H.Dq hi H.gV P (cz (.inr (.inr (.inr (.inr (.inr (.inr (.inr (.inr (.inr ⟨_,_,rfl⟩)))))))))) rfl ?_ (dR (.inl (by simp only [RT.bO];omega)))
   refine ⟨L.iR,L.me,L.oN,L.most,fun k hk=>(Sj _ _ hk).trans (L.hz k hk),L.kz,fun h=>absurd he h,L.ns,fun h=>by omega,L.s5,L.b5,fun h=>absurd trivial h,fun _=>L.sc hs,fun h=>by omega,fun h=>absurd (show (T i).pc=0 from h) (by omega),⟨q,rfl,.inl ⟨.inl he,?_⟩⟩⟩
   show _=Ac.store 0 0 (25+(T i).l.me * 9+0) (((T i).l.hold 0 (p.bd 0).eF).h 0)
   rw [Gj]
  ·have htk:(T i).bq ⟨p.bd 0,true⟩={T i with t:=.idle ⟨p.bd 0,true⟩}:=by
    have:(T i).bq ⟨p.bd 0,true⟩={T i with l:=(T i).l,t:=.idle ⟨p.bd 0,true⟩}:=Th.fT ht (by
      show (if (T i).l.bA then _ else if (T i).l.ak=2∧(p.bd 0).slot≠0∧(T i).l.h (0:Int).toNat≠(p.bd 0).eF then _ else _:LR)=_
      rw [if_neg hd,if_neg (show ¬((T i).l.ak=2∧(p.bd 0).slot≠0∧(T i).l.h (0:Int).toNat≠(p.bd 0).eF) from g)])
    exact this
   rw [htk]
   have q':(T i).pc≠4∧(T i).pc≠5∧(T i).pc≠6:=by omega
   refine H.calm hi H.gV ?_ ?_ rfl (L.go rfl hk hs (fun h _=>on h) (fun h=>absurd (show (T i).pc=0 from h) (by omega)) ⟨⟨by show 0≤(T i).pc;omega,by show (T i).pc≤7;omega⟩,fun h=>absurd (show (T i).pc=3 from h) (by omega)⟩) (fun w hw=>?_) (fun w hw=>?_) (fun o b h=>(by cases h)) (fun w hw=>?_) (Calm.idle _)
   ·rw [P.hand];simp [Th.hand,q]
   ·rw [P.cut];simp [Th.cut,q]
   ·have:some (p.bd 0)=some w:=by rw [←hw];simp [Th.snap,q]
    cases this
    exact ⟨Int.le_refl _,fun _=>rfl⟩
   ·simp [Th.full,q] at hw
   ·have hw:(if (T i).pc=2∧(p.bd 0).slot≠0 then some (p.bd 0) else none)=some w:=hw
    by_cases g0:(p.bd 0).slot≠0
    ·rw [if_pos ⟨q,g0⟩] at hw
     cases hw
     refine H.Je g0 ⟨fun h2=>?_,fun h=>absurd (.inl h) hnd,fun h4=>?_,fun h=>absurd (.inr h) hnd⟩
     ·have hh:(T i).l.h 0=(p.bd 0).eF:=by
       by_cases hh:(T i).l.h 0=(p.bd 0).eF
       ·exact hh
       ·exact absurd ⟨L.iR.trans h2,g0,hh⟩ g
      unfold gK
      rw [if_pos (.inl h2),L.kc hk,hh]
      rfl
     ·unfold gK
      rw [if_neg (by omega),L.sc hs]
      unfold RS.ll
      rw [if_pos (on (.inl h4))]
    ·rw [if_neg (fun h=>g0 h.2)] at hw;cases hw
theorem Inv.Rc (H:Inv n e p T own A) (hi:i<n) {c:Ca} {v:Wd} (ht:(T i).t=.jA c v):kC n e p T i:=by
 have L:=H.loc i hi
 have hsh:=L.lC
 unfold Th.sh at hsh
 rw [ht] at hsh
 obtain ⟨q,rfl,he⟩:=hsh
 have hC:=H.clock.2
 have hk:¬(T i).dD:=by unfold Th.dD;rw [ht];exact id
 have hs:¬(T i).dX:=by unfold Th.dX;rw [ht];exact id
 have on:e=4∨e=5→(T i).l.s.is=true:=fun h=>L.on h (Th.iD (by omega))
 have q':(T i).pc≠4∧(T i).pc≠5∧(T i).pc≠6:=by omega
 have hh:(T i).hand=none:=by unfold Th.hand;rw [ht]
 have hct:(T i).cut=none:=by unfold Th.cut;rw [ht]
 refine jq (own':=own) (A':=A) (by rw [ht];rfl) (pO H) ?_
 by_cases hcv:RT.cZ (T i).l 0 p.aJ
 ·have htk:(T i).bq ⟨eQ p.aJ,true⟩={T i with t:=.idle ⟨v,true⟩}:=by
   have:(T i).bq ⟨eQ p.aJ,true⟩={T i with l:=(T i).l,t:=.idle ⟨v,true⟩}:=Th.fT ht (if_pos hcv)
   exact this
  rw [htk]
  refine H.calm hi H.gV ?_ ?_ rfl (L.go rfl hk hs (fun h _=>on h) (fun h=>absurd (show (T i).pc=0 from h) (by omega)) ⟨⟨by show 0≤(T i).pc;omega,by show (T i).pc≤7;omega⟩,fun h=>absurd (show (T i).pc=3 from h) (by omega)⟩) (fun w hw=>H.snap i hi w ?_) (fun w hw=>?_) (fun o b h=>(by cases h)) (fun w hw=>H.held i hi w ?_) (Calm.idle _)
  ·rw [hh];simp [Th.hand,q]
  ·rw [hct];simp [Th.cut,q]
  ·unfold Th.snap;rw [ht,←hw];simp [Th.snap,q]
  ·simp [Th.full,q] at hw
  ·have hw:(if (T i).pc=2∧v.slot≠0 then some v else none)=some w:=hw
   unfold Th.bX
   rw [ht,←hw]
   simp [q,hcv]
 ·have P':∀l c a,Plain {T i with l:=l,t:=.gU c a}:=fun l c a=>cz (.inr (.inr (.inr (.inr (.inr (.inr (.inr (.inr (.inr ⟨_,_,rfl⟩)))))))))
  by_cases h3:e=3
  ·have htk:(T i).bq ⟨eQ p.aJ,true⟩={T i with l:=(T i).l.hold 0 (Wd.eD p.aJ),t:=.gU (Ca.of 6) (Ac.store 0 0 (25+(T i).l.me * 9+0) (Wd.eD p.aJ))}:=Th.fT ht (by
      show (if RT.cZ (T i).l 0 p.aJ then _ else if (T i).l.ak=3 then _ else _:LR)=_
      rw [if_neg hcv,if_pos (L.iR.trans h3)]
      rfl)
   rw [htk]
   refine H.calm hi H.gV (by rw [hh];rfl) (by rw [hct];rfl) rfl ?_ (fun w hw=>(by cases hw)) (fun w hw=>(by cases hw)) (fun o b h=>(by cases h)) (fun w hw=>(by cases hw)) (dR (.inl (by simp only [RT.bO];omega)))
   refine ⟨L.iR,L.me,L.oN,L.most,fun k hk=>(Sj _ _ hk).trans (L.hz k hk),L.kz,fun _ h=>absurd h3 h,L.ns,fun h=>⟨?_,(L.h3 h).2⟩,L.s5,L.b5,fun h=>absurd trivial h,fun _=>L.sc hs,fun h=>by omega,fun h=>absurd (show (T i).pc=0 from h) (by omega),⟨q,rfl,.inl ⟨.inr h3,?_⟩⟩⟩
   ·rw [Gj]
    show p.aJ≤_
    exact Int.le_refl _
   ·show _=Ac.store 0 0 (25+(T i).l.me * 9+0) (((T i).l.hold 0 (Wd.eD p.aJ)).h 0)
    rw [Gj]
  ·have h5:e=5:=by omega
   have his:=on (.inr h5)
   obtain ⟨a,b,hsp,hab,hbc⟩:∃a b,(T i).l.s=⟨true,a,b⟩∧a≤b∧b≤p.aJ:=by
    rcases L.s5 with h | h
    ·rw [h] at his;cases his
    ·exact h
   have htk:(T i).bq ⟨eQ p.aJ,true⟩={T i with l:={(T i).l with s:=⟨true,a,p.aJ⟩},t:=.gU (Ca.of 6) (RT.ik (T i).l ⟨true,a,p.aJ⟩)}:=Th.fT ht (by
     show (if RT.cZ (T i).l 0 p.aJ then _ else if (T i).l.ak=3 then _ else ({(T i).l with s:=⟨true,if (T i).l.s.is=true then (T i).l.s.low else p.aJ,p.aJ⟩},RT.gU (Ca.of 6) (RT.ik (T i).l ⟨true,if (T i).l.s.is=true then (T i).l.s.low else p.aJ,p.aJ⟩)):LR)=_
     rw [if_neg hcv,if_neg (by rw [L.iR];exact h3),hsp]
     simp)
   rw [htk]
   refine H.calm hi H.gV (by rw [hh];rfl) (by rw [hct];rfl) rfl ?_ (fun w hw=>(by cases hw)) (fun w hw=>(by cases hw)) (fun o b h=>(by cases h)) (fun w hw=>(by cases hw)) (dR (.inl (by simp only [RT.bO];omega)))
   exact ⟨L.iR,L.me,L.oN,L.most,L.hz,L.kz,L.nk,fun _ h=>absurd h5 h,L.h3,.inr ⟨a,p.aJ,rfl,by omega,Int.le_refl _⟩,L.b5,fun h=>absurd trivial h,fun h=>absurd trivial h,fun _ _=>rfl,fun h=>absurd (show (T i).pc=0 from h) (by omega),⟨q,rfl,.inr ⟨h5,rfl⟩⟩⟩
theorem Inv.Re (H:Inv n e p T own A) (hi:i<n) {ck:Wd} (ht:(T i).t=.lq ck):kC n e p T i:=by
 have L:=H.loc i hi
 have hsh:=L.lC
 unfold Th.sh at hsh
 rw [ht] at hsh
 obtain ⟨q,he,c,hc,rfl⟩:=hsh
 have hk:¬(T i).dD:=by unfold Th.dD;rw [ht];exact id
 have hs:¬(T i).dX:=by unfold Th.dX;rw [ht];exact id
 obtain ⟨t,n1,n2,n3,n4⟩:=Ja (h0:=T i) (l1:=(T i).l) q
 have n1':(T i).with (RT.dn (T i).l)={T i with t:=t}:=n1
 refine H.Ky hi (by rw [ht];rfl) (cz (.inr (.inr (.inr (.inr (.inr (.inl ⟨_,ht⟩))))))) (fun x=>?_) n3 n4 ?_ (fun h=>by omega)
 ·rw [←n1']
  unfold Th.bq
  rw [ht]
  rfl
 ·refine L.go rfl hk hs (fun h _=>L.on h (Th.iD (by omega))) (fun h=>absurd (show (T i).pc=0 from h) (by omega)) ?_
  have pM:=L.iR
  unfold Th.sh
  rcases n2 with n2 | ⟨n2,n5⟩ | ⟨n2,n5,n6⟩
  ·rw [n2];exact ⟨⟨by show 0≤(T i).pc;omega,by show (T i).pc≤7;omega⟩,fun h=>absurd (show (T i).pc=3 from h) (by omega)⟩
  ·rw [n5];exact ⟨.inr q,by omega⟩
  ·rw [n6];exact ⟨.inr q,by omega,L.zN H.n6,fun h=>by omega⟩
theorem Inv.Rf (H:Inv n e p T own A) (hi:i<n) (ht:(T i).t=.lu):kC n e p T i:=by
 have L:=H.loc i hi
 have hsh:=L.lC
 unfold Th.sh at hsh
 rw [ht] at hsh
 obtain ⟨q,he⟩:=hsh
 have hk:¬(T i).dD:=by unfold Th.dD;rw [ht];exact id
 have hs:¬(T i).dX:=by unfold Th.dX;rw [ht];exact id
 have htk:(T i).bq ⟨eQ p.aJ,true⟩={T i with t:=.dE (eQ p.aJ) []}:=by
  have:(T i).bq ⟨eQ p.aJ,true⟩={T i with l:=(T i).l,t:=.dE (eQ p.aJ) []}:=Th.fT ht rfl
  exact this
 refine jq (own':=own) (A':=A) (by rw [ht];rfl) (pO H) ?_
 rw [htk]
 refine H.Dq hi H.gV (cz (.inl ht)) (cz (.inr (.inl ⟨_,_,rfl⟩))) rfl (L.go rfl hk hs (fun h hb=>?_) L.off ⟨q,by omega,L.zN H.n6,fun _=>⟨p.aJ,Int.le_refl _,rfl⟩⟩) (Calm.new _)
 have hb:2≤(T i).pc:=hb
 exact L.on h (Th.iD hb)
theorem Inv.Rh (H:Inv n e p T own A) (hi:i<n) {ck:Wd} (ht:(T i).t=.ji ck):kC n e p T i:=by
 have L:=H.loc i hi
 have hsh:=L.lC
 unfold Th.sh at hsh
 rw [ht] at hsh
 obtain ⟨q,he,c,hc,rfl⟩:=hsh
 have hk:¬(T i).dD:=by unfold Th.dD;rw [ht];exact id
 have hs:¬(T i).dX:=by unfold Th.dX;rw [ht];exact id
 refine H.Ky hi (t:=.gI) (by rw [ht];rfl) (cz (.inr (.inr (.inl ⟨_,ht⟩)))) (fun x=>?_) (cz (.inr (.inr (.inr (.inl rfl))))) (dR (.inr rfl)) (L.go rfl hk hs (fun h hb=>?_) L.off ⟨q,he⟩) (fun _=>ht)
 ·have:(T i).bq x={T i with l:=(T i).l,t:=.gI}:=Th.fT ht rfl
  exact this
 ·have hb:2≤(T i).pc:=hb
  exact L.on h (Th.iD hb)
theorem Inv.O0 (H:Inv n e p T own A) (hi:i<n) {d:Nt} {r:List Nt} (ht:(T i).t=.ib d r):kC n e p T i:=by
 have L:=H.loc i hi
 have hsh:=L.lC
 unfold Th.sh at hsh
 rw [ht] at hsh
 obtain ⟨q,he,hsub,hnd⟩:=hsh
 have hk:¬(T i).dD:=by unfold Th.dD;rw [ht];exact id
 have hs:¬(T i).dX:=by unfold Th.dX;rw [ht];exact id
 have hd:d∈(T i).l.notes:=hsub d (List.mem_cons_self ..)
 have hnn:=ma (H.oi.qO i)
 obtain ⟨m1,m2,m3,m4,m5⟩:=H.I9 (o:=.note i) (w:=d.ref) ⟨d,hd,rfl⟩
 have hal:p.act ⟨5,0,0,0,d.ref,Wd.zero⟩=(PS.free {p with steps:=p.steps+1} d.ref.slot,some ⟨Wd.zero,true⟩):=I8 m3 m4
 have hok:=H.uu ⟨5,0,0,0,d.ref,Wd.zero⟩
 rw [hal] at hok
 have on:∀t,({T i with l:={(T i).l with notes:=(T i).l.notes.erase d,freed:=(T i).l.freed+1},t:=t}:Th).busy→e=4∨e=5→(T i).l.s.is=true:=fun t hb h=>by
  refine L.on h ?_
  unfold Th.busy at hb ⊢
  rw [ht]
  rcases q with q | q
  ·cases t <;> simp only at hb <;> omega
  ·show 2≤(T i).pc
   omega
 have hkey:∃t,(T i).bq ⟨Wd.zero,true⟩={T i with l:={(T i).l with notes:=(T i).l.notes.erase d,freed:=(T i).l.freed+1},t:=t}∧((r=[]∧∃x,t=.idle x)∨∃d' r',r=d' :: r'∧t=.ib d' r')∧Plain {T i with l:={(T i).l with notes:=(T i).l.notes.erase d,freed:=(T i).l.freed+1},t:=t} ∧
   ({T i with l:={(T i).l with notes:=(T i).l.notes.erase d,freed:=(T i).l.freed+1},t:=t}:Th).sh e p.aJ:=by
  cases r with
  | nil=>exact ⟨.idle Rp.yes,Th.fT ht rfl,.inl ⟨rfl,_,rfl⟩,mK (h:={T i with l:=_,t:=.idle Rp.yes}) rfl (by rcases q with q | q;exact .inl q;exact .inr (.inr q)),⟨⟨by show 0≤(T i).pc;omega,by show (T i).pc≤7;omega⟩,fun h=>absurd (show (T i).pc=3 from h) (by omega)⟩⟩
  | cons d' r' =>
   refine ⟨.ib d' r',Th.fT ht rfl,.inr ⟨_,_,rfl,rfl⟩,cz (.inr (.inr (.inr (.inr (.inl ⟨_,_,rfl⟩))))),⟨q,he,fun x hx=>?_,(List.nodup_cons.1 hnd).2⟩⟩
   show x∈(T i).l.notes.erase d
   rw [hnn.mem_erase_iff]
   exact ⟨fun hxd=>(List.nodup_cons.1 hnd).1 (by rw [←hxd];exact hx),hsub x (List.mem_cons_of_mem _ hx)⟩
 obtain ⟨t,htk,h4,hP,hst⟩:=hkey
 have hr:=H.eG (h':=(T i).bq ⟨Wd.zero,true⟩) hi (k:=p.steps+1) (nf:=p.nf+1) (fr:=fun j=>if j=p.nf.toNat then d.ref.slot else p.fr j) hok ht hd (by rw [htk];exact hP.hand) (by rw [htk];exact hP.cut) (by rw [htk])
  (by rw [htk];exact L.goN ⟨rfl,rfl,rfl,rfl,rfl,rfl⟩ hk hs (fun h hb=>on t hb h) L.off hst) (by rw [htk];exact hP.snap) (by rw [htk];exact hP.full) (by rw [htk];exact hP.uJ) (by rw [htk];exact hP.bX) (by rw [htk];exact h4)
 obtain ⟨own',hI⟩:=hr
 exact ⟨_,_,own',A,by rw [ht];exact hal,hI⟩
end
end Go.Proofs.YthomdlajobnmnaaDoor
set_option linter.unusedSimpArgs false
set_option linter.unusedVariables false
set_option linter.unusedSimpArgs false
set_option linter.unusedVariables false
namespace Go.Proofs.YthomdlajobnmnaaDoor
open Go.Rex
section
variable {n:Nat} {e:Int} {p:PS} {T:Nat→Th} {own:Int→iV} {A:Nat→Int} {i:Nat} {h h':Th}
theorem TR {l:Lo} {ck:Wd} {seen:List Wd} {m:Nt} {w:Wd} {A:Int} (hl:l.ak=e) (he:e=2∨e=3∨e=5) (hw:w∈seen) (hk:Kp e w A m):RT.kept l ck seen m=true:=by
 unfold RT.kept
 rcases he with h | h | h
 ·rw [if_pos (hl.trans h),List.any_eq_true]
  exact ⟨w,hw,by unfold RS.sI;rw [hk.k2 h];exact beq_self_eq_true _⟩
 ·rw [if_neg (by omega),if_pos (hl.trans h),List.any_eq_true]
  exact ⟨w,hw,by unfold RS.rO;exact decide_eq_true (hk.k3 h)⟩
 ·rw [if_neg (by omega),if_neg (by omega),if_pos (hl.trans h),List.any_eq_true]
  obtain ⟨k1,k2,k3⟩:=hk.k5 h
  refine ⟨w,hw,?_⟩
  unfold RS.pF RS.iP
  rw [if_pos k1]
  simp only [Bool.true_and]
  exact decide_eq_true ⟨k2,k3⟩
theorem Mv {l:Lo} {ck:Wd} {seen:List Wd}:(RT.eY l ck seen=(l,.idle Rp.yes)∧∀m∈l.notes,RT.kept l ck seen m=true)∨∃d r,RT.eY l ck seen=(l,.ib d r)∧d :: r=l.notes.filter fun m=>!RT.kept l ck seen m:=by
 unfold RT.eY
 cases hf:l.notes.filter fun m=>!RT.kept l ck seen m with
 | nil =>
  refine .inl ⟨rfl,fun m hm=>?_⟩
  have:=List.filter_eq_nil_iff.1 hf m hm
  simpa using this
 | cons d r=>exact .inr ⟨d,r,rfl,rfl⟩
theorem Inv.eY (H:Inv n e p T own A) (hi:i<n) {k:Int} (hok:({p with steps:=k}:PS).OK) {ck:Wd} {seen:List Wd} (P:Plain (T i)) (hk:¬(T i).dD) (hs:¬(T i).dX) (q:(T i).pc=0∨(T i).pc=7) (he:e≠1)
  (htk:h'=(T i).with (RT.eY (T i).l ck seen)) (hbz:(T i).pc=7→(T i).busy)
  (hK:∀j,j<n→∀s,OT e (gK e p j) s (p.aU s)→NK e (gK e p j) (A j) (jk e j) (T i) s→∀m∈(T i).l.notes,m.ref.slot=s→RT.kept (T i).l ck seen m=true):Inv n e {p with steps:=k} (bT T i h') own A:=by
 have L:=H.loc i hi
 have hnn:=ma (H.oi.qO i)
 have key:∃t,h'={T i with t:=t}∧Plain h'∧h'.sh e p.aJ∧((∃x,t=.idle x)∨∃d r,t=.ib d r∧∀m∈d :: r,¬RT.kept (T i).l ck seen m=true):=by
  rcases Mv (l:=(T i).l) (ck:=ck) (seen:=seen) with ⟨g,_⟩ | ⟨d,r,g,hf⟩
  ·rw [g] at htk
   refine ⟨.idle Rp.yes,htk,?_,?_,.inl ⟨_,rfl⟩⟩
   ·rw [htk]
    exact mK (h:=(T i).with ((T i).l,.idle Rp.yes)) rfl (by rcases q with q | q;exact .inl q;exact .inr (.inr q))
   ·rw [htk]
    exact ⟨⟨by show 0≤(T i).pc;omega,by show (T i).pc≤7;omega⟩,fun h=>absurd (show (T i).pc=3 from h) (by omega)⟩
  ·rw [g] at htk
   refine ⟨.ib d r,htk,?_,?_,.inr ⟨d,r,rfl,fun m hm=>?_⟩⟩
   ·rw [htk]
    exact cz (.inr (.inr (.inr (.inr (.inl ⟨_,_,rfl⟩)))))
   ·rw [htk]
    refine ⟨q,he,fun m hm=>?_,?_⟩
    ·rw [hf] at hm
     exact (List.mem_filter.1 hm).1
    ·rw [hf]
     exact hnn.sublist (List.filter_sublist ..)
   ·rw [hf] at hm
    have:=(List.mem_filter.1 hm).2
    simpa using this
 obtain ⟨t,h1,hP,hsh,hcase⟩:=key
 refine H.stay hi hok (hP.hand.trans P.hand.symm) (hP.cut.trans P.cut.symm) (by rw [h1]) (L.go (by rw [h1]) hk hs (fun h hb=>?_) (by rw [h1];exact L.off) hsh) (fun w hw=>by rw [hP.snap] at hw;cases hw) (fun w hw=>by rw [hP.full] at hw;cases hw) (fun o b h=>absurd h (hP.uJ o b)) (fun w hw=>by rw [hP.bX] at hw;cases hw) ?_ ?_
 ·refine L.on h ?_
  rcases q with q | q
  ·rw [h1] at hb
   unfold Th.busy at hb
   cases t <;> simp only at hb <;> omega
  ·exact hbz q
 ·intro j hj s Jf hn m hm hms
  rw [h1] at hm ⊢
  refine ⟨(hn m hm hms).1,fun d r ht=>?_,fun Ak seen' ht=>?_⟩
  ·rcases hcase with ⟨x,hx⟩ | ⟨d',r',hx,hno⟩
   ·rw [hx] at ht;cases ht
   ·rw [hx] at ht
    cases ht
    have:=hK j hj s Jf hn m hm hms
    exact ⟨fun h=>hno m (by rw [h];exact List.mem_cons_self ..) this,fun h=>hno m (List.mem_cons_of_mem _ h) this⟩
  ·rcases hcase with ⟨x,hx⟩ | ⟨d',r',hx,hno⟩
   ·rw [hx] at ht;cases ht
   ·rw [hx] at ht;cases ht
 ·intro _ j hj _ _ _
  rw [h1]
  rcases hcase with ⟨x,hx⟩ | ⟨d',r',hx,hno⟩
  ·exact ⟨fun Ak seen' ht=>(by rw [hx] at ht;cases ht),fun Ak ht=>(by rw [hx] at ht;cases ht)⟩
  ·exact ⟨fun Ak seen' ht=>(by rw [hx] at ht;cases ht),fun Ak ht=>(by rw [hx] at ht;cases ht)⟩
theorem Et {α:Type} {l:List α} {x y:α} {k:Nat} (h:(l ++ [x])[k]?=some y):l[k]?=some y∨(k=l.length∧y=x):=by
 rcases Nat.lt_trichotomy k l.length with h1 | h1 | h1
 ·rw [List.getElem?_append_left h1] at h
  exact .inl h
 ·rw [h1] at h
  simp at h
  exact .inr ⟨h1,h.symm⟩
 ·rw [List.getElem?_append_right (by omega)] at h
  rw [List.getElem?_eq_none (by simp;omega)] at h
  cases h
theorem Dr {α:Type} {l:List α} {x:α} {k:Nat} (h:k<l.length+1):∃y,(l ++ [x])[k]?=some y∧y∈l ++ [x]:=by
 have hk:k<(l ++ [x]).length:=by simp;omega
 exact ⟨(l ++ [x])[k],List.getElem?_eq_getElem hk,List.getElem_mem hk⟩
theorem Inv.O1 (H:Inv n e p T own A) (hi:i<n) {ck:Wd} {seen:List Wd} (ht:(T i).t=.dE ck seen):kC n e p T i:=by
 have L:=H.loc i hi
 have hsh:=L.lC
 unfold Th.sh at hsh
 rw [ht] at hsh
 obtain ⟨q,he,hlen,hck⟩:=hsh
 have h6:=H.n6
 have h5:=H.e5
 have hk:¬(T i).dD:=by unfold Th.dD;rw [ht];exact id
 have hs:¬(T i).dX:=by unfold Th.dX;rw [ht];exact id
 have P:Plain (T i):=cz (.inr (.inl ⟨_,_,ht⟩))
 have hbz:(T i).pc=7→(T i).busy:=fun h=>Th.iD (by omega)
 have hpos:∃b:Nat,(T i).l.base+seen.length=(b:Int)∧b<85∧∀j,j<n→(jk e j=seen.length→p.bd b=gK e p j)∧(jk e j:Int)<(T i).l.all:=by
  have YQ:=L.oN
  unfold Lo.base Lo.all at *
  by_cases g:(T i).l.bf
  ·rw [if_pos g] at hlen ⊢
   rw [if_pos g]
   refine ⟨25+seen.length,by omega,by omega,fun j hj=>?_⟩
   unfold jk gK
   rw [if_pos (L.bf.1 g),if_pos (L.bf.1 g)]
   exact ⟨fun h=>by rw [h],by omega⟩
  ·rw [if_neg g] at hlen ⊢
   rw [if_neg g]
   have g':¬(e=2∨e=3):=fun h=>g (L.bf.2 h)
   refine ⟨79+seen.length,by omega,by omega,fun j hj=>?_⟩
   unfold jk gK
   rw [if_neg g',if_neg g']
   exact ⟨fun h=>by rw [h],by omega⟩
 obtain ⟨b,hb1,hb2,hb3⟩:=hpos
 have hal:p.act (Ac.load 0 0 ((T i).l.base+seen.length))=({p with steps:=p.steps+1},some ⟨p.bd b,true⟩):=by
  rw [hb1]
  have:=sZ (p:=p) (s:=0) (g:=0) (f:=(b:Int)) (o:=Wd.zero) (w:=Wd.zero) (H.Es (by omega) (by omega)) Inv.zO
  rw [tq,Int.toNat_natCast] at this
  exact this
 refine jq (own':=own) (A':=A) (by rw [ht];rfl) hal ?_
 have Xk:∀j,j<n→∀s,NK e (gK e p j) (A j) (jk e j) (T i) s→∀m∈(T i).l.notes,m.ref.slot=s→e≠4→∀y,(seen ++ [p.bd b])[jk e j]?=some y→Kp e y (A j) m:=by
  intro j hj s hn m hm hms h4 y hy
  obtain ⟨k1,k2,k3⟩:=hn m hm hms
  rcases Et hy with hy | ⟨hy1,hy2⟩
  ·exact k3 ck seen ht h4 y hy
  ·rw [hy2,(hb3 j hj).1 hy1];exact k1
 by_cases g:(seen.length:Int)+1<(T i).l.all
 ·have htk:(T i).bq ⟨p.bd b,true⟩={T i with t:=.dE ck (seen ++ [p.bd b])}:=by
   have:(T i).bq ⟨p.bd b,true⟩={T i with l:=(T i).l,t:=.dE ck (seen ++ [p.bd b])}:=Th.fT ht (if_pos g)
   exact this
  rw [htk]
  have P':Plain {T i with t:=.dE ck (seen ++ [p.bd b])}:=cz (.inr (.inl ⟨_,_,rfl⟩))
  refine H.stay hi H.gV (P'.hand.trans P.hand.symm) (P'.cut.trans P.cut.symm) rfl (L.go rfl hk hs (fun h hb=>?_) L.off ⟨q,he,?_,hck⟩) (fun w hw=>by rw [P'.snap] at hw;cases hw) (fun w hw=>by rw [P'.full] at hw;cases hw) (fun o b h=>absurd h (P'.uJ o b)) (fun w hw=>by rw [P'.bX] at hw;cases hw) ?_ ?_
  ·have hb:2≤(T i).pc:=hb
   exact L.on h (Th.iD hb)
  ·simp only [List.length_append,List.length_singleton]
   show ((seen.length+1:Nat):Int)<(T i).l.all
   omega
  ·intro j hj s Jf hn m hm hms
   refine ⟨(hn m hm hms).1,fun d r h=>(by cases h),fun Ak seen' h h4 y hy=>?_⟩
   cases h
   exact Xk j hj s hn m hm hms h4 y hy
  ·intro e4 j hj hmk hc hlt
   refine ⟨fun Ak seen' h hcn y hy=>?_,fun Ak h=>(by cases h)⟩
   cases h
   rcases Et hy with hy | ⟨hy1,hy2⟩
   ·exact hlt.1 ck seen ht hcn y hy
   ·have hap:jk e j=seen.length:=by unfold jk;rw [if_neg (by omega)];exact hy1
    have:=(hb3 j hj).1 hap
    unfold gK at this
    rw [if_neg (by omega)] at this
    rw [hy2,this]
    have:=(H.ep e4 j hj hmk).1
    exact ⟨hmk,by omega⟩
 ·by_cases g4:e=4
  ·have pM:(T i).l.ak=4:=L.iR.trans g4
   by_cases gm:RS.may ck.num ((seen ++ [p.bd b]).map RS.iP)=true
   ·have htk:(T i).bq ⟨p.bd b,true⟩={T i with t:=.ji ck}:=by
     have:(T i).bq ⟨p.bd b,true⟩={T i with l:=(T i).l,t:=.ji ck}:=Th.fT ht (by
       show (if (seen.length:Int)+1<(T i).l.all then _ else if (T i).l.ak≠4 then _ else if RS.may ck.num ((seen ++ [p.bd b]).map RS.iP)=true then _ else _:LR)=_
       rw [if_neg g,if_neg (fun h=>h pM),if_pos gm])
     exact this
    rw [htk]
    have P':Plain {T i with t:=.ji ck}:=cz (.inr (.inr (.inl ⟨_,rfl⟩)))
    refine H.stay hi H.gV (P'.hand.trans P.hand.symm) (P'.cut.trans P.cut.symm) rfl (L.go rfl hk hs (fun h hb=>?_) L.off ⟨q,g4,hck g4⟩) (fun w hw=>by rw [P'.snap] at hw;cases hw) (fun w hw=>by rw [P'.full] at hw;cases hw) (fun o b h=>absurd h (P'.uJ o b)) (fun w hw=>by rw [P'.bX] at hw;cases hw) ?_ ?_
    ·have hb:2≤(T i).pc:=hb
     exact L.on h (Th.iD hb)
    ·exact fun j hj s _ hn m hm hms=>⟨(hn m hm hms).1,fun d r h=>(by cases h),fun Ak seen' h=>(by cases h)⟩
    ·intro _ j hj hmk hc hlt
     refine ⟨fun Ak seen' h=>(by cases h),fun Ak h hcn=>?_⟩
     cases h
     have hap:jk e j=j:=by unfold jk;rw [if_neg (by omega)]
     have hlt2:=(hb3 j hj).2
     rw [hap] at hlt2
     obtain ⟨y,hy,hym⟩:=Dr (l:=seen) (x:=p.bd b) (k:=j) (by omega)
     have Xl:y.mark=true∧y.num≠p.aJ:=by
      rcases Et hy with hy | ⟨hy1,hy2⟩
      ·exact hlt.1 ck seen ht hcn y hy
      ·have:=(hb3 j hj).1 (hap.trans hy1)
       unfold gK at this
       rw [if_neg (by omega)] at this
       rw [hy2,this]
       have:=(H.ep g4 j hj hmk).1
       exact ⟨hmk,by omega⟩
     unfold RS.may at gm
     have:=List.all_eq_true.1 gm (RS.iP y) (List.mem_map.2 ⟨y,hym,rfl⟩)
     unfold RS.iP at this
     rw [if_pos Xl.1] at this
     simp only [Bool.true_and,Bool.not_eq_true',bne_eq_false_iff_eq] at this
     exact Xl.2 (this.trans hcn)
   ·have htk:(T i).bq ⟨p.bd b,true⟩={T i with t:=.gI}:=by
     have:(T i).bq ⟨p.bd b,true⟩={T i with l:=(T i).l,t:=.gI}:=Th.fT ht (by
       show (if (seen.length:Int)+1<(T i).l.all then _ else if (T i).l.ak≠4 then _ else if RS.may ck.num ((seen ++ [p.bd b]).map RS.iP)=true then _ else _:LR)=_
       rw [if_neg g,if_neg (fun h=>h pM),if_neg gm])
     exact this
    rw [htk]
    refine H.Dq hi H.gV P (cz (.inr (.inr (.inr (.inl rfl))))) rfl (L.go rfl hk hs (fun h hb=>?_) L.off ⟨q,g4⟩) (dR (.inr rfl))
    have hb:2≤(T i).pc:=hb
    exact L.on h (Th.iD hb)
  ·have htk:(T i).bq ⟨p.bd b,true⟩=(T i).with (RT.eY (T i).l ck (seen ++ [p.bd b])):=by
    unfold Th.bq
    rw [ht]
    show (T i).with (if (seen.length:Int)+1<(T i).l.all then _ else if (T i).l.ak≠4 then _ else _:LR)=_
    rw [if_neg g,if_pos (by rw [L.iR];exact g4)]
   refine H.eY hi H.gV P hk hs q he htk hbz fun j hj s Jf hn m hm hms=>?_
   have hlt2:=(hb3 j hj).2
   obtain ⟨y,hy,hym⟩:=Dr (l:=seen) (x:=p.bd b) (k:=jk e j) (by omega)
   have he':e=2∨e=3∨e=5:=by clear hck;omega
   exact TR L.iR he' hym (Xk j hj s hn m hm hms g4 y hy)
theorem Inv.Mw (H:Inv n e p T own A) (hi:i<n) (ht:(T i).t=.gI):kC n e p T i:=by
 have L:=H.loc i hi
 have hsh:=L.lC
 unfold Th.sh at hsh
 rw [ht] at hsh
 obtain ⟨q,he⟩:=hsh
 have hk:¬(T i).dD:=by unfold Th.dD;rw [ht];exact id
 have hs:¬(T i).dX:=by unfold Th.dX;rw [ht];exact id
 have P:Plain (T i):=cz (.inr (.inr (.inr (.inl ht))))
 refine jq (own':=own) (A':=A) (by rw [ht];rfl) (pO H) ?_
 have htk:(T i).bq ⟨eQ p.aJ,true⟩=(T i).with (RT.eY (T i).l (eQ p.aJ) []):=by
  unfold Th.bq
  rw [ht]
  rfl
 refine H.eY hi H.gV P hk hs q (by omega) htk (fun h=>Th.iD (by omega)) fun j hj s Jf hn m hm hms=>?_
 unfold RT.kept
 rw [if_neg (by rw [L.iR];omega),if_neg (by rw [L.iR];omega),if_neg (by rw [L.iR];omega)]
 have h1:=(hn m hm hms).1.k4 he
 have h2:=Jf.k4 he
 unfold gK at h2
 rw [if_neg (by omega)] at h2
 have h3:=(H.ep he j hj h2).1
 unfold RS.nQ
 refine decide_eq_true (.inr ?_)
 show m.dh > p.aJ-2
 omega
theorem Inv.acc (H:Inv n e p T own A) (hi:i<n) (hb:(T i).t.bO≠0):kC n e p T i:=by
 cases ht:(T i).t with
 | idle x=>rw [ht] at hb;exact absurd rfl hb
 | one a=>exact H.TN hi ht
 | fin a=>exact H.TP hi ht
 | pJ=>exact H.Q8 hi ht
 | jD k=>exact H.OW hi ht
 | gZ c=>exact H.OZ hi ht
 | jA c w=>exact H.Rc hi ht
 | gU c a=>exact H.Q9 hi ht
 | oJ=>exact H.Ra hi ht
 | jB o=>exact H.Mt hi ht
 | dW o b=>exact H.Rb hi ht
 | lq c=>exact H.Re hi ht
 | lu=>exact H.Rf hi ht
 | dE c s=>exact H.O1 hi ht
 | ji c=>exact H.Rh hi ht
 | gI=>exact H.Mw hi ht
 | ib d r=>exact H.O0 hi ht
end
end Go.Proofs.YthomdlajobnmnaaDoor
