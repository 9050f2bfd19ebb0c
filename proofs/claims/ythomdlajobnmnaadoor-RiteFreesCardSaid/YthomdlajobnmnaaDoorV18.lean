/- part 18 of the proof -/
import Derived.Test.YthomdlajobnmnaaDoorV17
set_option linter.unusedSimpArgs false
set_option linter.unusedVariables false
namespace Go.Proofs.YthomdlajobnmnaaDoor
open Go.Rex
section
variable {n:Nat} {e:Int} {p:PS} {T:Nat→Th} {own:Int→iy} {A:Nat→Int} {i:Nat} {h h':Th}
theorem Th.Loc.nC (L:h.Loc e n p i) (h6:1≤n∧n≤6):0<h.l.all:=by
 have h1:=L.nS
 unfold Lo.all
 by_cases g:h.l.bf
 ·rw [if_pos g,h1];omega
 ·rw [if_neg g,h1];omega
theorem nT {l:Lo}:RT.dn l=(l,.idle Rp.yes)∨(l.aj=4∧RT.dn l=(l,.je))∨(l.aj≠1∧l.aj≠4∧RT.dn l=(l,.bV Wd.zero [])):=by
 unfold RT.dn
 by_cases g:(l.notes.length:Int)≥l.most
 ·rw [if_pos g]
  unfold RT.scan
  by_cases g1:l.aj=1
  ·rw [if_pos g1];exact .inl rfl
  ·rw [if_neg g1]
   by_cases g4:l.aj=4
   ·rw [if_pos g4];exact .inr (.inl ⟨g4,rfl⟩)
   ·rw [if_neg g4];exact .inr (.inr ⟨g1,g4,rfl⟩)
 ·rw [if_neg g];exact .inl rfl
theorem Inv.dP (H:Inv n e p T own A) (hi:i<n) {x:Rp} (ht:(T i).t=.idle x):∃own',Inv n e p (bA T i ((T i).dP x)) own' A:=by
 have L:=H.loc i hi
 obtain ⟨hpc,h3⟩:(0≤(T i).pc∧(T i).pc≤7)∧((T i).pc=3→(T i).old.slot≠0→x.word.num=dV (T i).old):=by
  have:=L.jN
  unfold Th.sh at this
  rw [ht] at this
  exact this
 have hk:¬(T i).dw:=by unfold Th.dw;rw [ht];exact id
 have hs:¬(T i).dI:=by unfold Th.dI;rw [ht];exact id
 have oh:(T i).hand=if (T i).pc=4 then (if x.ok=true then some x.word else none) else if (T i).pc=5 then some (T i).node else if (T i).pc=6 then (if x.ok=true then none else some (T i).node) else none:=by
  unfold Th.hand;rw [ht]
 have oc:(T i).cut=if (T i).pc=6∧x.ok=true∧(T i).old.slot≠0 then some (T i).old else none:=by unfold Th.cut;rw [ht]
 have os:(T i).snap=if (T i).pc=2 then some x.word else if 3≤(T i).pc∧(T i).pc≤5 then some (T i).old else none:=by unfold Th.snap;rw [ht]
 have of:(T i).full=if (T i).pc=5 then some (T i).node else none:=by unfold Th.full;rw [ht]
 have op:(T i).cZ p.aB=if (T i).pc=2∧x.word.slot≠0 then some x.word else none:=by unfold Th.cZ;rw [ht]
 have on:e=4∨e=5→1≤(T i).pc→(T i).l.s.is=true:=fun h1 h2=>L.on h1 (by unfold Th.busy;rw [ht];exact h2)
 have hC:=H.clock.2
 have hsn:=H.snap i hi
 have hfu:=H.full i hi
 have hpr:=H.held i hi
 rcases (by omega:(T i).pc=0∨(T i).pc=1∨(T i).pc=2∨(T i).pc=3∨(T i).pc=4∨(T i).pc=5∨(T i).pc=6∨(T i).pc=7) with q | q | q | q | q | q | q | q
 ·have h0:=L.off q
  by_cases hsp:(T i).l.bK
  ·have hb:(T i).dP x={T i with pc:=1,t:=.pK}:=by
    unfold Th.dP Th.call
    rw [if_pos q]
    simp [Th.with,RT.begin,Ca.of,Ca.zero,hsp]
   rw [hb]
   refine ⟨own,H.calm hi H.self ?_ ?_ rfl (L.go rfl hk hs (fun _ hb=>(by simp [Th.busy] at hb)) (fun h=>(by simp [Th.with] at h)) ⟨rfl,L.bK.1 hsp⟩) (fun w hw=>(by cases hw)) (fun w hw=>(by cases hw)) (fun o b h=>(by cases h)) (fun w hw=>(by cases hw)) (dY (.inl (by simp only [RT.aW];omega)))⟩
   ·rw [oh];simp [q];rfl
   ·rw [oc];simp [q];rfl
  ·have hb:(T i).dP x={T i with pc:=1,t:=.idle Rp.yes}:=by
    unfold Th.dP Th.call
    rw [if_pos q]
    simp [Th.with,RT.begin,Ca.of,Ca.zero,hsp]
   rw [hb]
   refine ⟨own,H.calm hi H.self ?_ ?_ rfl (L.go rfl hk hs (fun h _=>absurd (L.bK.2 h) hsp) (fun h=>(by simp [Th.with] at h)) ⟨⟨(by simp [Th.with]),(by simp [Th.with])⟩,fun h=>(by simp [Th.with] at h)⟩) (fun w hw=>(by cases hw)) (fun w hw=>(by cases hw)) (fun o b h=>(by cases h)) (fun w hw=>(by cases hw)) (Calm.idle _)⟩
   ·rw [oh];simp [q];rfl
   ·rw [oc];simp [q];rfl
 ·have hb:(T i).dP x={T i with pc:=2,t:=.fU (Ca.of 6)}:=by
   unfold Th.dP Th.call
   rw [if_neg (by omega),if_pos q]
   simp [Th.with,RT.begin,Ca.of,Ca.zero]
  rw [hb]
  refine ⟨own,H.calm hi H.self ?_ ?_ rfl (L.go rfl hk hs (fun h _=>on h (by omega)) (fun h=>(by simp [Th.with] at h)) ⟨rfl,rfl⟩) (fun w hw=>(by cases hw)) (fun w hw=>(by cases hw)) (fun o b h=>(by cases h)) (fun w hw=>(by cases hw)) (dY (.inl (by simp only [RT.aW];omega)))⟩
  ·rw [oh];simp [q];rfl
  ·rw [oc];simp [q];rfl
 ·have hb:(T i).dP x={T i with pc:=3,old:=x.word,t:=.one (if x.word.slot=0 then Ac.load 0 0 0 else Ac.load x.word.slot x.word.gen 1)}:=by
   unfold Th.dP Th.call
   rw [if_neg (by omega),if_neg (by omega),if_pos q]
   by_cases h0:x.word.slot=0
   ·simp [Th.with,RT.begin,Ca.of,Ca.zero,h0]
   ·simp [Th.with,RT.begin,Ca.of,Ca.zero,h0]
  rw [hb]
  refine ⟨own,H.calm hi H.self ?_ ?_ rfl (L.go rfl hk hs (fun h _=>on h (by omega)) (fun h=>(by simp [Th.with] at h)) (.inl ⟨rfl,rfl⟩)) (fun w hw=>hsn w ?_) (fun w hw=>(by cases hw)) (fun o b h=>(by cases h)) (fun w hw=>hpr w ?_) (dY (.inl (by simp only [RT.aW];omega)))⟩
  ·rw [oh];simp [q];rfl
  ·rw [oc];simp [q];rfl
  ·rw [os,if_pos q];exact hw
  ·rw [op];simpa [q,Th.cZ] using hw
 ·have ha:∃bd t,(T i).dP x={T i with pc:=4,bad:=bd,t:=t}∧((t=.ou∧(e=3∨e=5))∨t=.one ⟨4,0,0,0,Wd.zero,Wd.dG 0⟩):=by
   unfold Th.dP Th.call
   rw [if_neg (by omega),if_neg (by omega),if_neg (by omega),if_pos q]
   by_cases hd:(T i).l.bu
   ·exact ⟨(T i).bad || ((T i).old.slot != 0 && x.word.num != dV (T i).old),.ou,by simp [Th.with,RT.begin,Ca.of,Ca.zero,hd],.inl ⟨rfl,L.bu.1 hd⟩⟩
   ·exact ⟨(T i).bad || ((T i).old.slot != 0 && x.word.num != dV (T i).old),.one ⟨4,0,0,0,Wd.zero,Wd.dG 0⟩,by simp [Th.with,RT.begin,Ca.of,Ca.zero,hd,Wd.dG,Wd.zero],.inr rfl⟩
  obtain ⟨bd,t,hb,hh⟩:=ha
  rw [hb]
  have key:∀h':Th,h'={T i with pc:=4,bad:=bd,t:=t}→h'.hand=none∧h'.cut=none∧h'.snap=some (T i).old∧h'.full=none∧(∀C,h'.cZ C=none)∧Calm h'.t∧h'.sh e p.aB∧∀o b,h'.t≠.dU o b:=by
   rintro h' rfl
   rcases hh with ⟨rfl,e3⟩ | rfl
   ·exact ⟨rfl,rfl,rfl,rfl,fun _=>rfl,dY (.inl (by simp only [RT.aW];omega)),⟨rfl,e3⟩,fun _ _ h=>(by cases h)⟩
   ·exact ⟨rfl,rfl,rfl,rfl,fun _=>rfl,dY (.inl (by simp only [RT.aW];omega)),.inr (.inl ⟨rfl,0,rfl,by omega⟩),fun _ _ h=>(by cases h)⟩
  obtain ⟨k1,k2,k3,k4,k5,k6,k7,k8⟩:=key _ rfl
  refine ⟨own,H.calm hi H.self ?_ ?_ rfl (L.go rfl hk hs (fun h _=>on h (by omega)) (fun h=>(by simp [Th.with] at h)) k7) (fun w hw=>hsn w ?_) (fun w hw=>(by rw [k4] at hw;cases hw)) (fun o b h=>absurd h (k8 o b)) (fun w hw=>(by rw [k5] at hw;cases hw)) k6⟩
  ·rw [oh,k1];simp [q]
  ·rw [oc,k2];simp [q]
  ·rw [os,←hw,k3];simp [q]
 ·cases hx:x.ok with
  | false =>
   have hb:(T i).dP x=({T i with pc:=0}:Th).with (RT.leave (T i).l 0):=by
    unfold Th.dP Th.call
    rw [if_neg (by omega),if_neg (by omega),if_neg (by omega),if_neg (by omega),if_pos q,if_pos hx]
    simp [Th.with,RT.begin,Ca.of,Ca.zero]
   rw [hb]
   exact ⟨own,H.GR hi hk hs (by rw [oh];simp [q,hx]) (by rw [oc];simp [q]) _ rfl rfl rfl⟩
  | true =>
   have hb:(T i).dP x={T i with pc:=5,node:=x.word,t:=.one ⟨2,x.word.slot,x.word.gen,1,Wd.zero,Wd.dG (dV x.word)⟩}:=by
    unfold Th.dP Th.call
    rw [if_neg (by omega),if_neg (by omega),if_neg (by omega),if_neg (by omega),if_pos q,if_neg (by rw [hx];decide)]
    simp [Th.with,RT.begin,Ca.of,Ca.zero]
   rw [hb]
   refine ⟨own,H.calm hi H.self ?_ ?_ rfl (L.go rfl hk hs (fun h _=>on h (by omega)) (fun h=>(by simp [Th.with] at h)) (.inr (.inr (.inl ⟨rfl,rfl⟩)))) (fun w hw=>hsn w ?_) (fun w hw=>(by cases hw)) (fun o b h=>(by cases h)) (fun w hw=>(by cases hw)) (dY (.inl (by simp only [RT.aW];omega)))⟩
   ·rw [oh];simp [q,hx];rfl
   ·rw [oc];simp [q];rfl
   ·rw [os,←hw];simp [q];rfl
 ·have hb:(T i).dP x={T i with pc:=6,t:=.one ⟨3,0,0,0,(T i).old,⟨(T i).node.slot,(T i).node.gen,(T i).old.tag+1,0,false⟩⟩}:=by
   unfold Th.dP Th.call
   rw [if_neg (by omega),if_neg (by omega),if_neg (by omega),if_neg (by omega),if_neg (by omega),if_pos q]
   simp [Th.with,RT.begin,Ca.of,Ca.zero]
  rw [hb]
  refine ⟨own,H.calm hi H.self ?_ ?_ rfl (L.go rfl hk hs (fun h _=>on h (by omega)) (fun h=>(by simp [Th.with] at h)) (.inr (.inr (.inr (.inl ⟨rfl,rfl⟩))))) (fun w hw=>hsn w ?_) (fun w hw=>hfu w ?_) (fun o b h=>(by cases h)) (fun w hw=>(by cases hw)) (dY (.inl (by simp only [RT.aW];omega)))⟩
  ·rw [oh];simp [q];rfl
  ·rw [oc];simp [q];rfl
  ·rw [os,←hw];simp [q];rfl
  ·rw [of,←hw];simp [q];rfl
 ·cases hx:x.ok with
  | false =>
   have hb:(T i).dP x={T i with pc:=7,t:=.fin ⟨5,0,0,0,(T i).node,Wd.zero⟩}:=by
    unfold Th.dP Th.call
    rw [if_neg (by omega),if_neg (by omega),if_neg (by omega),if_neg (by omega),if_neg (by omega),if_neg (by omega),if_pos q,if_pos hx]
    simp [Th.with,RT.begin,Ca.of,Ca.zero]
   rw [hb]
   refine ⟨own,H.calm hi H.self ?_ ?_ rfl (L.go rfl hk hs (fun h _=>on h (by omega)) (fun h=>(by simp [Th.with] at h)) (.inr ⟨rfl,rfl⟩)) (fun w hw=>(by cases hw)) (fun w hw=>(by cases hw)) (fun o b h=>(by cases h)) (fun w hw=>(by cases hw)) (dY (.inl (by simp only [RT.aW];omega)))⟩
   ·rw [oh];simp [q,hx];rfl
   ·rw [oc];simp [q,hx];rfl
  | true =>
   have Qn:(T i).hand=none:=by rw [oh];simp [q,hx]
   by_cases h0:(T i).old.slot=0
   ·have hb:(T i).dP x={T i with pc:=7,t:=.one (Ac.load 0 0 0)}:=by
     unfold Th.dP Th.call
     rw [if_neg (by omega),if_neg (by omega),if_neg (by omega),if_neg (by omega),if_neg (by omega),if_neg (by omega),if_pos q,if_neg (by rw [hx];decide),if_pos h0]
     simp [Th.with,RT.begin,Ca.of,Ca.zero]
    rw [hb]
    refine ⟨own,H.calm hi H.self (by rw [Qn];rfl) ?_ rfl (L.go rfl hk hs (fun h _=>on h (by omega)) (fun h=>(by simp [Th.with] at h)) (.inr (.inr (.inr (.inr ⟨rfl,rfl⟩))))) (fun w hw=>(by cases hw)) (fun w hw=>(by cases hw)) (fun o b h=>(by cases h)) (fun w hw=>(by cases hw)) (dY (.inl (by simp only [RT.aW];omega)))⟩
    rw [oc];simp [h0];rfl
   ·have hoc:(T i).cut=some (T i).old:=by rw [oc];simp [q,hx,h0]
    have hb:(T i).dP x=({T i with pc:=7}:Th).with (RT.ed (T i).l (T i).old):=by
     unfold Th.dP Th.call
     rw [if_neg (by omega),if_neg (by omega),if_neg (by omega),if_neg (by omega),if_neg (by omega),if_neg (by omega),if_pos q,if_neg (by rw [hx];decide),if_neg h0]
     simp [Th.with,RT.begin,Ca.of,Ca.zero]
    rw [hb]
    have jT:=L.iA
    unfold RT.ed
    rcases (by have:=H.e5;omega:e=1∨e=2∨e=4∨(e=3∨e=5)) with r | r | r | r
    ·rw [if_neg (by omega),if_neg (by omega),if_neg (by omega)]
     exact H.S9 hi r hoc Qn.symm rfl rfl (L.go rfl hk hs (fun h _=>on h (by omega)) (fun h=>(by simp [Th.with] at h)) ⟨⟨(by simp [Th.with]),(by simp [Th.with])⟩,fun h=>(by simp [Th.with] at h)⟩) rfl rfl (fun _ _ h=>(by cases h)) (fun _=>rfl) (Calm.idle _)
    ·rw [if_pos (by omega)]
     have hn:∀h':Th,h'=({T i with pc:=7}:Th).with (RT.dn (RT.note (T i).l (T i).old 0 0))→h'.l=RT.note (T i).l (T i).old 0 0∧(h'.t=.idle Rp.yes∨h'.t=.bV Wd.zero [])∧h'.pc=7:=by
      rintro h' rfl
      rcases nT (l:=RT.note (T i).l (T i).old 0 0) with g | ⟨g,_⟩ | ⟨_,_,g⟩
      ·rw [g];exact ⟨rfl,.inl rfl,rfl⟩
      ·exact absurd (show (T i).l.aj=4 from g) (by omega)
      ·rw [g];exact ⟨rfl,.inr rfl,rfl⟩
     obtain ⟨n1,n2,n3⟩:=hn _ rfl
     generalize hg:({T i with pc:=7}:Th).with (RT.dn (RT.note (T i).l (T i).old 0 0))=h' at n1 n2 n3 ⊢
     have hloc:h'.Loc e n p i:=by
      refine ⟨?_,?_,?_,?_,?_,L.kz,?_,?_,?_,?_,L.b5,?_,?_,?_,?_,?_⟩
      all_goals try rw [n1]
      ·exact L.iA
      ·exact L.me
      ·exact L.nS
      ·exact L.most
      ·exact L.hz
      ·exact L.nk
      ·exact L.ns
      ·exact L.h3
      ·exact L.s5
      ·exact fun _=>L.kc hk
      ·exact fun _=>L.sc hs
      ·exact fun h _=>on h (by omega)
      ·exact fun h=>absurd h (by omega)
      ·unfold Th.sh
       rcases n2 with n2 | n2
       ·rw [n2]
        exact ⟨⟨by omega,by omega⟩,fun h=>by omega⟩
       ·rw [n2]
        refine ⟨.inr n3,by omega,?_,fun h=>by omega⟩
        rw [n1]
        exact L.nC H.n6
     have hcl:Calm h'.t:=by
      rcases n2 with n2 | n2
      ·rw [n2];exact Calm.idle _
      ·rw [n2];exact Calm.new _
     refine H.note hi H.self hoc (m:=⟨(T i).old.dK,0,0⟩) ⟨rfl,rfl⟩ ?_ ?_ (by rw [n1];rfl) hloc ?_ ?_ ?_ ?_ hcl (fun h=>by omega) (fun h=>absurd r h)
     ·rw [Qn]
      unfold Th.hand
      rcases n2 with n2 | n2
      ·rw [n2,n3];rfl
      ·rw [n2]
     ·unfold Th.cut
      rcases n2 with n2 | n2
      ·rw [n2,n3];rfl
      ·rw [n2]
     ·unfold Th.snap
      rcases n2 with n2 | n2
      ·rw [n2,n3];rfl
      ·rw [n2]
     ·unfold Th.full
      rcases n2 with n2 | n2
      ·rw [n2,n3];rfl
      ·rw [n2]
     ·intro o b hb
      rcases n2 with n2 | n2
      ·rw [n2] at hb;cases hb
      ·rw [n2] at hb;cases hb
     ·intro C
      unfold Th.cZ
      rcases n2 with n2 | n2
      ·rw [n2,n3];rfl
      ·rw [n2]
    ·rw [if_neg (by omega),if_pos (by omega)]
     exact ⟨own,H.calm hi H.self Qn.symm hoc.symm rfl (L.go rfl hk hs (fun h _=>on h (by omega)) (fun h=>(by simp [Th.with] at h)) ⟨rfl,.inr (.inl r)⟩) (fun w hw=>(by cases hw)) (fun w hw=>(by cases hw)) (fun o b h h4=>absurd r h4) (fun w hw=>(by cases hw)) (dY (.inl (by show (10:Int)<13;omega)))⟩
    ·rw [if_neg (by omega),if_neg (by omega),if_pos (by omega)]
     exact ⟨own,H.calm hi H.self Qn.symm hoc.symm rfl (L.go rfl hk hs (fun h _=>on h (by omega)) (fun h=>(by simp [Th.with] at h)) ⟨rfl,r⟩) (fun w hw=>(by cases hw)) (fun w hw=>(by cases hw)) (fun o b h h4=>(by cases h)) (fun w hw=>(by cases hw)) (dY (.inl (by show (9:Int)<13;omega)))⟩
 ·have hb:(T i).dP x=({T i with pc:=0}:Th).with (RT.leave (T i).l 0):=by
   unfold Th.dP Th.call
   rw [if_neg (by omega),if_neg (by omega),if_neg (by omega),if_neg (by omega),if_neg (by omega),if_neg (by omega),if_neg (by omega)]
   simp [Th.with,RT.begin,Ca.of,Ca.zero]
  rw [hb]
  exact ⟨own,H.GR hi hk hs (by rw [oh];simp [q]) (by rw [oc];simp [q]) _ rfl rfl rfl⟩
end
def PS.dh (p:PS) (k:Int) (b:Nat) (w:Wd):PS:={p with steps:=k,bd:=fun a=>if a=b then w else p.bd a}
def PS.NQ (p:PS) (k:Int) (s f:Nat) (w:Wd):PS:={p with steps:=k,cell:=fun i j=>if i=s∧j=f then w else p.cell i j}
section
variable {n:Nat} {e:Int} {p:PS} {T:Nat→Th} {own:Int→iy} {A:Nat→Int} {i:Nat} {h h':Th}
theorem Th.Loc.other {p':PS} (L:h.Loc e n p i) (hb:∀k,k<9→p'.bd (25+9 * i+k)=p.bd (25+9 * i+k)) (hs:p'.bd (79+i)=p.bd (79+i)) (hc:p.aB≤p'.aB):h.Loc e n p' i:=by
 have hb0:=hb 0 (by omega)
 rw [Nat.add_zero] at hb0
 refine ⟨L.iA,L.me,L.nS,L.most,L.hz,fun k h1 h2=>by rw [hb k h2];exact L.kz k h1 h2,?_,?_,?_,?_,?_,?_,?_,L.on,L.off,?_⟩
 ·rw [hb0];exact L.nk
 ·rw [hs];exact L.ns
 ·rw [hb0];intro e3;have:=L.h3 e3;omega
 ·rcases L.s5 with h | ⟨a,b,h1,h2,h3⟩
  ·exact .inl h
  ·exact .inr ⟨a,b,h1,h2,by omega⟩
 ·rw [hs]
  rcases L.b5 with h | ⟨a,b,h1,h2,h3⟩
  ·exact .inl h
  ·exact .inr ⟨a,b,h1,h2,by omega⟩
 ·rw [hb0];exact L.kc
 ·rw [hs];exact L.sc
 ·have hsh:=L.jN
  unfold Th.sh at hsh ⊢
  cases ht:h.t with
  | one a =>
   rw [ht] at hsh
   rcases hsh with h | ⟨h1,b,h2,h3⟩ | h
   ·exact .inl h
   ·exact .inr (.inl ⟨h1,b,h2,by omega⟩)
   ·exact .inr (.inr h)
  | jZ ck =>
   rw [ht] at hsh
   obtain ⟨h1,h2,c,h3,h4⟩:=hsh
   exact ⟨h1,h2,c,by omega,h4⟩
  | bV ck seen =>
   rw [ht] at hsh
   obtain ⟨h1,h2,h3,h4⟩:=hsh
   exact ⟨h1,h2,h3,fun e4=>by obtain ⟨c,h5,h6⟩:=h4 e4;exact ⟨c,by omega,h6⟩⟩
  | iE ck =>
   rw [ht] at hsh
   obtain ⟨h1,h2,c,h3,h4⟩:=hsh
   exact ⟨h1,h2,c,by omega,h4⟩
  | _=>rw [ht] at hsh;exact hsh
theorem Inv.Y8 (H:Inv n e p T own A) (hi:i<n) {k:Int} {b:Nat} {w0:Wd} (hok:(p.dh k b w0).OK) (hb:b=25+9 * i∨b=79+i) (h1:h'.hand=(T i).hand) (h2:h'.cut=(T i).cut)
  (h3:h'.l.notes=(T i).l.notes) (hl:h'.Loc e n (p.dh k b w0) i) (hs:h'.snap=none) (hf:h'.full=none) (hr:∀o b,h'.t≠.dU o b) (hp:∀C,h'.cZ C=none) (hcm:Calm h'.t)
  (hw:e=4→w0.num≤p.aB):Inv n e (p.dh k b w0) (bA T i h') own (bA A i p.aB):=by
 have h6:=H.n6
 have q0:(p.dh k b w0).bd 0=p.bd 0:=if_neg (by omega)
 have q24:(p.dh k b w0).bd 24=p.bd 24:=if_neg (by omega)
 have qc:(p.dh k b w0).aB=p.aB:=by unfold PS.aB;rw [q24]
 have qr:(p.dh k b w0).rt=p.rt:=by unfold PS.rt;rw [q0]
 have qk:∀j,j<n→j≠i→∀m,m<9→(p.dh k b w0).bd (25+9 * j+m)=p.bd (25+9 * j+m):=fun j hj hne m hm=>if_neg (by omega)
 have qs:∀j,j<n→j≠i→(p.dh k b w0).bd (79+j)=p.bd (79+j):=fun j hj hne=>if_neg (by omega)
 have qa:∀j,j<n→j≠i→ik e (p.dh k b w0) j=ik e p j:=fun j hj hne=>by
  unfold ik
  rw [show (p.dh k b w0).bd (25+9 * j)=p.bd (25+9 * j) from qk j hj hne 0 (by omega),qs j hj hne]
 refine ⟨hok,H.nb,H.gV,H.n6,H.e5,?_,?_,?_,?_,?_,?_,H.val,?_,?_,?_,?_,?_,?_⟩
 ·rw [q24,qc];exact H.clock
 ·rw [q0];exact H.root
 ·rw [qr]
  refine H.oi.same rfl ?_ ?_ ?_
  ·exact aD (P:=fun k (h:Th)=>h.hand=(T k).hand) h1 fun _ _=>rfl
  ·exact aD (P:=fun k (h:Th)=>h.cut=(T k).cut) h2 fun _ _=>rfl
  ·exact aD (P:=fun k (h:Th)=>h.l.notes=(T k).l.notes) h3 fun _ _=>rfl
 ·exact aD (P:=fun j (h:Th)=>j<n→h.Loc e n (p.dh k b w0) j) (fun _=>hl) fun j hj hjn=>(H.loc j hjn).other (qk j hjn hj) (qs j hjn hj) (by rw [qc];exact Int.le_refl _)
 ·exact aD (P:=fun k (h:Th)=>n≤k→h.hand=none∧h.cut=none∧h.l.notes=[]) (fun h=>absurd hi (Nat.not_lt.2 h)) fun k _=>H.rest k
 ·rw [q0]
  exact aD (P:=fun k (h:Th)=>k<n→∀w,h.snap=some w→w.tag≤(p.bd 0).tag∧(w.tag=(p.bd 0).tag→w=p.bd 0)) (fun _ w hw=>by rw [hs] at hw;cases hw) fun k _=>H.snap k
 ·exact aD (P:=fun k (h:Th)=>k<n→∀w,h.full=some w→(p.cell (w.slot-1).toNat 1).num=dV w) (fun _ w hw=>by rw [hf] at hw;cases hw) fun k _=>H.full k
 ·rw [qc];exact H.aX
 ·rw [qc]
  exact aD (P:=fun k (h:Th)=>∀m∈h.l.notes,(e=3∨e=5→m.aX=p.aX m.ref.slot)∧(e≠2→m.cO≤p.aB)) (by rw [h3];exact H.cO i) fun k _=>H.cO k
 ·exact aD (P:=fun k (h:Th)=>k<n→∀o b,h.t=.dU o b→e≠4→b=p.aX o.slot) (fun _ o b hb=>absurd hb (hr o b)) fun k _=>H.rb k
 ·rw [qc]
  refine aD (P:=fun j (h:Th)=>j<n→∀w,h.cZ p.aB=some w→(own w.slot).rC∧p.gen (w.slot-1).toNat=w.gen∧qD e (p.dh k b w0) (bA T i h') (bA A i p.aB) j w.slot) (fun _ w hw=>by rw [hp] at hw;cases hw) fun j hj hjn w hw=>?_
  obtain ⟨a1,b1,c1,d1⟩:=H.held j hjn w hw
  refine ⟨a1,b1,by rw [qa j hjn hj];exact c1,?_⟩
  rw [qa j hjn hj,aY _ _ hj]
  exact aD (P:=fun _ (h:Th)=>NK e (ik e p j) (A j) (jI e j) h w.slot) ((d1 i).calm h3 hcm) fun j _=>d1 j
 ·intro e4 j hj hm
  rw [qc]
  by_cases hji:j=i
  ·subst hji
   rw [aF]
   refine ⟨⟨?_,Int.le_refl _,by omega⟩,fun hc=>by omega⟩
   by_cases hbb:b=79+j
   ·rw [show (p.dh k b w0).bd (79+j)=w0 from if_pos hbb.symm]
    exact hw e4
   ·have hb0:(p.dh k b w0).bd (79+j)=p.bd (79+j):=if_neg (fun h=>hbb h.symm)
    rw [hb0] at hm ⊢
    have:=(H.ep e4 j hj hm).1
    omega
  ·rw [qs j hj hji] at hm ⊢
   obtain ⟨a1,b1⟩:=H.ep e4 j hj hm
   rw [aY _ _ hji]
   exact ⟨a1,fun hc=>aD (P:=fun k (h:Th)=>k<n→kR p.aB j h) (fun _=>kR.calm hcm) fun k _ hk=>b1 hc k hk⟩
theorem Qo (L:h.Loc e n p i) {C:Int} (hC:p.aB<C) (he:1≤e∧e≤5) {w:Wd} (hw:h.cZ C=some w):h.cZ p.aB=some w:=by
 unfold Th.cZ at hw ⊢
 cases ht:h.t with
 | ji c v =>
  rw [ht] at hw
  simp only at hw
  by_cases g:v.slot≠0∧RT.bZ h.l 0 C
  ·exfalso
   have hsh:=L.jN
   unfold Th.sh at hsh
   rw [ht] at hsh
   obtain ⟨g1,g2,g3⟩:=hsh
   have g4:=g.2
   unfold RT.bZ at g4
   rcases g3 with g3 | g3
   ·rw [if_pos (by rw [L.iA];exact g3)] at g4
    have:=(L.h3 g3).1
    have:=g4.2
    simp only [Int.toNat_zero] at this
    omega
   ·rw [if_neg (by rw [L.iA];omega)] at g4
    rcases L.s5 with h | ⟨a,b,h1,h2,h3⟩
    ·rw [h] at g4;exact absurd g4.1 (by decide)
    ·rw [h1] at g4
     have:b=C:=g4.2
     omega
  ·rw [if_neg g] at hw;cases hw
 | _=>rw [ht] at hw;exact hw
theorem Inv.tick (H:Inv n e p T own A) (hi:i<n) {k:Int} (hok:(p.dh k 24 (dW (p.aB+1))).OK) (h1:h'.hand=(T i).hand) (h2:h'.cut=(T i).cut)
  (h3:h'.l.notes=(T i).l.notes) (hl:h'.Loc e n p i) (hs:h'.snap=none) (hf:h'.full=none) (hr:∀o b,h'.t≠.dU o b) (hp:∀C,h'.cZ C=none) (hcm:Calm h'.t)
  (ha:e=4→(T i).t=.iE (dW p.aB)):Inv n e (p.dh k 24 (dW (p.aB+1))) (bA T i h') own A:=by
 have h6:=H.n6
 have q0:(p.dh k 24 (dW (p.aB+1))).bd 0=p.bd 0:=by simp [PS.dh]
 have q24:(p.dh k 24 (dW (p.aB+1))).bd 24=dW (p.aB+1):=by simp [PS.dh]
 have qc:(p.dh k 24 (dW (p.aB+1))).aB=p.aB+1:=by rw [PS.aB,q24];rfl
 have qr:(p.dh k 24 (dW (p.aB+1))).rt=p.rt:=by unfold PS.rt;rw [q0]
 have qk:∀j m,(p.dh k 24 (dW (p.aB+1))).bd (25+9 * j+m)=p.bd (25+9 * j+m):=fun j m=>if_neg (by omega)
 have qs:∀j,(p.dh k 24 (dW (p.aB+1))).bd (79+j)=p.bd (79+j):=fun j=>if_neg (by omega)
 have qa:∀j,ik e (p.dh k 24 (dW (p.aB+1))) j=ik e p j:=fun j=>by
  unfold ik
  rw [show (p.dh k 24 (dW (p.aB+1))).bd (25+9 * j)=p.bd (25+9 * j) from qk j 0,qs j]
 have hL:∀j,j<n→∀h:Th,h.Loc e n p j→h.Loc e n (p.dh k 24 (dW (p.aB+1))) j:=fun j hj h L=>L.other (fun m _=>qk j m) (qs j) (by rw [qc];omega)
 refine ⟨hok,H.nb,H.gV,H.n6,H.e5,?_,?_,?_,?_,?_,?_,H.val,?_,?_,?_,?_,?_,?_⟩
 ·rw [q24,qc];exact ⟨rfl,by have:=H.clock.2;omega⟩
 ·rw [q0];exact H.root
 ·rw [qr]
  refine H.oi.same rfl ?_ ?_ ?_
  ·exact aD (P:=fun k (h:Th)=>h.hand=(T k).hand) h1 fun _ _=>rfl
  ·exact aD (P:=fun k (h:Th)=>h.cut=(T k).cut) h2 fun _ _=>rfl
  ·exact aD (P:=fun k (h:Th)=>h.l.notes=(T k).l.notes) h3 fun _ _=>rfl
 ·exact aD (P:=fun j (h:Th)=>j<n→h.Loc e n (p.dh k 24 (dW (p.aB+1))) j) (fun hj=>hL i hj _ hl) fun j hj hjn=>hL j hjn _ (H.loc j hjn)
 ·exact aD (P:=fun k (h:Th)=>n≤k→h.hand=none∧h.cut=none∧h.l.notes=[]) (fun h=>absurd hi (Nat.not_lt.2 h)) fun k _=>H.rest k
 ·rw [q0]
  exact aD (P:=fun k (h:Th)=>k<n→∀w,h.snap=some w→w.tag≤(p.bd 0).tag∧(w.tag=(p.bd 0).tag→w=p.bd 0)) (fun _ w hw=>by rw [hs] at hw;cases hw) fun k _=>H.snap k
 ·exact aD (P:=fun k (h:Th)=>k<n→∀w,h.full=some w→(p.cell (w.slot-1).toNat 1).num=dV w) (fun _ w hw=>by rw [hf] at hw;cases hw) fun k _=>H.full k
 ·rw [qc]
  intro s hs
  have:p.aX s≤p.aB:=H.aX s hs
  show p.aX s≤p.aB+1
  omega
 ·rw [qc]
  have:∀j,∀m∈(T j).l.notes,(e=3∨e=5→m.aX=p.aX m.ref.slot)∧(e≠2→m.cO≤p.aB+1):=fun j m hm=>by
   obtain ⟨a1,a2⟩:=H.cO j m hm
   exact ⟨a1,fun h=>by have:=a2 h;omega⟩
  exact aD (P:=fun k (h:Th)=>∀m∈h.l.notes,(e=3∨e=5→m.aX=p.aX m.ref.slot)∧(e≠2→m.cO≤p.aB+1)) (by rw [h3];exact this i) fun k _=>this k
 ·exact aD (P:=fun k (h:Th)=>k<n→∀o b,h.t=.dU o b→e≠4→b=p.aX o.slot) (fun _ o b hb=>absurd hb (hr o b)) fun k _=>H.rb k
 ·rw [qc]
  refine aD (P:=fun j (h:Th)=>j<n→∀w,h.cZ (p.aB+1)=some w→(own w.slot).rC∧p.gen (w.slot-1).toNat=w.gen∧qD e (p.dh k 24 (dW (p.aB+1))) (bA T i h') A j w.slot) (fun _ w hw=>by rw [hp] at hw;cases hw) fun j hj hjn w hw=>?_
  obtain ⟨a1,b1,c1,d1⟩:=H.held j hjn w (Qo (H.loc j hjn) (by omega) H.e5 hw)
  refine ⟨a1,b1,by rw [qa j];exact c1,?_⟩
  rw [qa j]
  exact aD (P:=fun _ (h:Th)=>NK e (ik e p j) (A j) (jI e j) h w.slot) ((d1 i).calm h3 hcm) fun j _=>d1 j
 ·intro e4 j hj hm
  rw [qs j] at hm ⊢
  obtain ⟨a1,b1⟩:=H.ep e4 j hj hm
  rw [qc]
  have hne:p.aB≠A j+1:=fun hc=>(b1 hc i hi).2 _ (ha e4) rfl
  refine ⟨by omega,fun hc=>?_⟩
  refine aD (P:=fun k (h:Th)=>k<n→kR (p.aB+1) j h) (fun _=>kR.calm hcm) fun m _ hm=>?_
  have Lm:=(H.loc m hm).jN
  unfold Th.sh at Lm
  refine ⟨fun ck seen ht hck x hx=>?_,fun ck ht hck=>?_⟩
  ·exfalso
   rw [ht] at Lm
   obtain ⟨c,c1,c2⟩:=Lm.2.2.2 e4
   rw [c2] at hck
   have:c=p.aB+1:=hck
   omega
  ·rw [ht] at Lm
   obtain ⟨c,c1,c2⟩:=Lm.2.2
   rw [c2] at hck
   have:c=p.aB+1:=hck
   omega
end
def PS.XI (p:PS) (k nf made:Int) (w0:Wd) (b:Int):PS :=
 {p with steps:=k,nf:=nf,made:=made,gen:=fun i=>if i=(w0.slot-1).toNat then w0.gen else p.gen i,used:=fun i=>if i=(w0.slot-1).toNat then true else p.used i,
          cell:=fun i j=>if i=(w0.slot-1).toNat∧j<10 then oL b j else p.cell i j}
def PS.J8 (p:PS) (k nf:Int) (fr:Nat→Int) (s:Int):PS:={p with steps:=k,nf:=nf,fr:=fr,used:=fun i=>if i=(s-1).toNat then false else p.used i}
theorem zS {h:Th} {w:Wd} (hw:h.full=some w):h.hand=some w:=by
 unfold Th.full at hw
 unfold Th.hand
 cases ht:h.t with
 | idle x =>
  rw [ht] at hw
  simp only at hw ⊢
  by_cases g:h.pc=5
  ·rw [if_pos g] at hw;rw [if_neg (by omega),if_pos g];exact hw
  ·rw [if_neg g] at hw;cases hw
 | one a =>
  rw [ht] at hw
  simp only at hw ⊢
  by_cases g:h.pc=6
  ·rw [if_pos g] at hw;rw [if_pos (.inr g)];exact hw
  ·rw [if_neg g] at hw;cases hw
 | _=>rw [ht] at hw;cases hw
theorem Ta {h:Th} {o:Wd} {b:Int} (ht:h.t=.dU o b):h.cut=some o:=by unfold Th.cut;rw [ht]
section
variable {n:Nat} {e:Int} {p p':PS} {T:Nat→Th} {own:Int→iy} {A:Nat→Int} {i:Nat} {h h':Th}
theorem Th.Loc.same (L:h.Loc e n p i) (hb:p'.bd=p.bd):h.Loc e n p' i :=
 L.other (fun _ _=>by rw [hb]) (by rw [hb]) (by unfold PS.aB;rw [hb];exact Int.le_refl _)
theorem Inv.slot (H:Inv n e p T own A) (hi:i<n) (s0:Int) {o0 o1:iy} (hs0:1≤s0) (hown:own s0=o0) (hok:p'.OK) (hnb:p'.nb=p.nb) (hns:p'.ns=p.ns) (hgood:p'.gV=p.gV) (hbd:p'.bd=p.bd)
  (XJ:∀s,1≤s→s≠s0→p'.gen (s-1).toNat=p.gen (s-1).toNat) (hcell:∀s f,1≤s→s≠s0→p'.cell (s-1).toNat f=p.cell (s-1).toNat f)
  (hoi:OI e p.ns p'.used p'.gen p.rt (fun j=>(bA T i h' j).hand) (fun j=>(bA T i h' j).cut) (fun j=>(bA T i h' j).l.notes) (fun s=>if s=s0 then o1 else own s))
  (ho:o0=.free∨o0=.hand i∨o0=.note i) (ho1:∀j,j≠i→o1≠.hand j) (hl:h'.Loc e n p i) (hs:h'.snap=none∨h'.snap=(T i).snap) (hr:∀o b,h'.t≠.dU o b) (hp:∀C,h'.cZ C=none)
  (hnp:∀j,j<n→j≠i→∀w,(T j).cZ p.aB=some w→w.slot≠s0)
  (hval:o1.rC→(p'.cell (s0-1).toNat 1).num=s0+2000 * p'.gen (s0-1).toNat) (hfull:∀w,h'.full=some w→(p'.cell (w.slot-1).toNat 1).num=dV w) (XK:o1≠.free→p'.aX s0≤p.aB)
  (XL:∀m∈h'.l.notes,m∈(T i).l.notes∧m.ref.slot≠s0) (XF:∀j,j<n→j≠i→∀s,s≠s0→NK e (ik e p j) (A j) (jI e j) (T i) s→NK e (ik e p j) (A j) (jI e j) h' s)
  (XG:∀j,kR p.aB j (T i)→kR p.aB j h'):Inv n e p' (bA T i h') (fun s=>if s=s0 then o1 else own s) A:=by
 have qc:p'.aB=p.aB:=by unfold PS.aB;rw [hbd]
 have qr:p'.rt=p.rt:=by unfold PS.rt;rw [hbd]
 have qa:∀j,ik e p' j=ik e p j:=fun j=>by unfold ik;rw [hbd]
 have qb:∀s,1≤s→s≠s0→p'.aX s=p.aX s:=fun s h1 h2=>by unfold PS.aX;rw [hcell s 9 h1 h2]
 have jS:∀s,own s≠.free→1≤s:=fun s h=>(H.oi.out s h).1
 have DT:∀j,j≠i→∀w,(T j).hand=some w→1≤w.slot∧w.slot≠s0:=fun j hj w hw=>by
  obtain ⟨r1,r2,r3,r4,r5⟩:=H.oi.jS (o:=.hand j) (w:=w) hw
  refine ⟨r1,fun he=>?_⟩
  rw [he,hown] at r5
  rcases ho with h | h | h
  ·rw [h] at r5;cases r5
  ·rw [h] at r5;cases r5;exact hj rfl
  ·rw [h] at r5;cases r5
 refine ⟨hok,by rw [hnb];exact H.nb,by rw [hgood];exact H.gV,H.n6,H.e5,by rw [qc,hbd];exact H.clock,by rw [hbd];exact H.root,by rw [hns,qr];exact hoi,?_,?_,?_,?_,?_,?_,?_,?_,?_,?_⟩
 ·exact aD (P:=fun j (h:Th)=>j<n→h.Loc e n p' j) (fun _=>hl.same hbd) fun j _ hjn=>(H.loc j hjn).same hbd
 ·exact aD (P:=fun k (h:Th)=>n≤k→h.hand=none∧h.cut=none∧h.l.notes=[]) (fun h=>absurd hi (Nat.not_lt.2 h)) fun k _=>H.rest k
 ·rw [hbd]
  refine aD (P:=fun k (h:Th)=>k<n→∀w,h.snap=some w→w.tag≤(p.bd 0).tag∧(w.tag=(p.bd 0).tag→w=p.bd 0)) (fun _ w hw=>?_) fun k _=>H.snap k
  rcases hs with hs | hs
  ·rw [hs] at hw;cases hw
  ·rw [hs] at hw;exact H.snap i hi w hw
 ·intro s hs'
  by_cases hx:s=s0
  ·simp only [if_pos hx] at hs'
   rw [hx];exact hval hs'
  ·simp only [if_neg hx] at hs'
   have h1:=jS s hs'.1
   rw [hcell s 1 h1 hx,XJ s h1 hx]
   exact H.val s hs'
 ·refine aD (P:=fun k (h:Th)=>k<n→∀w,h.full=some w→(p'.cell (w.slot-1).toNat 1).num=dV w) (fun _=>hfull) fun k hk hkn w hw=>?_
  obtain ⟨h1,h2⟩:=DT k hk w (zS hw)
  rw [hcell _ 1 h1 h2]
  exact H.full k hkn w hw
 ·intro s hs'
  rw [qc]
  by_cases hx:s=s0
  ·simp only [if_pos hx] at hs'
   rw [hx];exact XK hs'
  ·simp only [if_neg hx] at hs'
   rw [qb s (jS s hs') hx]
   exact H.aX s hs'
 ·rw [qc]
  have hm:∀j,∀m∈(T j).l.notes,m.ref.slot≠s0→(e=3∨e=5→m.aX=p'.aX m.ref.slot)∧(e≠2→m.cO≤p.aB):=fun j m hm hne=>by
   obtain ⟨r1,r2,r3,r4,r5⟩:=H.oi.jS (o:=.note j) (w:=m.ref) ⟨m,hm,rfl⟩
   rw [qb _ r1 hne]
   exact H.cO j m hm
  refine aD (P:=fun k (h:Th)=>∀m∈h.l.notes,(e=3∨e=5→m.aX=p'.aX m.ref.slot)∧(e≠2→m.cO≤p.aB)) (fun m hx=>?_) fun k hk m hx=>?_
  ·obtain ⟨h1,h2⟩:=XL m hx
   exact hm i m h1 h2
  ·refine hm k m hx fun he=>?_
   obtain ⟨r1,r2,r3,r4,r5⟩:=H.oi.jS (o:=.note k) (w:=m.ref) ⟨m,hx,rfl⟩
   rw [he,hown] at r5
   rcases ho with h | h | h
   ·rw [h] at r5;cases r5
   ·rw [h] at r5;cases r5
   ·rw [h] at r5;cases r5;exact hk rfl
 ·refine aD (P:=fun k (h:Th)=>k<n→∀o b,h.t=.dU o b→e≠4→b=p'.aX o.slot) (fun _ o b hb=>absurd hb (hr o b)) fun k hk hkn o b hb h4=>?_
  have hc:=Ta hb
  obtain ⟨r1,r2,r3,r4,r5⟩:=H.oi.jS (o:=.cut k) (w:=o) hc
  rw [qb _ r1 (fun he=>by
    rw [he,hown] at r5
    rcases ho with h | h | h
    · rw [h] at r5;cases r5
    · rw [h] at r5;cases r5
    · rw [h] at r5;cases r5)]
  exact H.rb k hkn o b hb h4
 ·rw [qc]
  refine aD (P:=fun k (h:Th)=>k<n→∀w,h.cZ p.aB=some w→(if w.slot=s0 then o1 else own w.slot).rC∧p'.gen (w.slot-1).toNat=w.gen∧qD e p' (bA T i h') A k w.slot) (fun _ w hw=>by rw [hp] at hw;cases hw) fun k hk hkn w hw=>?_
  obtain ⟨a1,b1,c1,d1⟩:=H.held k hkn w hw
  have hne:=hnp k hkn hk w hw
  have h1:=jS _ a1.1
  refine ⟨by rw [if_neg hne];exact a1,by rw [XJ _ h1 hne];exact b1,by rw [qa,qb _ h1 hne];exact c1,?_⟩
  rw [qa]
  exact aD (P:=fun _ (h:Th)=>NK e (ik e p k) (A k) (jI e k) h w.slot) (XF k hkn hk _ hne (d1 i)) fun j _=>d1 j
 ·rw [hbd,qc]
  intro e4 j hj hm
  obtain ⟨a1,b1⟩:=H.ep e4 j hj hm
  exact ⟨a1,fun hc=>aD (P:=fun k (h:Th)=>k<n→kR p.aB j h) (fun _=>XG j (b1 hc i hi)) fun k _ hk=>b1 hc k hk⟩
theorem Inv.alloc (H:Inv n e p T own A) (hi:i<n) {k nf made:Int} {w0:Wd} {b:Int} (hok:(p.XI k nf made w0 b).OK) (hs:1≤w0.slot∧w0.slot≤p.ns) (hu:p.used (w0.slot-1).toNat=false) (hb:b≤p.aB)
  (h0:(T i).hand=none) (h1:h'.hand=some w0) (h2:h'.cut=(T i).cut) (h3:h'.l.notes=(T i).l.notes) (hl:h'.Loc e n p i) (hsn:h'.snap=(T i).snap) (hf:h'.full=none) (hr:∀o b,h'.t≠.dU o b) (hp:∀C,h'.cZ C=none) (hcm:Calm h'.t) :
  ∃own',Inv n e (p.XI k nf made w0 b) (bA T i h') own' A:=by
 have hown:own w0.slot=.free:=by
  by_cases h:own w0.slot=.free
  ·exact h
  ·have:=(H.oi.used w0.slot hs.1 hs.2).2 h
   rw [hu] at this;cases this
 have hoi:=H.oi.alloc (i:=i) w0 hs hu h0
 refine ⟨fun s=>if s=w0.slot then .hand i else own s,H.slot hi w0.slot hs.1 hown hok rfl rfl rfl rfl (fun s q1 q2=>if_neg (by omega)) (fun s f q1 q2=>if_neg (by omega)) ?_ (.inl rfl) (fun j hj h=>hj (by cases h;rfl)) hl (.inr hsn) hr hp ?_ ?_ ?_ ?_ ?_ ?_ ?_⟩
 ·refine hoi.same rfl ?_ ?_ ?_
  ·refine aD (P:=fun k (h:Th)=>h.hand=bA (fun i=>(T i).hand) i (some w0) k) ?_ fun k hk=>?_
   ·rw [aF,h1]
   ·rw [aY _ _ hk]
  ·exact aD (P:=fun k (h:Th)=>h.cut=(T k).cut) h2 fun _ _=>rfl
  ·exact aD (P:=fun k (h:Th)=>h.l.notes=(T k).l.notes) h3 fun _ _=>rfl
 ·intro j hj _ w hw he
  have:=(H.held j hj w hw).1.1
  rw [he,hown] at this
  exact this rfl
 ·exact fun h=>absurd rfl (h.2 i)
 ·exact fun w hw=>by rw [hf] at hw;cases hw
 ·intro _
  show (if _∧_ then _ else _:Wd).num≤_
  rw [if_pos ⟨rfl,by omega⟩]
  exact hb
 ·intro m hm
  rw [h3] at hm
  refine ⟨hm,fun he=>?_⟩
  obtain ⟨r1,r2,r3,r4,r5⟩:=H.oi.jS (o:=.note i) (w:=m.ref) ⟨m,hm,rfl⟩
  rw [he,hown] at r5
  cases r5
 ·exact fun j _ _ s _ h=>h.calm h3 hcm
 ·exact fun j _=>kR.calm hcm
theorem Inv.fill (H:Inv n e p T own A) (hi:i<n) {k:Int} {w0:Wd} (hok:(p.NQ k (w0.slot-1).toNat 1 (Wd.dG (dV w0))).OK) (h0:(T i).hand=some w0) (h1:h'.hand=some w0) (h2:h'.cut=(T i).cut) (h3:h'.l.notes=(T i).l.notes) (hl:h'.Loc e n p i)
  (hsn:h'.snap=(T i).snap) (hf:h'.full=some w0) (hr:∀o b,h'.t≠.dU o b) (hp:∀C,h'.cZ C=none) (hcm:Calm h'.t) :
  ∃own',Inv n e (p.NQ k (w0.slot-1).toNat 1 (Wd.dG (dV w0))) (bA T i h') own' A:=by
 obtain ⟨r1,r2,r3,r4,r5⟩:=H.oi.jS (o:=.hand i) (w:=w0) h0
 refine ⟨_,H.slot hi w0.slot (o1:=.hand i) r1 r5 hok rfl rfl rfl rfl (fun s q1 q2=>rfl) (fun s f q1 q2=>if_neg (by omega)) ?_ (.inr (.inl rfl)) (fun j hj h=>hj (by cases h;rfl)) hl (.inr hsn) hr hp ?_ ?_ ?_ ?_ ?_ ?_ ?_⟩
 ·have:(fun s=>if s=w0.slot then iy.hand i else own s)=own:=funext fun s=>by
   by_cases hx:s=w0.slot
   ·rw [if_pos hx,hx,r5]
   ·rw [if_neg hx]
  rw [this]
  refine H.oi.same rfl ?_ ?_ ?_
  ·exact aD (P:=fun k (h:Th)=>h.hand=(T k).hand) (by rw [h1,h0]) fun _ _=>rfl
  ·exact aD (P:=fun k (h:Th)=>h.cut=(T k).cut) h2 fun _ _=>rfl
  ·exact aD (P:=fun k (h:Th)=>h.l.notes=(T k).l.notes) h3 fun _ _=>rfl
 ·intro j hj _ w hw he
  have:=(H.held j hj w hw).1.2 i
  rw [he,r5] at this
  exact this rfl
 ·exact fun h=>absurd rfl (h.2 i)
 ·intro w hw
  rw [hf] at hw
  cases hw
  show (if _∧_ then _ else _:Wd).num=_
  rw [if_pos ⟨rfl,rfl⟩]
  rfl
 ·intro _
  show (if _∧_ then _ else _:Wd).num≤_
  rw [if_neg (by omega)]
  exact H.aX _ (by rw [r5];simp)
 ·intro m hm
  rw [h3] at hm
  refine ⟨hm,fun he=>?_⟩
  obtain ⟨q1,q2,q3,q4,q5⟩:=H.oi.jS (o:=.note i) (w:=m.ref) ⟨m,hm,rfl⟩
  rw [he,r5] at q5
  cases q5
 ·exact fun j _ _ s _ h=>h.calm h3 hcm
 ·exact fun j _=>kR.calm hcm
theorem Inv.drop (H:Inv n e p T own A) (hi:i<n) {k nf:Int} {fr:Nat→Int} {w0:Wd} (hok:(p.J8 k nf fr w0.slot).OK) (h0:(T i).hand=some w0) (h1:h'.hand=none) (h2:h'.cut=(T i).cut) (h3:h'.l.notes=(T i).l.notes) (hl:h'.Loc e n p i)
  (hsn:h'.snap=none) (hf:h'.full=none) (hr:∀o b,h'.t≠.dU o b) (hp:∀C,h'.cZ C=none) (hcm:Calm h'.t) :
  ∃own',Inv n e (p.J8 k nf fr w0.slot) (bA T i h') own' A:=by
 obtain ⟨r1,r2,r3,r4,r5⟩:=H.oi.jS (o:=.hand i) (w:=w0) h0
 have hoi:=H.oi.drop (i:=i) h0
 refine ⟨_,H.slot hi w0.slot (o1:=.free) r1 r5 hok rfl rfl rfl rfl (fun s q1 q2=>rfl) (fun s f q1 q2=>rfl) ?_ (.inr (.inl rfl)) (fun j hj h=>by cases h) hl (.inl hsn) hr hp ?_ ?_ ?_ ?_ ?_ ?_ ?_⟩
 ·refine hoi.same rfl ?_ ?_ ?_
  ·refine aD (P:=fun k (h:Th)=>h.hand=bA (fun i=>(T i).hand) i none k) ?_ fun k hk=>?_
   ·rw [aF,h1]
   ·rw [aY _ _ hk]
  ·exact aD (P:=fun k (h:Th)=>h.cut=(T k).cut) h2 fun _ _=>rfl
  ·exact aD (P:=fun k (h:Th)=>h.l.notes=(T k).l.notes) h3 fun _ _=>rfl
 ·intro j hj _ w hw he
  have:=(H.held j hj w hw).1.2 i
  rw [he,r5] at this
  exact this rfl
 ·exact fun h=>absurd rfl h.1
 ·exact fun w hw=>by rw [hf] at hw;cases hw
 ·exact fun h=>absurd rfl h
 ·intro m hm
  rw [h3] at hm
  refine ⟨hm,fun he=>?_⟩
  obtain ⟨q1,q2,q3,q4,q5⟩:=H.oi.jS (o:=.note i) (w:=m.ref) ⟨m,hm,rfl⟩
  rw [he,r5] at q5
  cases q5
 ·exact fun j _ _ s _ h=>h.calm h3 hcm
 ·exact fun j _=>kR.calm hcm
theorem Inv.fw (H:Inv n e p T own A) (hi:i<n) {k nf:Int} {fr:Nat→Int} {d:Nt} {r:List Nt} (hok:(p.J8 k nf fr d.ref.slot).OK) (ht:(T i).t=.fe d r) (hd:d∈(T i).l.notes) (h1:h'.hand=none) (h2:h'.cut=none)
  (h3:h'.l.notes=(T i).l.notes.erase d) (hl:h'.Loc e n p i) (hsn:h'.snap=none) (hf:h'.full=none) (hr:∀o b,h'.t≠.dU o b) (hp:∀C,h'.cZ C=none) (h4:(r=[]∧∃x,h'.t=.idle x)∨∃d' r',r=d' :: r'∧h'.t=.fe d' r') :
  ∃own',Inv n e (p.J8 k nf fr d.ref.slot) (bA T i h') own' A:=by
 obtain ⟨r1,r2,r3,r4,r5⟩:=H.oi.jS (o:=.note i) (w:=d.ref) ⟨d,hd,rfl⟩
 have hoi:=H.oi.fw (i:=i) hd
 have g1:(T i).hand=none:=by unfold Th.hand;rw [ht]
 have g2:(T i).cut=none:=by unfold Th.cut;rw [ht]
 have hnd:=lF (H.oi.pU i)
 refine ⟨_,H.slot hi d.ref.slot (o1:=.free) r1 r5 hok rfl rfl rfl rfl (fun s q1 q2=>rfl) (fun s f q1 q2=>rfl) ?_ (.inr (.inr rfl)) (fun j hj h=>by cases h) hl (.inl hsn) hr hp ?_ ?_ ?_ ?_ ?_ ?_ ?_⟩
 ·refine hoi.same rfl ?_ ?_ ?_
  ·exact aD (P:=fun k (h:Th)=>h.hand=(T k).hand) (by rw [h1,g1]) fun _ _=>rfl
  ·exact aD (P:=fun k (h:Th)=>h.cut=(T k).cut) (by rw [h2,g2]) fun _ _=>rfl
  ·refine aD (P:=fun k (h:Th)=>h.l.notes=bA (fun i=>(T i).l.notes) i ((T i).l.notes.erase d) k) ?_ fun k hk=>?_
   ·rw [aF,h3]
   ·rw [aY _ _ hk]
 ·intro j hj _ w hw he
  have:=((H.held j hj w hw).2.2.2 i d hd he.symm).2.1 d r ht
  exact this.1 rfl
 ·exact fun h=>absurd rfl h.1
 ·exact fun w hw=>by rw [hf] at hw;cases hw
 ·exact fun h=>absurd rfl h
 ·intro m hm
  rw [h3,hnd.mem_erase_iff] at hm
  exact ⟨hm.2,fun he=>hm.1 (uU (H.oi.pU i) hm.2 hd he)⟩
 ·intro j _ _ s hs hn m hm hms
  rw [h3,hnd.mem_erase_iff] at hm
  obtain ⟨a1,a2,a3⟩:=hn m hm.2 hms
  refine ⟨a1,fun d' r' ht'=>?_,fun ck seen ht'=>?_⟩
  ·obtain ⟨b1,b2⟩:=a2 d r ht
   rcases h4 with ⟨-,x,hx⟩ | ⟨d2,r2,e1,e2⟩
   ·rw [hx] at ht';cases ht'
   ·rw [e2] at ht'
    cases ht'
    rw [e1] at b2
    exact ⟨fun h=>b2 (by rw [h];exact List.mem_cons_self ..),fun h=>b2 (List.mem_cons_of_mem _ h)⟩
  ·rcases h4 with ⟨-,x,hx⟩ | ⟨d2,r2,e1,e2⟩
   ·rw [hx] at ht';cases ht'
   ·rw [e2] at ht';cases ht'
 ·intro j _
  rcases h4 with ⟨-,x,hx⟩ | ⟨d2,r2,e1,e2⟩
  ·exact ⟨fun ck seen h=>(by rw [hx] at h;cases h),fun ck h=>(by rw [hx] at h;cases h)⟩
  ·exact ⟨fun ck seen h=>(by rw [e2] at h;cases h),fun ck h=>(by rw [e2] at h;cases h)⟩
theorem Inv.swap (H:Inv n e p T own A) (hi:i<n) {k:Int} {nd w1:Wd} (hok:(p.dh k 0 w1).OK) (hw1:w1.slot=nd.slot∧w1.gen=nd.gen∧w1.num=0∧w1.mark=false∧(p.bd 0).tag<w1.tag) (h0:(T i).full=some nd) (hc0:(T i).cut=none)
  (h1:h'.hand=none) (h2:h'.cut=p.rt) (h3:h'.l.notes=(T i).l.notes) (hl:h'.Loc e n p i) (hsn:h'.snap=none) (hf:h'.full=none) (hr:∀o b,h'.t≠.dU o b) (hp:∀C,h'.cZ C=none) (hcm:Calm h'.t) :
  ∃own',Inv n e (p.dh k 0 w1) (bA T i h') own' A:=by
 have hh:=zS h0
 obtain ⟨r1,r2,r3,r4,r5⟩:=H.oi.jS (o:=.hand i) (w:=nd) hh
 have q0:(p.dh k 0 w1).bd 0=w1:=by simp [PS.dh]
 have qx:∀a,a≠0→(p.dh k 0 w1).bd a=p.bd a:=fun a ha=>if_neg ha
 have qc:(p.dh k 0 w1).aB=p.aB:=by unfold PS.aB;rw [qx 24 (by omega)]
 have qr:(p.dh k 0 w1).rt=some w1:=by unfold PS.rt;rw [q0,if_neg (by omega)]
 have qa:∀j,ik e (p.dh k 0 w1) j=ik e p j:=fun j=>by unfold ik;rw [qx _ (by omega),qx _ (by omega)]
 have hoi:∃own',OI e p.ns p.used p.gen (some w1) (bA (fun j=>(T j).hand) i none) (bA (fun j=>(T j).cut) i p.rt) (fun j=>(T j).l.notes) own'∧(∀s,own' s=.free↔own s=.free)∧(∀s,(own s).rC→(own' s).rC)∧(∀s,(own' s).rC→(own s).rC∨s=nd.slot):=by
  have hbase:=H.oi
  by_cases hz:(p.bd 0).slot=0
  ·have hrt:p.rt=none:=if_pos hz
   rw [hrt] at hbase
   refine ⟨_,(hbase.put (w1:=w1) hh ⟨hw1.1,hw1.2.1⟩).same rfl (fun _=>rfl) ?_ (fun _=>rfl),fun s=>?_,fun s hs=>?_,fun s hs=>?_⟩
   ·rw [hrt]
    exact aD (P:=fun k (x:Option Wd)=>x=(T k).cut) hc0.symm fun _ _=>rfl
   ·by_cases hx:s=nd.slot
    ·rw [if_pos hx,hx,r5];simp
    ·rw [if_neg hx]
   ·by_cases hx:s=nd.slot
    ·rw [if_pos hx];exact ⟨by simp,by simp⟩
    ·rw [if_neg hx];exact hs
   ·by_cases hx:s=nd.slot
    ·exact .inr hx
    ·rw [if_neg hx] at hs;exact .inl hs
  ·have hrt:p.rt=some (p.bd 0):=if_neg hz
   rw [hrt] at hbase
   obtain ⟨t1,t2,t3,t4,t5⟩:=hbase.jS (o:=.root) (w:=p.bd 0) rfl
   have hne:(p.bd 0).slot≠nd.slot:=fun he=>by rw [he,r5] at t5;cases t5
   have h2':=hbase.take (i:=i) (w1:=p.bd 0) hc0 ⟨rfl,rfl⟩
   refine ⟨_,(h2'.put (w1:=w1) hh ⟨hw1.1,hw1.2.1⟩).same rfl (fun _=>rfl) ?_ (fun _=>rfl),fun s=>?_,fun s hs=>?_,fun s hs=>?_⟩
   ·rw [hrt];exact fun _=>rfl
   ·by_cases hx:s=nd.slot
    ·rw [if_pos hx,hx,r5];simp
    ·rw [if_neg hx]
     by_cases hy:s=(p.bd 0).slot
     ·rw [if_pos hy,hy,t5];simp
     ·rw [if_neg hy]
   ·by_cases hx:s=nd.slot
    ·rw [if_pos hx];exact ⟨by simp,by simp⟩
    ·rw [if_neg hx]
     by_cases hy:s=(p.bd 0).slot
     ·rw [if_pos hy];exact ⟨by simp,by simp⟩
     ·rw [if_neg hy];exact hs
   ·by_cases hx:s=nd.slot
    ·exact .inr hx
    ·rw [if_neg hx] at hs
     by_cases hy:s=(p.bd 0).slot
     ·left
      rw [hy,t5];exact ⟨by simp,by simp⟩
     ·rw [if_neg hy] at hs;exact .inl hs
 obtain ⟨own',hoi,hfree,ZL,Yx⟩:=hoi
 have hL:∀j,j<n→∀h:Th,h.Loc e n p j→h.Loc e n (p.dh k 0 w1) j:=fun j hj h L=>L.other (fun m _=>qx _ (by omega)) (qx _ (by omega)) (by rw [qc];exact Int.le_refl _)
 refine ⟨own',hok,H.nb,H.gV,H.n6,H.e5,?_,?_,?_,?_,?_,?_,?_,?_,?_,?_,?_,?_,?_⟩
 ·rw [qc,qx 24 (by omega)];exact H.clock
 ·rw [q0];exact ⟨hw1.2.2.1,hw1.2.2.2.1⟩
 ·rw [qr]
  refine hoi.same rfl ?_ ?_ ?_
  ·refine aD (P:=fun k (h:Th)=>h.hand=bA (fun i=>(T i).hand) i none k) ?_ fun k hk=>?_
   ·rw [aF,h1]
   ·rw [aY _ _ hk]
  ·refine aD (P:=fun k (h:Th)=>h.cut=bA (fun i=>(T i).cut) i p.rt k) ?_ fun k hk=>?_
   ·rw [aF,h2]
   ·rw [aY _ _ hk]
  ·exact aD (P:=fun k (h:Th)=>h.l.notes=(T k).l.notes) h3 fun _ _=>rfl
 ·exact aD (P:=fun j (h:Th)=>j<n→h.Loc e n (p.dh k 0 w1) j) (fun hj=>hL i hj _ hl) fun j hj hjn=>hL j hjn _ (H.loc j hjn)
 ·exact aD (P:=fun k (h:Th)=>n≤k→h.hand=none∧h.cut=none∧h.l.notes=[]) (fun h=>absurd hi (Nat.not_lt.2 h)) fun k _=>H.rest k
 ·rw [q0]
  refine aD (P:=fun k (h:Th)=>k<n→∀w,h.snap=some w→w.tag≤w1.tag∧(w.tag=w1.tag→w=w1)) (fun _ w hw=>by rw [hsn] at hw;cases hw) fun k _ hk w hw=>?_
  have:=(H.snap k hk w hw).1
  have:=hw1.2.2.2.2
  exact ⟨by omega,fun h=>by omega⟩
 ·intro s hs
  rcases Yx s hs with hs | hs
  ·exact H.val s hs
  ·rw [hs]
   have:=H.full i hi nd h0
   unfold dV at this
   rw [←r4] at this
   exact this
 ·exact aD (P:=fun k (h:Th)=>k<n→∀w,h.full=some w→(p.cell (w.slot-1).toNat 1).num=dV w) (fun _ w hw=>by rw [hf] at hw;cases hw) fun k _=>H.full k
 ·rw [qc]
  exact fun s hs=>H.aX s fun h=>hs ((hfree s).2 h)
 ·rw [qc]
  exact aD (P:=fun k (h:Th)=>∀m∈h.l.notes,(e=3∨e=5→m.aX=p.aX m.ref.slot)∧(e≠2→m.cO≤p.aB)) (by rw [h3];exact H.cO i) fun k _=>H.cO k
 ·exact aD (P:=fun k (h:Th)=>k<n→∀o b,h.t=.dU o b→e≠4→b=p.aX o.slot) (fun _ o b hb=>absurd hb (hr o b)) fun k _=>H.rb k
 ·rw [qc]
  refine aD (P:=fun j (h:Th)=>j<n→∀w,h.cZ p.aB=some w→(own' w.slot).rC∧p.gen (w.slot-1).toNat=w.gen∧qD e (p.dh k 0 w1) (bA T i h') A j w.slot) (fun _ w hw=>by rw [hp] at hw;cases hw) fun j hj hjn w hw=>?_
  obtain ⟨a1,b1,c1,d1⟩:=H.held j hjn w hw
  refine ⟨ZL _ a1,b1,by rw [qa j];exact c1,?_⟩
  rw [qa j]
  exact aD (P:=fun _ (h:Th)=>NK e (ik e p j) (A j) (jI e j) h w.slot) ((d1 i).calm h3 hcm) fun j _=>d1 j
 ·rw [qc]
  intro e4 j hj hm
  rw [qx _ (by omega)] at hm ⊢
  obtain ⟨a1,b1⟩:=H.ep e4 j hj hm
  exact ⟨a1,fun hc=>aD (P:=fun k (h:Th)=>k<n→kR p.aB j h) (fun _=>kR.calm hcm) fun k _ hk=>b1 hc k hk⟩
end
section
variable {n:Nat} {e:Int} {p:PS} {T:Nat→Th} {own:Int→iy} {A:Nat→Int} {i:Nat} {h h':Th}
theorem qE {s g f:Int} {o w:Wd} (hv:p.has s g f) (hl:p.live s g):p.act ⟨1,s,g,f,o,w⟩=({p with steps:=p.steps+1},some ⟨p.at s f,true⟩):=by
 unfold PS.act
 rw [if_pos (by unfold PS.valid;rw [if_pos (.inl rfl)];exact hv),if_pos (by unfold PS.right;rw [if_neg (show ¬(1:Int)=4 by decide),if_neg (show ¬(1:Int)=5 by decide)];exact hl)]
 rfl
theorem zT {s g f:Int} {o w:Wd} (hv:p.has s g f) (hl:p.live s g):p.act ⟨2,s,g,f,o,w⟩=(PS.put {p with steps:=p.steps+1} s f w,some ⟨Wd.zero,true⟩):=by
 unfold PS.act
 rw [if_pos (by unfold PS.valid;rw [if_pos (.inr (.inl rfl))];exact hv),if_pos (by unfold PS.right;rw [if_neg (show ¬(2:Int)=4 by decide),if_neg (show ¬(2:Int)=5 by decide)];exact hl)]
 rfl
theorem J9 {s g f:Int} {o w:Wd} (hv:p.has s g f) (hl:p.live s g):p.act ⟨3,s,g,f,o,w⟩=if iJ (p.at s f) o then (PS.put {p with steps:=p.steps+1} s f w,some ⟨p.at s f,true⟩) else ({p with steps:=p.steps+1},some ⟨p.at s f,false⟩):=by
 unfold PS.act
 rw [if_pos (by unfold PS.valid;rw [if_pos (.inr (.inr rfl))];exact hv),if_pos (by unfold PS.right;rw [if_neg (show ¬(3:Int)=4 by decide),if_neg (show ¬(3:Int)=5 by decide)];exact hl)]
 unfold PS.makes
 rw [if_neg (show ¬(3:Int)=4 by decide),if_neg (show ¬(3:Int)=5 by decide),if_neg (show ¬(3:Int)=1 by decide),if_neg (show ¬(3:Int)=2 by decide)]
 by_cases g:iJ (p.at s f) o
 ·rw [if_pos g,if_pos (show iJ (PS.at {p with steps:=p.steps+1} s f) o from g)]
  rfl
 ·rw [if_neg g,if_neg (show ¬iJ (PS.at {p with steps:=p.steps+1} s f) o from g)]
  rfl
theorem Vz {s g f:Int} {o w:Wd}:p.act ⟨4,s,g,f,o,w⟩=((PS.alloc {p with steps:=p.steps+1} w.num).1,some (PS.alloc {p with steps:=p.steps+1} w.num).2):=by
 unfold PS.act
 rw [if_pos (by unfold PS.valid;rw [if_neg (by simp),if_pos rfl];trivial),if_pos (by unfold PS.right;rw [if_pos rfl];trivial)]
 rfl
theorem xY {s g f:Int} {o w:Wd} (hv:p.is o.slot) (hl:p.live o.slot o.gen):p.act ⟨5,s,g,f,o,w⟩=(PS.free {p with steps:=p.steps+1} o.slot,some ⟨Wd.zero,true⟩):=by
 unfold PS.act
 rw [if_pos (by unfold PS.valid;rw [if_neg (by simp),if_neg (by simp),if_pos rfl];exact hv),if_pos (by unfold PS.right;rw [if_neg (by simp),if_pos rfl];exact hl)]
 rfl
theorem Inv.CF (H:Inv n e p T own A) {f:Int} (h1:0≤f) (h2:f<85):p.has 0 0 f:=by
 unfold PS.has
 rw [if_pos rfl,H.nb]
 exact ⟨rfl,h1,h2⟩
theorem Inv.xZ:p.live 0 0:=.inl rfl
theorem qF {f:Int}:p.at 0 f=p.bd f.toNat:=if_pos rfl
theorem zU {f:Int} {w:Wd}:PS.put {p with steps:=p.steps+1} 0 f w=p.dh (p.steps+1) f.toNat w:=by
 unfold PS.put
 rw [if_pos rfl]
 rfl
theorem Tc {s f:Int} {w:Wd} (hs:s≠0):PS.put {p with steps:=p.steps+1} s f w=p.NQ (p.steps+1) (s-1).toNat f.toNat w:=by
 unfold PS.put
 rw [if_neg hs]
 rfl
theorem Inv.CG (H:Inv n e p T own A) {o:iy} {w:Wd} (hc:Cl p.rt (fun i=>(T i).hand) (fun i=>(T i).cut) (fun i=>(T i).l.notes) o w):1≤w.slot∧w.slot≤p.ns∧p.is w.slot∧p.live w.slot w.gen∧∀f,0≤f→f<10→p.has w.slot w.gen f:=by
 obtain ⟨r1,r2,r3,r4,r5⟩:=H.oi.jS hc
 refine ⟨r1,r2,⟨r1,r2⟩,.inr ⟨r3,r4⟩,fun f h1 h2=>?_⟩
 unfold PS.has
 rw [if_neg (by omega)]
 exact ⟨⟨r1,r2⟩,h1,h2⟩
theorem Inv.kept (H:Inv n e p T own A) (hi:i<n) {w:Wd} (hw:(T i).cZ p.aB=some w):w.slot≠0∧p.live w.slot w.gen∧(∀f,0≤f→f<10→p.has w.slot w.gen f)∧(p.at w.slot 1).num=dV w:=by
 obtain ⟨h1,h2,h3⟩:=H.held i hi w hw
 obtain ⟨r1,r2⟩:=H.oi.out _ h1.1
 have hu:=(H.oi.used _ r1 r2).2 h1.1
 refine ⟨by omega,.inr ⟨hu,h2⟩,fun f f1 f2=>?_,?_⟩
 ·unfold PS.has
  rw [if_neg (by omega)]
  exact ⟨⟨r1,r2⟩,f1,f2⟩
 ·unfold PS.at
  rw [if_neg (by omega)]
  have:=H.val _ h1
  rw [h2] at this
  exact this
theorem Inv.uV (H:Inv n e p T own A) (a:Ac):(p.act a).1.OK:=H.ok.act a
theorem Th.Loc.goN (L:h.Loc e n p i) (h1:h'.l.aj=h.l.aj∧h'.l.me=h.l.me∧h'.l.threads=h.l.threads∧h'.l.most=h.l.most∧h'.l.h=h.l.h∧h'.l.s=h.l.s) (hk:¬h.dw) (hs:¬h.dI)
  (hon:e=4∨e=5→h'.busy→h.l.s.is=true) (hoff:h'.pc=0→h.l.h 0=Wd.zero∧h.l.s=Sp.zero) (hsh:h'.sh e p.aB):h'.Loc e n p i:=by
 obtain ⟨h1,h2,h3,h4,h5,h6⟩:=h1
 refine ⟨?_,?_,?_,?_,?_,L.kz,?_,?_,?_,?_,L.b5,?_,?_,?_,?_,hsh⟩
 ·rw [h1];exact L.iA
 ·rw [h2];exact L.me
 ·rw [h3];exact L.nS
 ·rw [h4];exact L.most
 ·rw [h5];exact L.hz
 ·rw [h5];exact L.nk
 ·rw [h6];exact L.ns
 ·rw [h5];exact L.h3
 ·rw [h6];exact L.s5
 ·rw [h5];exact fun _=>L.kc hk
 ·rw [h6];exact fun _=>L.sc hs
 ·rw [h6];exact hon
 ·rw [h5,h6];exact hoff
structure Plain (h:Th):Prop where
 hand:h.hand=none
 cut:h.cut=none
 snap:h.snap=none
 full:h.full=none
 cZ:∀C,h.cZ C=none
 vE:∀o b,h.t≠.dU o b
theorem cz {h:Th} (ht:h.t=.je∨(∃c s,h.t=.bV c s)∨(∃c,h.t=.iE c)∨h.t=.dO∨(∃d r,h.t=.fe d r)∨(∃c,h.t=.jZ c)∨h.t=.pK∨(∃k,h.t=.jm k)∨(∃c,h.t=.fU c)∨(∃c a,h.t=.fA c a)):Plain h:=by
 refine ⟨?_,?_,?_,?_,?_,?_⟩
 ·unfold Th.hand;rcases ht with ht | ⟨_,_,ht⟩ | ⟨_,ht⟩ | ht | ⟨_,_,ht⟩ | ⟨_,ht⟩ | ht | ⟨_,ht⟩ | ⟨_,ht⟩ | ⟨_,_,ht⟩ <;> rw [ht]
 ·unfold Th.cut;rcases ht with ht | ⟨_,_,ht⟩ | ⟨_,ht⟩ | ht | ⟨_,_,ht⟩ | ⟨_,ht⟩ | ht | ⟨_,ht⟩ | ⟨_,ht⟩ | ⟨_,_,ht⟩ <;> rw [ht]
 ·unfold Th.snap;rcases ht with ht | ⟨_,_,ht⟩ | ⟨_,ht⟩ | ht | ⟨_,_,ht⟩ | ⟨_,ht⟩ | ht | ⟨_,ht⟩ | ⟨_,ht⟩ | ⟨_,_,ht⟩ <;> rw [ht]
 ·unfold Th.full;rcases ht with ht | ⟨_,_,ht⟩ | ⟨_,ht⟩ | ht | ⟨_,_,ht⟩ | ⟨_,ht⟩ | ht | ⟨_,ht⟩ | ⟨_,ht⟩ | ⟨_,_,ht⟩ <;> rw [ht]
 ·intro C;unfold Th.cZ;rcases ht with ht | ⟨_,_,ht⟩ | ⟨_,ht⟩ | ht | ⟨_,_,ht⟩ | ⟨_,ht⟩ | ht | ⟨_,ht⟩ | ⟨_,ht⟩ | ⟨_,_,ht⟩ <;> rw [ht]
 ·intro o b hb;rcases ht with ht | ⟨_,_,ht⟩ | ⟨_,ht⟩ | ht | ⟨_,_,ht⟩ | ⟨_,ht⟩ | ht | ⟨_,ht⟩ | ⟨_,ht⟩ | ⟨_,_,ht⟩ <;> rw [ht] at hb <;> cases hb
theorem jJ {h:Th} {x:Rp} (ht:h.t=.idle x) (hpc:h.pc=0∨h.pc=1∨h.pc=7):Plain h:=by
 have h4:¬h.pc=4:=by omega
 have h5:¬h.pc=5:=by omega
 have h6:¬h.pc=6:=by omega
 have h2:¬h.pc=2:=by omega
 have LF:¬(3≤h.pc∧h.pc≤5):=by omega
 refine ⟨?_,?_,?_,?_,?_,?_⟩
 ·unfold Th.hand;rw [ht];simp [h4,h5,h6]
 ·unfold Th.cut;rw [ht];simp [h6]
 ·unfold Th.snap;rw [ht];simp only;rw [if_neg h2,if_neg LF]
 ·unfold Th.full;rw [ht];simp [h5]
 ·intro C;unfold Th.cZ;rw [ht];simp [h2]
 ·intro o b hb;rw [ht] at hb;cases hb
theorem Ka {h0:Th} {l1:Lo} (hpc:h0.pc=7):∃t,h0.with (RT.dn l1)={h0 with l:=l1,t:=t}∧(t=.idle Rp.yes∨(l1.aj=4∧t=.je)∨(l1.aj≠1∧l1.aj≠4∧t=.bV Wd.zero []))∧Plain {h0 with l:=l1,t:=t}∧Calm t:=by
 rcases nT (l:=l1) with g | ⟨g1,g⟩ | ⟨g1,g2,g⟩
 ·exact ⟨.idle Rp.yes,by unfold Th.with;rw [g],.inl rfl,jJ (h:={h0 with l:=l1,t:=.idle Rp.yes}) rfl (.inr (.inr hpc)),Calm.idle _⟩
 ·exact ⟨.je,by unfold Th.with;rw [g],.inr (.inl ⟨g1,rfl⟩),cz (.inl rfl),dY (.inl (by simp only [RT.aW];omega))⟩
 ·exact ⟨.bV Wd.zero [],by unfold Th.with;rw [g],.inr (.inr ⟨g1,g2,rfl⟩),cz (.inr (.inl ⟨_,_,rfl⟩)),Calm.new _⟩
end
def kT (n:Nat) (e:Int) (p:PS) (T:Nat→Th) (i:Nat):Prop:=∃p' x own' A',p.act ((T i).t.acc (T i).l)=(p',some x)∧Inv n e p' (bA T i ((T i).aK x)) own' A'
section
variable {n:Nat} {e:Int} {p:PS} {T:Nat→Th} {own:Int→iy} {A:Nat→Int} {i:Nat} {h h':Th}
theorem jP {p':PS} {x:Rp} {own':Int→iy} {A':Nat→Int} {a:Ac} (ha:(T i).t.acc (T i).l=a) (h1:p.act a=(p',some x)) (h2:Inv n e p' (bA T i ((T i).aK x)) own' A'):kT n e p T i :=
 ⟨p',x,own',A',by rw [ha];exact h1,h2⟩
theorem Inv.iB (H:Inv n e p T own A):({p with steps:=p.steps+1}:PS).OK:=H.ok.Lx
theorem lS (H:Inv n e p T own A):p.act Ac.era=({p with steps:=p.steps+1},some ⟨dW p.aB,true⟩):=by
 have:=qE (p:=p) (s:=0) (g:=0) (f:=24) (o:=Wd.zero) (w:=Wd.zero) (H.CF (by decide) (by decide)) Inv.xZ
 rw [qF] at this
 rw [show p.bd (24:Int).toNat=dW p.aB from H.clock.1] at this
 exact this
theorem uW (H:Inv n e p T own A):p.act (Ac.load 0 0 0)=({p with steps:=p.steps+1},some ⟨p.bd 0,true⟩):=by
 have:=qE (p:=p) (s:=0) (g:=0) (f:=0) (o:=Wd.zero) (w:=Wd.zero) (H.CF (by decide) (by decide)) Inv.xZ
 rw [qF] at this
 exact this
theorem Th.iQ (h1:2≤h.pc):h.busy:=by
 unfold Th.busy
 cases h.t <;> simp only <;> omega
theorem Inv.VA (H:Inv n e p T own A) (hi:i<n) {a:Ac} (ht:(T i).t=.one a):kT n e p T i:=by
 have L:=H.loc i hi
 have hsh:=L.jN
 unfold Th.sh at hsh
 rw [ht] at hsh
 have hk:¬(T i).dw:=by unfold Th.dw;rw [ht];exact id
 have hs:¬(T i).dI:=by unfold Th.dI;rw [ht];exact id
 have oh:(T i).hand=if (T i).pc=5∨(T i).pc=6 then some (T i).node else none:=by unfold Th.hand;rw [ht]
 have oc:(T i).cut=none:=by unfold Th.cut;rw [ht]
 have os:(T i).snap=if 3≤(T i).pc∧(T i).pc≤6 then some (T i).old else none:=by unfold Th.snap;rw [ht]
 have of:(T i).full=if (T i).pc=6 then some (T i).node else none:=by unfold Th.full;rw [ht]
 have op:(T i).cZ p.aB=if (T i).pc=3∧(T i).old.slot≠0 then some (T i).old else none:=by unfold Th.cZ;rw [ht]
 have on:e=4∨e=5→2≤(T i).pc→(T i).l.s.is=true:=fun h1 h2=>L.on h1 (Th.iQ h2)
 have hsn:=H.snap i hi
 have hac:(T i).t.acc (T i).l=a:=by rw [ht];rfl
 have htk:∀x,(T i).aK x={T i with t:=.idle x}:=fun x=>by unfold Th.aK;rw [ht];rfl
 rcases hsh with ⟨q,ha⟩ | ⟨q,b,ha,hb⟩ | ⟨q,ha⟩ | ⟨q,ha⟩ | ⟨q,ha⟩
 ·have key:∀x:Rp,((T i).old.slot≠0→x.word.num=dV (T i).old)→Inv n e {p with steps:=p.steps+1} (bA T i ((T i).aK x)) own A:=by
   intro x hx
   rw [htk]
   refine H.calm hi H.iB ?_ ?_ rfl (L.go rfl hk hs (fun h _=>on h (by omega)) (fun h=>absurd (show (T i).pc=0 from h) (by omega)) ⟨⟨by show 0≤(T i).pc;omega,by show (T i).pc≤7;omega⟩,fun _=>hx⟩) (fun w hw=>hsn w ?_) (fun w hw=>?_) (fun o b h=>(by cases h)) (fun w hw=>?_) (Calm.idle _)
   ·rw [oh];simp [Th.hand,q]
   ·rw [oc];simp [Th.cut,q]
   ·rw [os,←hw];simp [Th.snap,q]
   ·simp [Th.full,q] at hw
   ·simp [Th.cZ,q] at hw
  by_cases h0:(T i).old.slot=0
  ·rw [if_pos h0] at ha
   exact jP (own':=own) (A':=A) hac (by rw [ha];exact uW H) (key _ fun h=>absurd h0 h)
  ·rw [if_neg h0] at ha
   obtain ⟨k1,k2,k3,k4⟩:=H.kept hi (w:=(T i).old) (by rw [op,if_pos ⟨q,h0⟩])
   exact jP (own':=own) (A':=A) hac (by rw [ha];exact qE (k3 1 (by decide) (by decide)) k2) (key _ fun _=>k4)
 ·have hal:p.act a=((PS.alloc {p with steps:=p.steps+1} b).1,some (PS.alloc {p with steps:=p.steps+1} b).2):=by rw [ha];exact Vz
  have hok:=H.uV a
  rw [hal] at hok
  unfold PS.alloc at hal hok
  by_cases h0:p.nf=0
  ·rw [if_pos (show ({p with steps:=p.steps+1}:PS).nf=0 from h0)] at hal
   refine jP (own':=own) (A':=A) hac hal ?_
   rw [htk]
   refine H.calm hi H.iB ?_ ?_ rfl (L.go rfl hk hs (fun h _=>on h (by omega)) (fun h=>absurd (show (T i).pc=0 from h) (by omega)) ⟨⟨by show 0≤(T i).pc;omega,by show (T i).pc≤7;omega⟩,fun h=>absurd (show (T i).pc=3 from h) (by omega)⟩) (fun w hw=>hsn w ?_) (fun w hw=>?_) (fun o b h=>(by cases h)) (fun w hw=>?_) (Calm.idle _)
   ·rw [oh];simp [Th.hand,q,Rp.no]
   ·rw [oc];simp [Th.cut,q]
   ·rw [os,←hw];simp [Th.snap,q]
   ·simp [Th.full,q] at hw
   ·simp [Th.cZ,q] at hw
  ·rw [if_neg (show ¬({p with steps:=p.steps+1}:PS).nf=0 from h0)] at hal hok
   have hnf:=H.ok.nf
   obtain ⟨f1,f2,f3⟩:=H.ok.fr (p.nf-1).toNat (by omega)
   have:=H.alloc (h':=(T i).aK ⟨⟨p.fr (p.nf-1).toNat,p.gen (p.fr (p.nf-1).toNat-1).toNat+1,0,0,false⟩,true⟩) hi (k:=p.steps+1) (nf:=p.nf-1) (made:=p.made+1) (w0:=⟨p.fr (p.nf-1).toNat,p.gen (p.fr (p.nf-1).toNat-1).toNat+1,0,0,false⟩) (b:=b) hok ⟨f1,f2⟩ f3 hb
    (by rw [oh];simp [q]) (by rw [htk];simp [Th.hand,q]) (by rw [oc,htk];simp [Th.cut,q]) (by rw [htk])
    (by
      rw [htk]
      exact L.go rfl hk hs (fun h _=>on h (by omega)) (fun h=>absurd (show (T i).pc=0 from h) (by omega)) ⟨⟨by show 0≤(T i).pc;omega,by show (T i).pc≤7;omega⟩,fun h=>absurd (show (T i).pc=3 from h) (by omega)⟩)
    (by rw [htk,os];simp [Th.snap,q]) (by rw [htk];simp [Th.full,q]) (fun o b h=>by rw [htk] at h;cases h) (fun C=>by rw [htk];simp [Th.cZ,q]) (by rw [htk];exact Calm.idle _)
   obtain ⟨own',hI⟩:=this
   exact ⟨_,_,own',A,by rw [hac];exact hal,hI⟩
 ·have hh:(T i).hand=some (T i).node:=by rw [oh];simp [q]
  obtain ⟨m1,m2,m3,m4,m5⟩:=H.CG (o:=.hand i) (w:=(T i).node) hh
  have hal:p.act a=(p.NQ (p.steps+1) ((T i).node.slot-1).toNat 1 (Wd.dG (dV (T i).node)),some ⟨Wd.zero,true⟩):=by
   rw [ha,zT (m5 1 (by decide) (by decide)) m4,Tc (by omega)]
   rfl
  have hok:=H.uV a
  rw [hal] at hok
  have:=H.fill (h':=(T i).aK ⟨Wd.zero,true⟩) hi (k:=p.steps+1) hok hh (by rw [htk];simp [Th.hand,q]) (by rw [oc,htk];simp [Th.cut,q]) (by rw [htk])
    (by
      rw [htk]
      exact L.go rfl hk hs (fun h _=>on h (by omega)) (fun h=>absurd (show (T i).pc=0 from h) (by omega)) ⟨⟨by show 0≤(T i).pc;omega,by show (T i).pc≤7;omega⟩,fun h=>absurd (show (T i).pc=3 from h) (by omega)⟩)
    (by rw [htk,os];simp [Th.snap,q]) (by rw [htk];simp [Th.full,q]) (fun o b h=>by rw [htk] at h;cases h) (fun C=>by rw [htk];simp [Th.cZ,q]) (by rw [htk];exact Calm.idle _)
  obtain ⟨own',hI⟩:=this
  exact ⟨_,_,own',A,by rw [hac];exact hal,hI⟩
 ·have hf:(T i).full=some (T i).node:=by rw [of];simp [q]
  obtain ⟨m1,m2,m3,m4,m5⟩:=H.CG (o:=.hand i) (w:=(T i).node) (zS hf)
  have hal:p.act a=if iJ (p.bd 0) (T i).old then (p.dh (p.steps+1) 0 ⟨(T i).node.slot,(T i).node.gen,(T i).old.tag+1,0,false⟩,some ⟨p.bd 0,true⟩) else ({p with steps:=p.steps+1},some ⟨p.bd 0,false⟩):=by
   rw [ha,J9 (H.CF (by decide) (by decide)) Inv.xZ,qF,zU]
   rfl
  by_cases hsm:iJ (p.bd 0) (T i).old
  ·rw [if_pos hsm] at hal
   have hold:(T i).old=p.bd 0:=(hsn (T i).old (by rw [os,if_pos (by omega)])).2 hsm.2.1.symm
   have hok:=H.uV a
   rw [hal] at hok
   have:=H.swap (h':=(T i).aK ⟨p.bd 0,true⟩) hi (k:=p.steps+1) (nd:=(T i).node) hok ⟨rfl,rfl,rfl,rfl,by show (p.bd 0).tag<(T i).old.tag+1;rw [hold];omega⟩ hf oc (by rw [htk];simp [Th.hand,q]) (by
         rw [htk]
         simp only [Th.cut]
         unfold PS.rt
         rw [hold]
         by_cases hz:(p.bd 0).slot=0
         · rw [if_pos hz,if_neg (fun h=>h.2.2 hz)]
         · rw [if_neg hz,if_pos ⟨q,trivial,hz⟩]) (by rw [htk])
    (by
      rw [htk]
      exact L.go rfl hk hs (fun h _=>on h (by omega)) (fun h=>absurd (show (T i).pc=0 from h) (by omega)) ⟨⟨by show 0≤(T i).pc;omega,by show (T i).pc≤7;omega⟩,fun h=>absurd (show (T i).pc=3 from h) (by omega)⟩)
    (by rw [htk];simp [Th.snap,q]) (by rw [htk];simp [Th.full,q]) (fun o b h=>by rw [htk] at h;cases h) (fun C=>by rw [htk];simp [Th.cZ,q]) (by rw [htk];exact Calm.idle _)
   obtain ⟨own',hI⟩:=this
   exact ⟨_,_,own',A,by rw [hac];exact hal,hI⟩
  ·rw [if_neg hsm] at hal
   refine jP (own':=own) (A':=A) hac hal ?_
   rw [htk]
   refine H.calm hi H.iB ?_ ?_ rfl (L.go rfl hk hs (fun h _=>on h (by omega)) (fun h=>absurd (show (T i).pc=0 from h) (by omega)) ⟨⟨by show 0≤(T i).pc;omega,by show (T i).pc≤7;omega⟩,fun h=>absurd (show (T i).pc=3 from h) (by omega)⟩) (fun w hw=>?_) (fun w hw=>?_) (fun o b h=>(by cases h)) (fun w hw=>?_) (Calm.idle _)
   ·rw [oh];simp [Th.hand,q]
   ·rw [oc];simp [Th.cut,q]
   ·simp [Th.snap,q] at hw
   ·simp [Th.full,q] at hw
   ·simp [Th.cZ,q] at hw
 ·refine jP (own':=own) (A':=A) hac (by rw [ha];exact uW H) ?_
  rw [htk]
  refine H.calm hi H.iB ?_ ?_ rfl (L.go rfl hk hs (fun h _=>on h (by omega)) (fun h=>absurd (show (T i).pc=0 from h) (by omega)) ⟨⟨by show 0≤(T i).pc;omega,by show (T i).pc≤7;omega⟩,fun h=>absurd (show (T i).pc=3 from h) (by omega)⟩) (fun w hw=>?_) (fun w hw=>?_) (fun o b h=>(by cases h)) (fun w hw=>?_) (Calm.idle _)
  ·rw [oh];simp [Th.hand,q]
  ·rw [oc];simp [Th.cut,q]
  ·simp [Th.snap,q] at hw
  ·simp [Th.full,q] at hw
  ·simp [Th.cZ,q] at hw
end
section
variable {n:Nat} {e:Int} {p:PS} {T:Nat→Th} {own:Int→iy} {A:Nat→Int} {i:Nat} {h h':Th}
theorem Th.bG {l:Lo} {t t':RT} {x:Rp} (ht:h.t=t) (hr:RT.aK h.l t x=(l,t')):h.aK x={h with l:=l,t:=t'}:=by
 unfold Th.aK Th.with
 rw [ht,hr]
theorem Inv.uX (H:Inv n e p T own A) (hi:i<n) {k:Int} (hok:({p with steps:=k}:PS).OK) (P:Plain (T i)) (P':Plain h') (h3:h'.l.notes=(T i).l.notes) (hl:h'.Loc e n p i) (hc:Calm h'.t):Inv n e {p with steps:=k} (bA T i h') own A :=
 H.calm hi hok (by rw [P'.hand,P.hand]) (by rw [P'.cut,P.cut]) h3 hl (fun w hw=>by rw [P'.snap] at hw;cases hw) (fun w hw=>by rw [P'.full] at hw;cases hw) (fun o b h=>absurd h (P'.vE o b)) (fun w hw=>by rw [P'.cZ] at hw;cases hw) hc
theorem wH {k:Int} {b:Nat} {w:Wd}:(p.dh k b w).bd b=w:=by simp [PS.dh]
theorem wI {k:Int} {b c:Nat} {w:Wd} (h:c≠b):(p.dh k b w).bd c=p.bd c:=by simp [PS.dh,h]
theorem vF (H:Inv n e p T own A) {f:Int} {w:Wd} (h1:0≤f) (h2:f<85):p.act (Ac.store 0 0 f w)=(p.dh (p.steps+1) f.toNat w,some ⟨Wd.zero,true⟩):=by
 have:=zT (p:=p) (s:=0) (g:=0) (f:=f) (o:=Wd.zero) (w:=w) (H.CF h1 h2) Inv.xZ
 rw [zU] at this
 exact this
theorem CJ {k:Int} {b:Nat} {w:Wd} (h:b≠24):(p.dh k b w).aB=p.aB:=by unfold PS.aB;rw [wI (Ne.symm h)]
theorem LP (L:h.Loc e n p i):RS.lQ h.l.s=Wd.zero∨∃a b,RS.lQ h.l.s=⟨0,0,b,a,true⟩∧a≤b∧b≤p.aB:=by
 rcases L.s5 with h1 | ⟨a,b,h1,h2,h3⟩
 ·rw [h1];exact .inl rfl
 ·rw [h1];exact .inr ⟨a,b,rfl,h2,h3⟩
theorem Inv.Kb (H:Inv n e p T own A) (hi:i<n) {a:Ac} (P:Plain (T i)) (hac:(T i).t.acc (T i).l=a) (ha:a=RT.fV (T i).l (T i).l.s) (he:e=4∨e=5) (hk:¬(T i).dw∨True) {t':RT}
  (htk:(T i).aK ⟨Wd.zero,true⟩={T i with t:=t'}) (hP:Plain {T i with t:=t'}) (hc:Calm t') (hsh:({T i with t:=t'}:Th).sh e p.aB) (hbz:({T i with t:=t'}:Th).busy→(T i).l.s.is=true) (hpk:¬({T i with t:=t'}:Th).dw) (hps:¬({T i with t:=t'}:Th).dI):kT n e p T i:=by
 have L:=H.loc i hi
 have h6:=H.n6
 have hal:p.act a=(p.dh (p.steps+1) (79+i) (RS.lQ (T i).l.s),some ⟨Wd.zero,true⟩):=by
  rw [ha]
  unfold RT.fV
  rw [L.me,vF H (by omega) (by omega),show (79+(i:Int)).toNat=79+i by omega]
 have hok:=H.uV a
 rw [hal] at hok
 have q24:(p.dh (p.steps+1) (79+i) (RS.lQ (T i).l.s)).aB=p.aB:=CJ (by omega)
 have qk:∀m,m<9→(p.dh (p.steps+1) (79+i) (RS.lQ (T i).l.s)).bd (25+9 * i+m)=p.bd (25+9 * i+m):=fun m hm=>wI (by omega)
 have XM:=qk 0 (by omega)
 rw [Nat.add_zero] at XM
 have hnk:=L.nk (by omega) (by omega)
 refine ⟨_,_,own,bA A i p.aB,by rw [hac];exact hal,?_⟩
 rw [htk]
 refine H.Y8 hi hok (.inr rfl) (hP.hand.trans P.hand.symm) (hP.cut.trans P.cut.symm) rfl ?_ hP.snap hP.full hP.vE hP.cZ hc ?_
 ·refine ⟨L.iA,L.me,L.nS,L.most,L.hz,fun k h1 h2=>by rw [qk k h2];exact L.kz k h1 h2,fun h1 h2=>by rw [XM];exact hnk,fun h1 h2=>absurd he (by omega),fun h3=>by omega,?_,?_,fun _=>by rw [XM,hnk.2];exact hnk.1.symm,fun _=>wH,fun _=>hbz,L.off,by rw [q24];exact hsh⟩
  ·rw [q24];exact L.s5
  ·rw [q24,wH];exact LP L
 ·intro _
  rcases LP L with h1 | ⟨a,b,h1,h2,h3⟩
  ·rw [h1]
   have:=H.clock.2
   show (0:Int)≤_
   omega
  ·rw [h1]
   show a≤_
   omega
theorem Inv.Kc (H:Inv n e p T own A) (hi:i<n) {a:Ac} (P:Plain (T i)) (hac:(T i).t.acc (T i).l=a) (ha:a=Ac.store 0 0 (25+(T i).l.me * 9+0) ((T i).l.h 0)) (he:e=2∨e=3) {t':RT}
  (htk:(T i).aK ⟨Wd.zero,true⟩={T i with t:=t'}) (hP:Plain {T i with t:=t'}) (hc:Calm t') (hsh:({T i with t:=t'}:Th).sh e p.aB):kT n e p T i:=by
 have L:=H.loc i hi
 have h6:=H.n6
 have hal:p.act a=(p.dh (p.steps+1) (25+9 * i) ((T i).l.h 0),some ⟨Wd.zero,true⟩):=by
  rw [ha,L.me,vF H (by omega) (by omega),show (25+(i:Int) * 9+0).toNat=25+9 * i by omega]
 have hok:=H.uV a
 rw [hal] at hok
 have q24:(p.dh (p.steps+1) (25+9 * i) ((T i).l.h 0)).aB=p.aB:=CJ (by omega)
 have qs:(p.dh (p.steps+1) (25+9 * i) ((T i).l.h 0)).bd (79+i)=p.bd (79+i):=wI (by omega)
 have hns:=L.ns (by omega) (by omega)
 refine ⟨_,_,own,bA A i p.aB,by rw [hac];exact hal,?_⟩
 rw [htk]
 refine H.Y8 hi hok (.inl rfl) (hP.hand.trans P.hand.symm) (hP.cut.trans P.cut.symm) rfl ?_ hP.snap hP.full hP.vE hP.cZ hc (fun h4=>by omega)
 refine ⟨L.iA,L.me,L.nS,L.most,L.hz,fun k h1 h2=>?_,fun h1 h2=>absurd he (by omega),fun h1 h2=>by rw [qs];exact hns,fun h3=>?_,?_,?_,fun _=>wH,fun _=>?_,fun h=>absurd he (by omega),L.off,by rw [q24];exact hsh⟩
 ·rw [wI (by omega)];exact L.kz k h1 h2
 ·rw [q24,wH];exact ⟨(L.h3 h3).1,(L.h3 h3).1⟩
 ·rw [q24];exact L.s5
 ·rw [qs];exact .inl hns.2
 ·rw [qs,hns.2]
  show Wd.zero=RS.lQ (T i).l.s
  rw [hns.1]
  rfl
theorem Inv.VB (H:Inv n e p T own A) (hi:i<n) {a:Ac} (ht:(T i).t=.fin a):kT n e p T i:=by
 have L:=H.loc i hi
 have hsh:=L.jN
 unfold Th.sh at hsh
 rw [ht] at hsh
 have htk:∀x,(T i).aK x={T i with t:=.idle Rp.yes}:=fun x=>Th.bG ht rfl
 have hac:(T i).t.acc (T i).l=a:=by rw [ht];rfl
 rcases hsh with ⟨h1,h2,h3⟩ | ⟨q,ha⟩
 ·have hpc:(T i).pc=0∨(T i).pc=1:=by rcases h1 with h | h <;> omega
  have hP:Plain {T i with t:=.idle Rp.yes}:=jJ (h:={T i with t:=.idle Rp.yes}) rfl (by show (T i).pc=0∨(T i).pc=1∨_;omega)
  have P:Plain (T i):=by
   have h5:¬(T i).pc=7:=by omega
   refine ⟨?_,?_,?_,?_,?_,?_⟩
   ·unfold Th.hand;rw [ht];simp [h5]
   ·unfold Th.cut;rw [ht]
   ·unfold Th.snap;rw [ht]
   ·unfold Th.full;rw [ht]
   ·intro C;unfold Th.cZ;rw [ht]
   ·intro o b hb;rw [ht] at hb;cases hb
  refine H.Kb hi P hac h3 h2 (.inr trivial) (htk _) hP (Calm.idle _) ⟨⟨by show 0≤(T i).pc;omega,by show (T i).pc≤7;omega⟩,fun h=>absurd (show (T i).pc=3 from h) (by omega)⟩ (fun hb=>?_) id id
  rcases h1 with h | h
  ·have:1≤(T i).pc:=hb
   omega
  ·exact h.2
 ·have hh:(T i).hand=some (T i).node:=by unfold Th.hand;rw [ht];simp [q]
  obtain ⟨m1,m2,m3,m4,m5⟩:=H.CG (o:=.hand i) (w:=(T i).node) hh
  have hal:p.act a=(p.J8 (p.steps+1) (p.nf+1) (fun i=>if i=p.nf.toNat then (T i).node.slot else p.fr i) (T i).node.slot,some ⟨Wd.zero,true⟩)∨True:=.inr trivial
  have hal:p.act a=(PS.free {p with steps:=p.steps+1} (T i).node.slot,some ⟨Wd.zero,true⟩):=by rw [ha];exact xY m3 m4
  have hok:=H.uV a
  rw [hal] at hok
  have hP:Plain {T i with t:=.idle Rp.yes}:=jJ (h:={T i with t:=.idle Rp.yes}) rfl (.inr (.inr q))
  have hk:¬(T i).dw:=by unfold Th.dw;rw [ht];exact id
  have hs:¬(T i).dI:=by unfold Th.dI;rw [ht];show ¬(T i).pc≤1;omega
  have:=H.drop (h':=(T i).aK ⟨Wd.zero,true⟩) hi (k:=p.steps+1) (nf:=p.nf+1) (fr:=fun j=>if j=p.nf.toNat then (T i).node.slot else p.fr j) hok hh (by rw [htk];exact hP.hand) (by rw [htk];rw [hP.cut];unfold Th.cut;rw [ht]) (by rw [htk])
    (by
      rw [htk]
      exact L.go rfl hk hs (fun h _=>L.on h (Th.iQ (by omega))) (fun h=>absurd (show (T i).pc=0 from h) (by omega)) ⟨⟨by show 0≤(T i).pc;omega,by show (T i).pc≤7;omega⟩,fun h=>absurd (show (T i).pc=3 from h) (by omega)⟩)
    (by rw [htk];exact hP.snap) (by rw [htk];exact hP.full) (by rw [htk];exact hP.vE) (by rw [htk];exact hP.cZ) (by rw [htk];exact Calm.idle _)
  obtain ⟨own',hI⟩:=this
  exact ⟨_,_,own',A,by rw [hac];exact hal,hI⟩
theorem Inv.Td (H:Inv n e p T own A) (hi:i<n) (ht:(T i).t=.pK):kT n e p T i:=by
 have L:=H.loc i hi
 have hsh:=L.jN
 unfold Th.sh at hsh
 rw [ht] at hsh
 obtain ⟨q,he⟩:=hsh
 have hC:=H.clock.2
 have htk:(T i).aK ⟨dW p.aB,true⟩={T i with l:={(T i).l with s:=⟨true,p.aB,p.aB⟩},t:=.fin (RT.fV (T i).l ⟨true,p.aB,p.aB⟩)}:=Th.bG ht rfl
 refine jP (own':=own) (A':=A) (by rw [ht];rfl) (lS H) ?_
 rw [htk]
 have P:Plain (T i):=cz (.inr (.inr (.inr (.inr (.inr (.inr (.inl ht)))))))
 have q7:¬(T i).pc=7:=by omega
 refine H.uX hi H.iB P ⟨?_,rfl,rfl,rfl,fun _=>rfl,fun _ _ h=>by cases h⟩ rfl ?_ (dY (.inl (by simp only [RT.aW];omega)))
 ·simp [Th.hand,q7]
 ·refine ⟨L.iA,L.me,L.nS,L.most,L.hz,L.kz,L.nk,fun h1 h2=>absurd he (by omega),L.h3,.inr ⟨p.aB,p.aB,rfl,Int.le_refl _,Int.le_refl _⟩,L.b5,fun _=>L.kc (by unfold Th.dw;rw [ht];exact id),fun h=>absurd (show (T i).pc≤1 by omega) h,fun _ _=>rfl,fun h=>absurd (show (T i).pc=0 from h) (by omega),.inl ⟨.inr ⟨q,rfl⟩,he,rfl⟩⟩
theorem Inv.Qp (H:Inv n e p T own A) (hi:i<n) {k:Int} (ht:(T i).t=.jm k):kT n e p T i:=by
 have L:=H.loc i hi
 have hsh:=L.jN
 unfold Th.sh at hsh
 rw [ht] at hsh
 obtain ⟨q,rfl,he⟩:=hsh
 have hoff:=L.off q
 have hns:=L.ns (by omega) (by omega)
 have hlv:RT.leave (T i).l (0+1)=((T i).l,.idle Rp.yes):=by
  unfold RT.leave
  rw [if_neg (fun h=>h.2 hoff.2),if_pos (L.bf.2 he)]
  rw [show RS.first (T i).l.h (0+1:Int).toNat (9-(0+1:Int).toNat)=none from su fun j hj=>by
    by_cases h0:j=0
    · rw [h0];exact hoff.1
    · exact L.hz j h0]
 have htk:(T i).aK ⟨Wd.zero,true⟩={T i with t:=.idle Rp.yes}:=by
  have:(T i).aK ⟨Wd.zero,true⟩={T i with l:=(T i).l,t:=.idle Rp.yes}:=Th.bG ht hlv
  exact this
 refine H.Kc hi (cz (.inr (.inr (.inr (.inr (.inr (.inr (.inr (.inl ⟨_,ht⟩))))))))) (a:=Ac.store 0 0 (25+(T i).l.me * 9+0) ((T i).l.h 0)) (by rw [ht,hoff.1];rfl) rfl he htk (jJ (h:={T i with t:=.idle Rp.yes}) rfl (.inl q)) (Calm.idle _) ⟨⟨by show 0≤(T i).pc;omega,by show (T i).pc≤7;omega⟩,fun h=>absurd (show (T i).pc=3 from h) (by omega)⟩
theorem Inv.Te (H:Inv n e p T own A) (hi:i<n) {c:Ca} {a:Ac} (ht:(T i).t=.fA c a):kT n e p T i:=by
 have L:=H.loc i hi
 have hsh:=L.jN
 unfold Th.sh at hsh
 rw [ht] at hsh
 obtain ⟨q,rfl,he⟩:=hsh
 have htk:(T i).aK ⟨Wd.zero,true⟩={T i with t:=.fU (Ca.of 6)}:=by
  have:(T i).aK ⟨Wd.zero,true⟩={T i with l:=(T i).l,t:=.fU (Ca.of 6)}:=Th.bG ht rfl
  exact this
 have P:Plain (T i):=cz (.inr (.inr (.inr (.inr (.inr (.inr (.inr (.inr (.inr ⟨_,_,ht⟩)))))))))
 have P':Plain {T i with t:=.fU (Ca.of 6)}:=cz (.inr (.inr (.inr (.inr (.inr (.inr (.inr (.inr (.inl ⟨_,rfl⟩)))))))))
 have hc:Calm (.fU (Ca.of 6)):=dY (.inl (by simp only [RT.aW];omega))
 have hac:(T i).t.acc (T i).l=a:=by rw [ht];rfl
 rcases he with ⟨he,ha⟩ | ⟨he,ha⟩
 ·exact H.Kc hi P hac ha he htk P' hc ⟨q,rfl⟩
 ·exact H.Kb hi P hac ha (.inr he) (.inr trivial) htk P' hc ⟨q,rfl⟩ (fun _=>L.on (.inr he) (Th.iQ (by omega))) id id
theorem Inv.Tf (H:Inv n e p T own A) (hi:i<n) (ht:(T i).t=.ou):kT n e p T i:=by
 have L:=H.loc i hi
 have hsh:=L.jN
 unfold Th.sh at hsh
 rw [ht] at hsh
 obtain ⟨q,he⟩:=hsh
 have htk:(T i).aK ⟨dW p.aB,true⟩={T i with t:=.one ⟨4,0,0,0,Wd.zero,Wd.dG p.aB⟩}:=by
  have:(T i).aK ⟨dW p.aB,true⟩={T i with l:=(T i).l,t:=.one ⟨4,0,0,0,Wd.zero,Wd.dG p.aB⟩}:=Th.bG ht rfl
  exact this
 refine jP (own':=own) (A':=A) (by rw [ht];rfl) (lS H) ?_
 rw [htk]
 refine H.calm hi H.iB ?_ ?_ rfl (L.go rfl (by unfold Th.dw;rw [ht];exact id) (by unfold Th.dI;rw [ht];exact id) (fun h _=>L.on h (Th.iQ (by omega))) (fun h=>absurd (show (T i).pc=0 from h) (by omega)) (.inr (.inl ⟨q,p.aB,rfl,Int.le_refl _⟩)))
  (fun w hw=>H.snap i hi w ?_) (fun w hw=>?_) (fun o b h=>(by cases h)) (fun w hw=>?_) (dY (.inl (by simp only [RT.aW];omega)))
 ·unfold Th.hand;rw [ht];simp [q]
 ·unfold Th.cut;rw [ht]
 ·unfold Th.snap;rw [ht,←hw];simp [Th.snap,q]
 ·simp [Th.full,q] at hw
 ·simp [Th.cZ,q] at hw
theorem Inv.NR (H:Inv n e p T own A) (hi:i<n) {o:Wd} (ht:(T i).t=.jC o):kT n e p T i:=by
 have L:=H.loc i hi
 have hsh:=L.jN
 unfold Th.sh at hsh
 rw [ht] at hsh
 obtain ⟨q,he⟩:=hsh
 have hct:(T i).cut=some o:=by unfold Th.cut;rw [ht]
 obtain ⟨m1,m2,m3,m4,m5⟩:=H.CG (o:=.cut i) (w:=o) hct
 have hal:p.act (Ac.load o.slot o.gen 9)=({p with steps:=p.steps+1},some ⟨p.at o.slot 9,true⟩):=qE (m5 9 (by decide) (by decide)) m4
 have hat:(p.at o.slot 9).num=p.aX o.slot:=by unfold PS.at PS.aX;rw [if_neg (by omega)];rfl
 have htk:(T i).aK ⟨p.at o.slot 9,true⟩={T i with t:=.dU o (p.aX o.slot)}:=by
  have:(T i).aK ⟨p.at o.slot 9,true⟩={T i with l:=(T i).l,t:=.dU o (p.aX o.slot)}:=Th.bG ht (by rw [←hat];rfl)
  exact this
 refine jP (own':=own) (A':=A) (by rw [ht];rfl) hal ?_
 rw [htk]
 refine H.calm hi H.iB ?_ ?_ rfl (L.go rfl (by unfold Th.dw;rw [ht];exact id) (by unfold Th.dI;rw [ht];exact id) (fun h _=>L.on h (Th.iQ (by omega))) (fun h=>absurd (show (T i).pc=0 from h) (by omega)) ⟨q,by omega⟩)
  (fun w hw=>?_) (fun w hw=>?_) (fun o' b h _=>?_) (fun w hw=>?_) (dY (.inl (by simp only [RT.aW];omega)))
 ·unfold Th.hand;rw [ht]
 ·rw [hct];rfl
 ·cases hw
 ·cases hw
 ·cases h;rfl
 ·cases hw
theorem Inv.Tg (H:Inv n e p T own A) (hi:i<n) {o:Wd} {b:Int} (ht:(T i).t=.dU o b):kT n e p T i:=by
 have L:=H.loc i hi
 have hsh:=L.jN
 unfold Th.sh at hsh
 rw [ht] at hsh
 obtain ⟨q,he⟩:=hsh
 have hct:(T i).cut=some o:=by unfold Th.cut;rw [ht]
 have hhd:(T i).hand=none:=by unfold Th.hand;rw [ht]
 have hk:¬(T i).dw:=by unfold Th.dw;rw [ht];exact id
 have hs:¬(T i).dI:=by unfold Th.dI;rw [ht];exact id
 have hrb:=H.rb i hi o b ht
 have hkey:∃t,(T i).aK ⟨dW p.aB,true⟩={T i with l:=RT.note (T i).l o b p.aB,t:=t}∧Plain {T i with l:=RT.note (T i).l o b p.aB,t:=t}∧Calm t∧({T i with l:=RT.note (T i).l o b p.aB,t:=t}:Th).sh e p.aB:=by
  by_cases hd:(T i).l.bu
  ·refine ⟨.jZ (dW p.aB),Th.bG ht ?_,cz (.inr (.inr (.inr (.inr (.inr (.inl ⟨_,rfl⟩)))))),dY (.inl (by simp only [RT.aW];omega)),⟨q,L.bu.1 hd,p.aB,Int.le_refl _,rfl⟩⟩
   show (if (T i).l.bu then _ else _:LR)=_
   rw [if_pos hd]
   rfl
  ·obtain ⟨t,n1,n2,n3,n4⟩:=Ka (h0:=T i) (l1:=RT.note (T i).l o b p.aB) q
   refine ⟨t,?_,n3,n4,?_⟩
   ·rw [←n1]
    unfold Th.aK
    rw [ht]
    show (T i).with (if (T i).l.bu then _ else _:LR)=_
    rw [if_neg hd]
    rfl
   ·have jT:(RT.note (T i).l o b p.aB).aj=e:=L.iA
    unfold Th.sh
    rcases n2 with n2 | ⟨n2,n5⟩ | ⟨n2,n5,n6⟩
    ·rw [n2];exact ⟨⟨by show 0≤(T i).pc;omega,by show (T i).pc≤7;omega⟩,fun h=>absurd (show (T i).pc=3 from h) (by omega)⟩
    ·rw [n5];exact ⟨.inr q,jT.symm.trans n2⟩
    ·rw [n6];exact ⟨.inr q,fun h=>n2 (jT.trans h),L.nC H.n6,fun h=>absurd (jT.trans h) n5⟩
 obtain ⟨t,htk,hP,hc,hst⟩:=hkey
 have hn:=H.note hi (k:=p.steps+1) (h':=(T i).aK ⟨dW p.aB,true⟩) H.iB hct (m:=⟨o.dK,b,p.aB⟩) ⟨rfl,rfl⟩ (by rw [htk,hP.hand,hhd]) (by rw [htk,hP.cut]) (by rw [htk];rfl)
  (by rw [htk];exact L.goN ⟨rfl,rfl,rfl,rfl,rfl,rfl⟩ hk hs (fun h _=>L.on h (Th.iQ (by omega))) (fun h=>absurd (show (T i).pc=0 from h) (by omega)) hst) (by rw [htk];exact hP.snap) (by rw [htk];exact hP.full) (by rw [htk];exact hP.vE) (by rw [htk];exact hP.cZ) (by rw [htk];exact hc)
  (fun h=>by rw [hrb (by omega)];rfl) (fun _=>rfl)
 obtain ⟨own',hI⟩:=hn
 exact ⟨_,_,own',A,by rw [ht];exact lS H,hI⟩
theorem Qq {c d:Int}:iJ (dW c) (dW d)↔c=d:=by
 unfold iJ dW
 simp only [true_and,and_true]
 constructor
 ·exact fun h=>h.2
 ·rintro rfl;exact ⟨rfl,rfl⟩
theorem LQ (H:Inv n e p T own A) {c:Int}:p.act (Ac.eO (dW c))=if p.aB=c then (p.dh (p.steps+1) 24 (dW (p.aB+1)),some ⟨dW p.aB,true⟩) else ({p with steps:=p.steps+1},some ⟨dW p.aB,false⟩):=by
 have:=J9 (p:=p) (s:=0) (g:=0) (f:=24) (o:=dW c) (w:=⟨0,0,(dW c).tag+1,(dW c).num+1,false⟩) (H.CF (by decide) (by decide)) Inv.xZ
 rw [qF,zU,show p.bd (24:Int).toNat=dW p.aB from H.clock.1] at this
 refine Eq.trans this ?_
 by_cases h:p.aB=c
 ·rw [if_pos (Qq.2 h),if_pos h,←h]
  have:(⟨0,0,(dW p.aB).tag+1,(dW p.aB).num+1,false⟩:Wd)=dW (p.aB+1):=by
   show (⟨0,0,p.aB-1+1,p.aB+1,false⟩:Wd)=⟨0,0,p.aB+1-1,p.aB+1,false⟩
   rw [show p.aB-1+1=p.aB+1-1 by omega]
  rw [this]
  rfl
 ·rw [if_neg (fun x=>h (Qq.1 x)),if_neg h]
theorem Inv.LU (H:Inv n e p T own A) (hi:i<n) {c:Int} (hac:(T i).t.acc (T i).l=Ac.eO (dW c)) (P:Plain (T i)) {t:RT} (htk:∀x,(T i).aK x={T i with t:=t}) (hP:Plain {T i with t:=t}) (hc:Calm t) (hl:({T i with t:=t}:Th).Loc e n p i) (h4:e=4→(T i).t=.iE (dW c)):kT n e p T i:=by
 have hal:=LQ H (c:=c)
 have hok:=H.uV (Ac.eO (dW c))
 by_cases hcc:p.aB=c
 ·rw [if_pos hcc] at hal
  rw [hal] at hok
  refine ⟨_,_,own,A,by rw [hac];exact hal,?_⟩
  rw [htk]
  exact H.tick hi hok (hP.hand.trans P.hand.symm) (hP.cut.trans P.cut.symm) rfl hl hP.snap hP.full hP.vE hP.cZ hc (fun e4=>by rw [h4 e4,hcc])
 ·rw [if_neg hcc] at hal
  refine ⟨_,_,own,A,by rw [hac];exact hal,?_⟩
  rw [htk]
  exact H.uX hi H.iB P hP rfl hl hc
end
end Go.Proofs.YthomdlajobnmnaaDoor
