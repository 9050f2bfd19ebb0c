/- part 20 of the proof -/
import Derived.Test.YthomdlajobnmnaaDoorQ10
import Derived.Test.YthomdlajobnmnaaDoorQ11
import Derived.Test.YthomdlajobnmnaaDoorQ12
import Derived.Test.YthomdlajobnmnaaDoorQ18
import Derived.Test.YthomdlajobnmnaaDoorQ19
set_option linter.unusedSimpArgs false
set_option linter.unusedVariables false
set_option linter.unusedSimpArgs false
set_option linter.unusedVariables false
namespace Go.Proofs.YthomdlajobnmnaaDoor
open Go.Rex
section
variable {n:Nat} {e:Int} {p:PS} {T:Nat→Th} {own:Int→iV} {A:Nat→Int} {i:Nat} {h h':Th}
theorem Kz {α:Type} (f:Nat→α) (i:Nat) (x y:α):bT (bT f i x) i y=bT f i y:=by
 funext k
 by_cases hk:k=i
 ·rw [hk,aS,aS]
 ·rw [bH _ _ hk,bH _ _ hk,bH _ _ hk]
theorem Jg {α:Type} (f:Nat→α) (i:Nat):bT f i (f i)=f:=by
 funext k
 by_cases hk:k=i
 ·rw [hk,aS]
 ·rw [bH _ _ hk]
def Th.rk (h:Th):Nat :=
 match h.t with
 | .idle _=>if h.pc=0 then 2 else if h.pc=4∨h.pc=7 then 3 else if h.pc=6 then 4 else 1
 | _=>0
theorem WA (h:Th):h.rk≤4:=by
 unfold Th.rk
 split
 ·repeat' first
   | (split)
   | omega
 ·omega
theorem VN (h0:h.pc=0):h.rk≤2:=by
 unfold Th.rk
 split
 ·rw [if_pos h0];omega
 ·omega
theorem XT (h0:h.pc=1):h.rk≤1:=by
 unfold Th.rk
 split
 ·rw [if_neg (by omega),if_neg (by omega),if_neg (by omega)];omega
 ·omega
theorem XU (h0:h.pc=7):h.rk≤3:=by
 unfold Th.rk
 split
 ·rw [if_neg (by omega),if_pos (.inr h0)];omega
 ·omega
theorem VO {x:Rp} (ht:h.t=.idle x) (hpc:0≤h.pc∧h.pc≤7):(h.eZ x).rk<h.rk:=by
 have hr:h.rk=if h.pc=0 then 2 else if h.pc=4∨h.pc=7 then 3 else if h.pc=6 then 4 else 1:=by unfold Th.rk;rw [ht]
 rcases (by omega:h.pc=0∨h.pc=1∨h.pc=2∨h.pc=3∨h.pc=4∨h.pc=5∨h.pc=6∨h.pc=7) with q | q | q | q | q | q | q | q
 ·rw [show h.rk=2 by rw [hr];simp [q]]
  unfold Th.eZ Th.call
  rw [if_pos q]
  exact Nat.lt_of_le_of_lt (XT rfl) (by omega)
 ·rw [show h.rk=1 by rw [hr];simp [q]]
  unfold Th.eZ Th.call
  rw [if_neg (by omega),if_pos q]
  simp [Th.with,RT.begin,Ca.of,Ca.zero,Th.rk]
 ·rw [show h.rk=1 by rw [hr];simp [q]]
  unfold Th.eZ Th.call
  rw [if_neg (by omega),if_neg (by omega),if_pos q]
  by_cases h0:x.word.slot=0
  ·simp [Th.with,RT.begin,Ca.of,Ca.zero,Th.rk,h0]
  ·simp [Th.with,RT.begin,Ca.of,Ca.zero,Th.rk,h0]
 ·rw [show h.rk=1 by rw [hr];simp [q]]
  unfold Th.eZ Th.call
  rw [if_neg (by omega),if_neg (by omega),if_neg (by omega),if_pos q]
  by_cases hd:h.l.bA
  ·simp [Th.with,RT.begin,Ca.of,Ca.zero,Th.rk,hd]
  ·simp [Th.with,RT.begin,Ca.of,Ca.zero,Th.rk,hd]
 ·rw [show h.rk=3 by rw [hr];simp [q]]
  unfold Th.eZ Th.call
  rw [if_neg (by omega),if_neg (by omega),if_neg (by omega),if_neg (by omega),if_pos q]
  cases hx:x.ok with
  | false =>
   rw [if_pos rfl]
   exact Nat.lt_of_le_of_lt (VN rfl) (by omega)
  | true =>
   rw [if_neg (by decide)]
   simp [Th.with,RT.begin,Ca.of,Ca.zero,Th.rk]
 ·rw [show h.rk=1 by rw [hr];simp [q]]
  unfold Th.eZ Th.call
  rw [if_neg (by omega),if_neg (by omega),if_neg (by omega),if_neg (by omega),if_neg (by omega),if_pos q]
  simp [Th.with,RT.begin,Ca.of,Ca.zero,Th.rk]
 ·rw [show h.rk=4 by rw [hr];simp [q]]
  unfold Th.eZ Th.call
  rw [if_neg (by omega),if_neg (by omega),if_neg (by omega),if_neg (by omega),if_neg (by omega),if_neg (by omega),if_pos q]
  exact Nat.lt_of_le_of_lt (XU rfl) (by omega)
 ·rw [show h.rk=3 by rw [hr];simp [q]]
  unfold Th.eZ Th.call
  rw [if_neg (by omega),if_neg (by omega),if_neg (by omega),if_neg (by omega),if_neg (by omega),if_neg (by omega),if_neg (by omega)]
  exact Nat.lt_of_le_of_lt (VN rfl) (by omega)
theorem TS {x:Rp} (hb:h.bad=false) (hx:h.pc=3→h.old.slot≠0→x.word.num=dH h.old):(h.eZ x).bad=false:=by
 unfold Th.eZ Th.call
 by_cases q:h.pc=3
 ·rw [if_neg (by omega),if_neg (by omega),if_neg (by omega),if_pos q]
  show (h.bad || (h.old.slot != 0 && x.word.num != dH h.old))=false
  rw [hb,Bool.false_or]
  by_cases h0:h.old.slot=0
  ·rw [h0];rfl
  ·rw [hx q h0];simp
 ·repeat' first
   | (split)
   | (exact absurd (by assumption) q)
   | (exact hb)
theorem Inv.go (hi:i<n):∀(k:Nat) {T:Nat→Th} {own:Int→iV},Inv n e p T own A→(T i).bad=false→(T i).rk<k→∃own',Inv n e p (bT T i ((T i).go k).1) own' A∧((T i).go k).1.bad=false ∧
  (((T i).go k).2=some true∧((T i).go k).1.stop=true∧((T i).go k).1.pc=0∧((T i).go k).1.t.bO=0∨((T i).go k).2=none∧((T i).go k).1.t.bO≠0)
 | 0,T,own,H,hb,hr=>absurd hr (Nat.not_lt_zero _)
 | k+1,T,own,H,hb,hr=>by
  by_cases h0:(T i).t.bO=0
  ·obtain ⟨x,ht⟩:=RT.vI h0
   rw [Th.Er ht]
   have hsh:=(H.loc i hi).lC
   unfold Th.sh at hsh
   rw [ht] at hsh
   by_cases hst:(T i).stop=true∧(T i).pc=0
   ·rw [if_pos hst]
    exact ⟨own,by rw [Jg];exact H,hb,.inl ⟨rfl,hst.1,hst.2,h0⟩⟩
   ·rw [if_neg hst]
    obtain ⟨VP,H1⟩:=H.eZ hi ht
    have:=Inv.go hi k (T:=bT T i ((T i).eZ x)) H1 (by rw [aS];exact TS hb hsh.2) (by rw [aS];exact Nat.lt_of_lt_of_le (VO ht hsh.1) (by omega))
    rw [aS,Kz] at this
    exact this
  ·rw [Th.vJ h0]
   exact ⟨own,by rw [Jg];exact H,hb,.inr ⟨rfl,h0⟩⟩
theorem Th.Loc.fits (L:h.Loc e n p i):h.t.fits h.l:=by
 have hsh:=L.lC
 unfold Th.sh at hsh
 have pM:=L.iR
 unfold RT.fits
 cases ht:h.t with
 | jA c w=>rw [ht] at hsh;exact L.bA.2 hsh.2.2
 | lu=>rw [ht] at hsh;exact pM.trans hsh.2
 | ji c=>rw [ht] at hsh;exact pM.trans hsh.2.1
 | gI=>rw [ht] at hsh;exact pM.trans hsh.2
 | dE c s=>rw [ht] at hsh;exact fun h=>hsh.2.1 (pM.symm.trans h)
 | gZ c=>rw [ht] at hsh;rw [hsh.2];exact ⟨by decide,by decide⟩
 | gU c a=>rw [ht] at hsh;rw [hsh.2.1];exact ⟨by decide,by decide⟩
 | _=>trivial
theorem Inv.step (H:Inv n e p T own A) (hi:i<n) (hb:(T i).bad=false):∃own' A',Inv n e ((T i).step p).2.1 (bT T i ((T i).step p).1) own' A'∧((T i).step p).2.2=true∧((T i).step p).1.bad=false∧((T i).go 12).1.t.fits ((T i).go 12).1.l ∧
  (p.steps≤((T i).step p).2.1.steps∧((T i).step p).2.1.steps≤p.steps+1):=by
 obtain ⟨VP,H1,hb1,hc⟩:=Inv.go (A:=A) hi 12 H hb (Nat.lt_of_le_of_lt (WA _) (by omega))
 have hf:((T i).go 12).1.t.fits ((T i).go 12).1.l:=by
  have:=(H1.loc i hi).fits
  rw [aS] at this
  exact this
 unfold Th.step
 generalize hg:(T i).go 12=g at *
 obtain ⟨g1,g2⟩:=g
 simp only at H1 hb1 hc hf ⊢
 rcases hc with ⟨rfl,c2,c3⟩ | ⟨rfl,c2⟩
 ·exact ⟨VP,A,H1,rfl,hb1,hf,Int.le_refl _,by show p.steps≤p.steps+1;omega⟩
 ·simp only
  rw [if_neg c2]
  obtain ⟨p',x,XV,A2,ha,hI⟩:=H1.acc hi (by rw [aS];exact c2)
  rw [aS] at ha hI
  rw [Kz] at hI
  have hst:=PS.NM p (g1.t.acc g1.l)
  rw [ha] at hst ⊢
  exact ⟨XV,A2,hI,rfl,hb1,hf,hst.2,hst.1⟩
def Th.new (e:Int) (me n:Nat) (most:Int):Th:=⟨⟨e,me,n,most,fun _=>Wd.zero,Sp.zero,[],0⟩,.idle ⟨Wd.zero,false⟩,0,Wd.zero,Wd.zero,false,false⟩
theorem Inv.init {most:Int} (hok:p.OK) (hnb:p.nb=85) (hg:p.gN=true) (h6:1≤n∧n≤6) (h5:1≤e∧e≤5) (hm:1≤most) (hbd:∀k,k≠24→p.bd k=Wd.zero) (hck:p.bd 24=eQ 1) (hu:∀k,p.used k=false) :
  Inv n e p (fun i=>Th.new e i n most) (fun _=>.free) (fun _=>1):=by
 have VQ:p.aJ=1:=by unfold PS.aJ;rw [hck];rfl
 have hrt:p.rt=none:=by unfold PS.rt;rw [hbd 0 (by omega)];rfl
 refine ⟨hok,hnb,hg,h6,h5,by rw [VQ];exact ⟨hck,by omega⟩,by rw [hbd 0 (by omega)];exact ⟨rfl,rfl⟩,?_,fun i hi=>?_,fun i hi=>⟨rfl,rfl,rfl⟩,fun i hi w hw=>(by cases hw),fun s hs=>absurd rfl hs.1,fun i hi w hw=>(by cases hw),fun s hs=>absurd rfl hs,fun i m hm=>(by cases hm),fun i hi o b h=>(by cases h),fun i hi w hw=>(by cases hw),fun _ i hi h=>?_⟩
 ·rw [hrt]
  refine ⟨fun s _ _=>?_,fun s h=>absurd rfl h,fun o w hc=>?_,fun s h=>absurd rfl h,fun s h=>(by cases h),fun i=>List.nodup_nil⟩
  ·rw [hu];exact ⟨fun h=>(by cases h),fun h=>absurd rfl h⟩
  ·cases o with
   | note i=>obtain ⟨m,hm,_⟩:=hc;cases hm
   | root=>cases hc
   | hand i=>cases hc
   | cut i=>cases hc
   | _=>exact hc.elim
 ·refine ⟨rfl,rfl,rfl,hm,fun k _=>rfl,fun k _ _=>hbd _ (by omega),fun _ _=>⟨rfl,hbd _ (by omega)⟩,fun _ _=>⟨rfl,hbd _ (by omega)⟩,fun _=>?_,.inl rfl,.inl (hbd _ (by omega)),fun _=>hbd _ (by omega),fun _=>hbd _ (by omega),fun _ hb=>?_,fun _=>⟨rfl,rfl⟩,⟨⟨show (0:Int)≤0 by decide,show (0:Int)≤7 by decide⟩,fun h=>absurd (show (0:Int)=3 from h) (by decide)⟩⟩
  ·rw [hbd _ (by omega),VQ]
   exact ⟨show (0:Int)≤1 by decide,show (0:Int)≤1 by decide⟩
  ·exact absurd (show (1:Int)≤0 from hb) (by decide)
 ·rw [hbd _ (by omega)] at h
  cases h
end
end Go.Proofs.YthomdlajobnmnaaDoor
set_option linter.unusedSimpArgs false
set_option linter.unusedVariables false
set_option linter.unusedSimpArgs false
set_option linter.unusedVariables false
namespace Go.Proofs.YthomdlajobnmnaaDoor
open Go.Rex
structure Wb (k:Int) (w:Wd):Prop where
 s:-2000≤w.slot∧w.slot≤2000
 g:-k≤w.gen∧w.gen≤k
 t:-(2000 * k+3000)≤w.tag∧w.tag≤2000 * k+3000
 n:-(2000 * k+3000)≤w.num∧w.num≤2000 * k+3000
theorem Wb.mono {k k':Int} {w:Wd} (h:Wb k w) (hk:k≤k'):Wb k' w:=by
 obtain ⟨h1,h2,h3,h4⟩:=h
 exact ⟨h1,by omega,by omega,by omega⟩
theorem Wb.zero {k:Int} (h:0≤k):Wb k Wd.zero:=by
 refine ⟨?_,?_,?_,?_⟩ <;> simp [Wd.zero] <;> omega
theorem Wb.num {k n:Int} (h:0≤k) (hn:-(2000 * k+3000)≤n∧n≤2000 * k+3000):Wb k (Wd.eD n):=by
 refine ⟨?_,?_,?_,hn⟩ <;> simp [Wd.eD] <;> omega
theorem Wb.ref {k:Int} {w:Wd} (h0:0≤k) (h:Wb k w):Wb k w.eF:=by
 obtain ⟨h1,h2,h3,h4⟩:=h
 refine ⟨h1,h2,?_,?_⟩ <;> simp [Wd.eF] <;> omega
structure PS.wb (k:Int) (p:PS):Prop where
 bd:∀i,Wb k (p.bd i)
 cell:∀i j,Wb k (p.cell i j)
theorem PS.wb.mono {k k':Int} {p:PS} (h:p.wb k) (hk:k≤k'):p.wb k':=⟨fun i=>(h.bd i).mono hk,fun i j=>(h.cell i j).mono hk⟩
theorem PS.wb.at {k:Int} {p:PS} (h:p.wb k) (s f:Int):Wb k (p.at s f):=by
 unfold PS.at
 split
 ·exact h.bd _
 ·exact h.cell _ _
theorem PS.wb.put {k:Int} {p:PS} (h:p.wb k) {s f:Int} {w:Wd} (hw:Wb k w):(p.put s f w).wb k:=by
 unfold PS.put
 split
 ·refine ⟨fun i=>?_,h.cell⟩
  show Wb k (if i=f.toNat then w else p.bd i)
  split
  ·exact hw
  ·exact h.bd i
 ·refine ⟨h.bd,fun i j=>?_⟩
  show Wb k (if i=(s-1).toNat∧j=f.toNat then w else p.cell i j)
  split
  ·exact hw
  ·exact h.cell i j
theorem PS.wb.act {k:Int} {p:PS} {a:Ac} (h0:0≤k) (h:p.wb k) (hok:p.OK) (hs:p.steps≤k) (ha:Wb (k+1) a.new):(p.act a).1.wb (k+1)∧∀x,(p.act a).2=some x→Wb (k+1) x.word:=by
 have h':p.wb (k+1):=h.mono (by omega)
 have hz:Wb (k+1) Wd.zero:=Wb.zero (by omega)
 unfold PS.act
 by_cases hv:p.valid a
 ·rw [if_pos hv]
  by_cases hr:p.right a
  ·rw [if_pos hr]
   have q:(PS.wb (k+1) {p with steps:=p.steps+1}):=⟨h'.bd,h'.cell⟩
   suffices hm:(PS.makes {p with steps:=p.steps+1} a).1.wb (k+1)∧Wb (k+1) (PS.makes {p with steps:=p.steps+1} a).2.word from ⟨hm.1,fun x hx=>by cases hx;exact hm.2⟩
   unfold PS.makes
   split
   ·unfold PS.alloc
    split
    ·exact ⟨q,hz⟩
    ·rename_i hnf
     have YR:¬p.nf=0:=hnf
     have YS:=hok.nf
     have hfr:=hok.fr (p.nf-1).toNat (by omega)
     have hg:=hok.gen (p.fr (p.nf-1).toNat-1).toNat
     have hmd:=hok.made
     have hns:=hok.ns
     refine ⟨⟨h'.bd,fun i j=>?_⟩,?_⟩
     ·show Wb (k+1) (if i=(p.fr (p.nf-1).toNat-1).toNat∧j<10 then nP a.new.num j else p.cell i j)
      split
      ·unfold nP
       split
       ·exact ⟨hz.s,hz.g,hz.t,ha.n⟩
       ·exact hz
      ·exact h'.cell i j
     ·refine ⟨?_,?_,?_,?_⟩
      ·show -2000≤p.fr (p.nf-1).toNat∧p.fr (p.nf-1).toNat≤2000
       omega
      ·show -(k+1)≤p.gen (p.fr (p.nf-1).toNat-1).toNat+1∧p.gen (p.fr (p.nf-1).toNat-1).toNat+1≤k+1
       omega
      ·show -(2000 * (k+1)+3000)≤0∧0≤2000 * (k+1)+3000
       omega
      ·show -(2000 * (k+1)+3000)≤0∧0≤2000 * (k+1)+3000
       omega
   split
   ·exact ⟨⟨h'.bd,h'.cell⟩,hz⟩
   split
   ·exact ⟨q,q.at _ _⟩
   split
   ·exact ⟨q.put ha,hz⟩
   split
   ·exact ⟨q.put ha,q.at _ _⟩
   ·exact ⟨q,q.at _ _⟩
  ·rw [if_neg hr]
   refine ⟨⟨h'.bd,h'.cell⟩,fun x hx=>?_⟩
   cases hx
   unfold fw
   split
   ·exact ⟨hz.s,hz.g,hz.t,by show -(2000 * (k+1)+3000)≤-1∧(-1:Int)≤2000 * (k+1)+3000;omega⟩
   ·exact hz
 ·rw [if_neg hv]
  exact ⟨h',fun x hx=>by cases hx⟩
def RT.wb (k:Int):RT→Prop
 | .idle x=>Wb k x.word
 | .one a=>Wb (k+1) a.new
 | .fin a=>Wb (k+1) a.new
 | .jA _ w=>Wb k w
 | .gU _ a=>Wb (k+1) a.new
 | .jB old=>Wb k old
 | .dW old _=>Wb k old
 | .lq c=>Wb k c
 | .dE c _=>Wb k c
 | .ji c=>Wb k c
 | _=>True
structure Lo.wb (k:Int) (l:Lo):Prop where
 h:∀i,Wb k (l.h i)
 lo:-(2000 * k+3000)≤l.s.low∧l.s.low≤2000 * k+3000
 hi:-(2000 * k+3000)≤l.s.high∧l.s.high≤2000 * k+3000
structure uK (k:Int) (q:LR):Prop where
 l:q.1.wb k
 t:q.2.wb k
section
variable {k:Int} {l:Lo}
theorem Lo.wb.mono {k':Int} (h:l.wb k) (hk:k≤k'):l.wb k':=⟨fun i=>(h.h i).mono hk,by have:=h.lo;omega,by have:=h.hi;omega⟩
theorem Lo.wb.hold (h:l.wb k) {w:Wd} (hw:Wb k w) (n:Int):(l.hold n w).wb k:=by
 refine ⟨fun i=>?_,h.lo,h.hi⟩
 show Wb k (if i=n.toNat then w else l.h i)
 split
 ·exact hw
 ·exact h.h i
theorem fK {c:Prop} [Decidable c] {a b:LR} (h1:c→uK k a) (h2:¬c→uK k b):uK k (if c then a else b):=by
 split
 ·exact h1 (by assumption)
 ·exact h2 (by assumption)
theorem KA (h0:0≤k) {s:Sp} (h1:-(2000 * k+3000)≤s.low∧s.low≤2000 * k+3000) (h2:-(2000 * k+3000)≤s.high∧s.high≤2000 * k+3000):Wb k (RS.ll s):=by
 unfold RS.ll
 split
 ·refine ⟨?_,?_,h2,h1⟩
  ·show (-2000:Int)≤0∧(0:Int)≤2000
   exact ⟨by decide,by decide⟩
  ·show -k≤0∧0≤k
   omega
 ·exact Wb.zero h0
theorem Jh (h0:0≤k) (h:l.wb k) (n:Int):uK k (RT.leave l n):=by
 have hz:∀{k:Int},0≤k→Wb k Wd.zero:=Wb.zero
 unfold RT.leave
 refine fK (fun _=>⟨⟨h.h,by show -(2000 * k+3000)≤0∧0≤2000 * k+3000;omega,by show -(2000 * k+3000)≤0∧0≤2000 * k+3000;omega⟩,?_⟩) fun _=>fK (fun _=>?_) fun _=>⟨h,hz h0⟩
 ·exact hz (by omega)
 ·split
  ·exact ⟨h.hold (hz h0) _,trivial⟩
  ·exact ⟨h,hz h0⟩
theorem KC (h0:0≤k) (h:l.wb k):uK k (RT.scan l):=by
 unfold RT.scan
 exact fK (fun _=>⟨h,Wb.zero h0⟩) fun _=>fK (fun _=>⟨h,trivial⟩) fun _=>⟨h,Wb.zero h0⟩
theorem BC (h0:0≤k) (h:l.wb k):uK k (RT.dn l):=by
 unfold RT.dn
 exact fK (fun _=>KC h0 h) fun _=>⟨h,Wb.zero h0⟩
theorem O3 (h0:0≤k) (h:l.wb k) {w:Wd} (hw:Wb k w):uK k (RT.fB l w):=by
 unfold RT.fB
 exact fK (fun _=>BC h0 ⟨h.h,h.lo,h.hi⟩) fun _=>fK (fun _=>⟨h,hw⟩) fun _=>fK (fun _=>⟨h,hw⟩) fun _=>⟨h,Wb.zero h0⟩
theorem Ri (h0:0≤k) (h:l.wb k) {c:Ca} (hn:Wb (k+1) c.new) (ho:Wb k c.old):uK k (RT.begin l c):=by
 have hz:∀{k:Int},0≤k→Wb k Wd.zero:=Wb.zero
 unfold RT.begin
 refine fK (fun _=>fK (fun _=>⟨h,trivial⟩) fun _=>⟨h,hz h0⟩) fun _=>fK (fun _=>Jh h0 h 0) fun _=>fK (fun _=>⟨h,?_⟩) fun _=>fK (fun _=>⟨h,hn⟩) fun _=>fK (fun _=>⟨h,hn⟩) fun _=>fK (fun _=>⟨h,trivial⟩) fun _ =>
  fK (fun _=>fK (fun _=>⟨h.hold (h.h _) _,(h.h _).mono (by omega)⟩) fun _=>⟨h,hz h0⟩) fun _=>fK (fun _=>fK (fun _=>⟨h,trivial⟩) fun _=>⟨h,?_⟩) fun _=>fK (fun _=>⟨h,?_⟩) fun _=>fK (fun _=>O3 h0 h ho) fun _=>KC h0 h
 ·exact hz (by omega)
 ·exact hz (by omega)
 ·exact hz (by omega)
theorem Eu (h0:0≤k) (h:l.wb k) (r:List Nt):uK k (RT.eG l r):=by
 cases r
 ·exact ⟨h,Wb.zero h0⟩
 ·exact ⟨h,trivial⟩
theorem TT (h0:0≤k) (h:l.wb k) {t:RT} (ht:t.wb k) {x:Rp} (hx:Wb (k+1) x.word):uK (k+1) (RT.bq l t x):=by
 have h':l.wb (k+1):=h.mono (by omega)
 have hz:∀{k:Int},0≤k→Wb k Wd.zero:=Wb.zero
 have hz1:Wb (k+1) Wd.zero:=hz (by omega)
 have xn:-(2000 * (k+1)+3000)≤x.word.num∧x.word.num≤2000 * (k+1)+3000:=hx.n
 have hs:Wb (k+1) (Wd.eD x.word.num):=Wb.num (by omega) xn
 cases t with
 | idle y=>exact ⟨h',Wb.mono ht (by omega)⟩
 | one a=>exact ⟨h',hx⟩
 | fin a=>exact ⟨h',hz1⟩
 | pJ=>exact ⟨⟨h'.h,xn,xn⟩,(KA (k:=k+1) (s:=⟨true,x.word.num,x.word.num⟩) (by omega) xn xn).mono (by omega)⟩
 | jD i=>exact Jh (by omega) h' _
 | gZ c =>
  exact fK (fun _=>⟨h',hx⟩) fun _=>fK (fun _=>⟨h'.hold (hx.ref (by omega)) _,(hx.ref (by omega):Wb (k+1) _).mono (by omega)⟩) fun _=>⟨h',hx⟩
 | jA c w =>
  refine fK (fun _=>⟨h',Wb.mono ht (by omega)⟩) fun _=>fK (fun _=>⟨h'.hold hs _,hs.mono (by omega)⟩) fun _=>?_
  have hl:-(2000 * (k+1)+3000)≤(if l.s.is=true then l.s.low else x.word.num)∧(if l.s.is=true then l.s.low else x.word.num)≤2000 * (k+1)+3000:=by
   split
   ·exact h'.lo
   ·exact xn
  exact ⟨⟨h'.h,hl,xn⟩,(KA (k:=k+1) (s:=⟨true,if l.s.is=true then l.s.low else x.word.num,x.word.num⟩) (by omega) hl xn).mono (by omega)⟩
 | gU c a=>exact ⟨h',trivial⟩
 | oJ=>exact ⟨h',hs.mono (by omega)⟩
 | jB old=>exact ⟨h',Wb.mono ht (by omega)⟩
 | dW old b=>exact fK (fun _=>⟨⟨h'.h,h'.lo,h'.hi⟩,hx⟩) fun _=>BC (by omega) ⟨h'.h,h'.lo,h'.hi⟩
 | lq c=>exact BC (by omega) h'
 | lu=>exact ⟨h',hx⟩
 | dE c seen =>
  exact fK (fun _=>⟨h',Wb.mono ht (by omega)⟩) fun _=>fK (fun _=>Eu (by omega) h' _) fun _=>fK (fun _=>⟨h',Wb.mono ht (by omega)⟩) fun _=>⟨h',trivial⟩
 | ji c=>exact ⟨h',trivial⟩
 | gI=>exact Eu (by omega) h' _
 | ib d r=>exact Eu (l:={l with notes:=l.notes.erase d,freed:=l.freed+1}) (by omega) ⟨h'.h,h'.lo,h'.hi⟩ r
theorem O4 (h0:0≤k) {t:RT} (ht:t.wb k) (h:l.wb k):Wb (k+1) (t.acc l).new:=by
 have hz:Wb (k+1) Wd.zero:=Wb.zero (by omega)
 have dS:∀{c:Wd},Wb k c→Wb (k+1) ⟨0,0,c.tag+1,c.num+1,false⟩:=fun {c} hc=>by
  obtain ⟨a,b,d,e⟩:=hc
  refine ⟨⟨by show (-2000:Int)≤0;decide,by show (0:Int)≤2000;decide⟩,?_,?_,?_⟩
  ·show -(k+1)≤0∧0≤k+1
   omega
  ·show -(2000 * (k+1)+3000)≤c.tag+1∧c.tag+1≤2000 * (k+1)+3000
   omega
  ·show -(2000 * (k+1)+3000)≤c.num+1∧c.num+1≤2000 * (k+1)+3000
   omega
 cases t with
 | one a=>exact ht
 | fin a=>exact ht
 | gU c a=>exact ht
 | lq c=>exact dS ht
 | ji c=>exact dS ht
 | _=>exact hz
end
structure Th.wb (k:Int) (h:Th):Prop where
 old:Wb k h.old
 node:Wb k h.node
 l:h.l.wb k
 t:h.t.wb k
section
variable {k:Int} {h:Th}
theorem Th.wb.mono {k':Int} (H:h.wb k) (h0:0≤k) (hk:k≤k'):h.wb k':=by
 refine ⟨H.old.mono hk,H.node.mono hk,H.l.mono hk,?_⟩
 have ht:=H.t
 revert ht
 cases h.t <;> intro ht <;> first | exact trivial | exact Wb.mono ht (by omega)
theorem VR (h0:0≤k) {w:Wd} (h:Wb k w):Wb k (Wd.eD (dH w)):=by
 obtain ⟨a,b,c,d⟩:=h
 refine Wb.num h0 ?_
 unfold dH
 omega
theorem Th.wb.call (h0:0≤k) (H:h.wb k) {x:Rp} (hx:Wb k x.word):(h.call x).1.wb k∧Wb (k+1) (h.call x).2.new∧Wb k (h.call x).2.old:=by
 have hz:Wb k Wd.zero:=Wb.zero h0
 have hz1:Wb (k+1) Wd.zero:=Wb.zero (by omega)
 have hk1:Wb (k+1) (⟨h.node.slot,h.node.gen,h.old.tag+1,0,false⟩:Wd):=by
  have a:=H.node
  have b:=H.old
  refine ⟨a.s,?_,?_,?_⟩
  ·have:=a.g
   show -(k+1)≤h.node.gen∧h.node.gen≤k+1
   omega
  ·have:=b.t
   show -(2000 * (k+1)+3000)≤h.old.tag+1∧h.old.tag+1≤2000 * (k+1)+3000
   omega
  ·show -(2000 * (k+1)+3000)≤0∧0≤2000 * (k+1)+3000
   omega
 have hm1:=(VR h0 hx).mono (show k≤k+1 by omega)
 have st:∀{pc:Int} {b:Bool},Th.wb k {h with pc:=pc,bad:=b}:=⟨H.old,H.node,H.l,H.t⟩
 have so:∀{pc:Int},Th.wb k {h with pc:=pc,old:=x.word}:=⟨hx,H.node,H.l,H.t⟩
 have sn:∀{pc:Int},Th.wb k {h with pc:=pc,node:=x.word}:=⟨H.old,hx,H.l,H.t⟩
 unfold Th.call
 split
 ·exact ⟨st,hz1,hz⟩
 split
 ·exact ⟨st,hz1,hz⟩
 split
 ·refine ⟨so,?_,?_⟩
  ·show Wb (k+1) (Ca.new (if x.word.slot=0 then Ca.of 3 else {Ca.of 3 with slot:=x.word.slot,gen:=x.word.gen,field:=1}))
   split <;> exact hz1
  ·show Wb k (Ca.old (if x.word.slot=0 then Ca.of 3 else {Ca.of 3 with slot:=x.word.slot,gen:=x.word.gen,field:=1}))
   split <;> exact hz
 split
 ·exact ⟨st,hz1,hz⟩
 split
 ·split
  ·exact ⟨st,hz1,hz⟩
  ·exact ⟨sn,hm1,hz⟩
 split
 ·exact ⟨st,hk1,H.old⟩
 split
 ·refine ⟨st,?_,?_⟩
  ·show Wb (k+1) (Ca.new (if x.ok=false then {Ca.of 9 with old:=h.node} else if h.old.slot=0 then Ca.of 3 else {Ca.of 10 with old:=h.old}))
   split
   ·exact hz1
   split <;> exact hz1
  ·show Wb k (Ca.old (if x.ok=false then {Ca.of 9 with old:=h.node} else if h.old.slot=0 then Ca.of 3 else {Ca.of 10 with old:=h.old}))
   split
   ·exact H.node
   split
   ·exact hz
   ·exact H.old
 ·exact ⟨st,hz1,hz⟩
theorem Th.wb.eZ (h0:0≤k) (H:h.wb k) {x:Rp} (hx:Wb k x.word):(h.eZ x).wb k:=by
 obtain ⟨a,b,c⟩:=H.call h0 hx
 obtain ⟨d,e⟩:=Ri h0 a.l b c
 exact ⟨a.old,a.node,d,e⟩
theorem Th.wb.bq (h0:0≤k) (H:h.wb k) {x:Rp} (hx:Wb (k+1) x.word):(h.bq x).wb (k+1):=by
 obtain ⟨a,b⟩:=TT h0 H.l H.t hx
 exact ⟨H.old.mono (by omega),H.node.mono (by omega),a,b⟩
end
end Go.Proofs.YthomdlajobnmnaaDoor
set_option linter.unusedSimpArgs false
set_option linter.unusedVariables false
set_option linter.unusedSimpArgs false
set_option linter.unusedVariables false
namespace Go.Proofs.YthomdlajobnmnaaDoor
open Go.Rex
section
variable {n:Nat} {e:Int} {p:PS} {T:Nat→Th} {own:Int→iV} {A:Nat→Int} {i:Nat} {h h':Th}
theorem oO:∀{l m:List Int},l.Nodup→(∀x∈l,x∈m)→l.length≤m.length
 | [],m,_,_=>Nat.zero_le _
 | x :: l,m,h,hs=>by
  rw [List.nodup_cons] at h
  have hx:=hs x (List.mem_cons_self ..)
  have:=oO (l:=l) (m:=m.erase x) h.2 fun y hy=>by
   have hne:y≠x:=fun e=>h.1 (by rw [←e];exact hy)
   exact (List.mem_erase_of_ne hne).2 (hs y (List.mem_cons_of_mem _ hy))
  rw [List.length_erase_of_mem hx] at this
  have:=List.length_pos_of_mem hx
  simp only [List.length_cons]
  omega
end
end Go.Proofs.YthomdlajobnmnaaDoor
set_option linter.unusedSimpArgs false
set_option linter.unusedVariables false
set_option linter.unusedSimpArgs false
set_option linter.unusedVariables false
namespace Go.Proofs.YthomdlajobnmnaaDoor
open Go.Rex
def Th.gd (p:PS) (h:Th):Prop:=(h.l.ak=2→(p.bd 0).slot=0∨h.l.h 0=(p.bd 0).eF)∧(h.l.ak=3∨h.l.ak=5→RT.cZ h.l 0 p.aJ)
instance (p:PS) (h:Th):Decidable (h.gd p):=by unfold Th.gd;exact inferInstance
def Th.left (p:PS) (h:Th):Int :=
 match h.t with
 | .idle _=>if h.pc=0 then 0 else if h.pc=7 then 2 else (if h.pc=6 then 10 else if h.pc=5 then 12 else if h.pc=4 then 14 else if h.pc=3 then 17 else if h.pc=2 then 19 else 26)+(h.l.notes.length+h.l.all)
 | .one _=>if h.pc=7 then 3 else (if h.pc=6 then 11 else if h.pc=5 then 13 else if h.pc=4 then 15 else 18)+(h.l.notes.length+h.l.all)
 | .fin _=>if h.pc=0 then 1 else if h.pc=7 then 3 else 27+(h.l.notes.length+h.l.all)
 | .pJ=>28+(h.l.notes.length+h.l.all)
 | .jD _=>1
 | .gZ _=>(if h.gd p then 21 else 24)+(h.l.notes.length+h.l.all)
 | .jA _ _=>(if h.gd p then 20 else 23)+(h.l.notes.length+h.l.all)
 | .gU _ _=>(if h.gd p then 22 else 25)+(h.l.notes.length+h.l.all)
 | .oJ=>16+(h.l.notes.length+h.l.all)
 | .jB _=>9+(h.l.notes.length+h.l.all)
 | .dW _ _=>8+(h.l.notes.length+h.l.all)
 | .lq _=>6+(h.l.notes.length+h.l.all)
 | .lu=>5+(h.l.notes.length+h.l.all)
 | .dE _ seen=>4+(h.l.notes.length+(h.l.all-seen.length))
 | .ji _=>4+h.l.notes.length
 | .gI=>3+h.l.notes.length
 | .ib _ r=>3+r.length
section
variable {n:Nat} {e:Int} {p p':PS} {T:Nat→Th} {own:Int→iV} {A:Nat→Int} {i:Nat} {h h':Th}
theorem Jz:∀(N:Nat) {l:List Int},l.Nodup→(∀x∈l,1≤x∧x≤(N:Int))→l.length≤N:=by
 intro N l h hs
 have:=oO (l:=l) (m:=(List.range N).map fun k:Nat=>(k:Int)+1) h fun x hx=>by
  obtain ⟨h1,h2⟩:=hs x hx
  exact List.mem_map.2 ⟨(x-1).toNat,List.mem_range.2 (by omega),by omega⟩
 simpa using this
theorem Inv.Rj (H:Inv n e p T own A):((T i).l.notes.length:Int)≤p.ns:=by
 have h0:=H.ok.ns
 have:=Jz p.ns.toNat (H.oi.qO i) fun x hx=>by
  obtain ⟨m,hm,rfl⟩:=List.mem_map.1 hx
  obtain ⟨r1,r2,_⟩:=H.oi.jY (o:=.note i) (w:=m.ref) ⟨m,hm,rfl⟩
  omega
 rw [List.length_map] at this
 omega
end
end Go.Proofs.YthomdlajobnmnaaDoor
set_option linter.unusedSimpArgs false
set_option linter.unusedVariables false
set_option linter.unusedSimpArgs false
set_option linter.unusedVariables false
namespace Go.Proofs.YthomdlajobnmnaaDoor
open Go.Rex
theorem iA {q:Prop} [Decidable q] {l:Lo} {a b:LR} (h1:a.1.freed=l.freed) (h2:b.1.freed=l.freed):(if q then a else b).1.freed=l.freed:=by
 by_cases h:q
 ·rw [if_pos h];exact h1
 ·rw [if_neg h];exact h2
theorem Al (l:Lo) (k:Int):(RT.leave l k).1.freed=l.freed:=by
 refine iA rfl (iA ?_ rfl)
 cases RS.first l.h k.toNat (9-k.toNat) <;> rfl
theorem Dt (l:Lo):(RT.scan l).1.freed=l.freed:=iA rfl (iA rfl rfl)
theorem uL (l:Lo):(RT.dn l).1.freed=l.freed:=iA (Dt l) rfl
theorem JA (l:Lo) (c:Ca):(RT.begin l c).1.freed=l.freed :=
 iA (iA rfl rfl)<|iA (Al l 0)<|iA rfl<|iA rfl<|iA rfl<|iA rfl<|iA (iA rfl rfl)<|iA (iA rfl rfl)<|iA rfl<|iA (iA (uL _)<|iA rfl<|iA rfl rfl) (Dt l)
theorem xk (l:Lo) (r:List Nt):(RT.eG l r).1.freed=l.freed:=by cases r <;> rfl
theorem Mx (l:Lo) (t:RT) (x:Rp):l.freed≤(RT.bq l t x).1.freed∧(RT.bq l t x).1.freed≤l.freed+1:=by
 have e:∀{a:LR},a.1.freed=l.freed→l.freed≤a.1.freed∧a.1.freed≤l.freed+1:=fun h=>by omega
 cases t with
 | jD i=>exact e (Al l _)
 | gZ c=>exact e (iA rfl (iA rfl rfl))
 | jA c w=>exact e (iA rfl (iA rfl rfl))
 | dW old b=>exact e (iA rfl (uL _))
 | lq _=>exact e (uL l)
 | dE ck seen=>exact e (iA rfl (iA (xk _ _) (iA rfl rfl)))
 | gI=>exact e (xk _ _)
 | ib d r =>
  have:=xk {l with notes:=l.notes.erase d,freed:=l.freed+1} r
  show l.freed≤(RT.eG _ _).1.freed∧(RT.eG _ _).1.freed≤l.freed+1
  rw [this]
  show l.freed≤l.freed+1∧l.freed+1≤l.freed+1
  omega
 | _=>exact e rfl
theorem Th.FE (h:Th) (x:Rp):(h.eZ x).l.freed=h.l.freed:=by
 have:=JA (h.call x).1.l (h.call x).2
 rw [(h.Dp x).1] at this
 show (RT.begin (h.call x).1.l (h.call x).2).1.freed=_
 rw [(h.Dp x).1]
 exact this
theorem MT.eZ {m:Mn} {h:Th} (H:MT m h) (ho:h.l.OK) {x:Rp} (hx:h.t=.idle x):MT {m.next.1 with r:=(m.r.begin m.next.2).1} (h.eZ x)∧(m.r.begin m.next.2).2=true∧m.r.gq=x∧m.next.2.OK∧m.next.1.r=m.r:=by
 have hrep:iF h.l (.idle x) m.r:=by
  have:=H.rep
  rw [hx] at this
  exact this
 have hr:m.r.gq=x:=hrep.more
 obtain ⟨n1,n2,n3,n4,n5,n6,n7⟩:=H.next hr
 have hb:=hrep.begin ho (c:=(h.call x).2) (h.vg x)
 have hl:=h.Dp x
 refine ⟨⟨?_,n3,n4,n5,n6,n7⟩,?_,hr,?_,n2⟩
 ·show iF (RT.begin (h.call x).1.l (h.call x).2).1 (RT.begin (h.call x).1.l (h.call x).2).2 _
  rw [hl.1,n1]
  exact hb.1
 ·rw [n1];exact hb.2
 ·rw [n1];exact h.vg x
structure Good (k:Int) (n:Nat) (e:Int) (p:PS) (T:Nat→Th) (own:Int→iV) (A:Nat→Int) (i:Nat) (m:Mn):Prop where
 inv:Inv n e p T own A
 hi:i<n
 mt:MT m (T i)
 wb:(T i).wb k
 fr:0≤(T i).l.freed∧(T i).l.freed≤k
 pw:p.wb k
 st:p.steps≤k
 k0:0≤k
section
variable {n:Nat} {e k:Int} {p:PS} {T:Nat→Th} {own:Int→iV} {A:Nat→Int} {i:Nat} {m:Mn}
theorem Good.ok (G:Good k n e p T own A i m):(T i).l.OK:=(G.inv.loc i G.hi).ok G.hi G.inv.n6 G.inv.e5
theorem Good.eZ (G:Good k n e p T own A i m) (h0:m.r.step=0):m.next.2.OK∧(m.r.begin m.next.2).2=true∧m.next.1.r=m.r∧∃own',Good k n e p (bT T i ((T i).eZ m.r.gq)) own' A i {m.next.1 with r:=(m.r.begin m.next.2).1}:=by
 have hst:(T i).t.bO=0:=by rw [←G.mt.rep.step];exact h0
 obtain ⟨x,hx⟩:=RT.vI hst
 obtain ⟨a1,a2,a3,a4,a5⟩:=G.mt.eZ G.ok hx
 obtain ⟨own',hI⟩:=G.inv.eZ G.hi hx
 have hwx:Wb k x.word:=by
  have:=G.wb.t
  rw [hx] at this
  exact this
 refine ⟨a4,a2,a5,own',?_⟩
 rw [a3]
 have hf:=(T i).FE x
 refine ⟨hI,G.hi,by rw [aS];exact a1,by rw [aS];exact G.wb.eZ G.k0 hwx,by rw [aS,hf];exact G.fr,G.pw,G.st,G.k0⟩
structure Small (m:Mn):Prop where
 pc:0≤m.pc∧m.pc≤7
 old:(-1000000000000≤m.old.slot∧m.old.slot≤1000000000000)∧(-1000000000000≤m.old.gen∧m.old.gen≤1000000000000)∧(-1000000000000≤m.old.tag∧m.old.tag≤1000000000000)
 rp:(-1000000000000≤m.r.gq.word.slot∧m.r.gq.word.slot≤1000000000000)∧(-1000000000000≤m.r.gq.word.gen∧m.r.gq.word.gen≤1000000000000)
theorem Good.small (G:Good k n e p T own A i m) (hk:k≤1000000) (h0:m.r.step=0):Small m:=by
 have hst:(T i).t.bO=0:=by rw [←G.mt.rep.step];exact h0
 obtain ⟨x,hx⟩:=RT.vI hst
 have hwx:Wb k x.word:=by
  have:=G.wb.t
  rw [hx] at this
  exact this
 have hr:m.r.gq=x:=by
  have:=G.mt.rep
  rw [hx] at this
  exact this.more
 have hpc:0≤(T i).pc∧(T i).pc≤7:=by
  have:=(G.inv.loc i G.hi).lC
  unfold Th.sh at this
  rw [hx] at this
  exact this.1
 obtain ⟨o1,o2,o3,o4⟩:=G.wb.old
 obtain ⟨x1,x2,x3,x4⟩:=hwx
 refine ⟨by rw [G.mt.pc];exact hpc,?_,?_⟩
 ·rw [G.mt.old]
  omega
 ·rw [hr]
  omega
theorem Good.rs (G:Good k n e p T own A i m):((0≤m.r.me∧m.r.me<6)∧1≤m.r.threads∧m.r.threads≤6)∧m.r.notes.length≤1000000:=by
 have h1:=G.ok
 have h2:=G.mt.rep
 have h3:=G.inv.Rj (i:=i)
 have h4:=G.inv.ok.ns
 have a:=h1.me
 have b:=h1.threads
 rw [h2.me,h2.threads,h2.notes]
 omega
theorem Good.acc (G:Good k n e p T own A i m) (hk:k≤1000000) (h0:m.r.step≠0):∃p' x,p.act m.r.acc=(p',some x)∧m.r.Tk x∧p.OK:=by
 have hst:(T i).t.bO≠0:=by rw [←G.mt.rep.step];exact h0
 obtain ⟨p',x,own',A',ha,hI⟩:=G.inv.acc G.hi hst
 rw [←G.mt.rep.acc hst] at ha
 have L:=G.inv.loc i G.hi
 have hsh:=L.lC
 have hrep:=G.mt.rep
 have hrs:=G.rs
 have YA:Wb (k+1) x.word:=by
  have hn:Wb (k+1) m.r.acc.new:=by rw [hrep.acc hst];exact O4 G.k0 G.wb.t G.wb.l
  exact (G.pw.act G.k0 G.inv.ok G.st hn).2 x (by rw [ha])
 obtain ⟨x1,x2,x3,x4⟩:=YA
 have IA:m.r.step=13→∃ck seen,(T i).t=.dE ck seen:=fun h=>by
  rw [hrep.step] at h
  cases ht:(T i).t with
  | dE c s=>exact ⟨_,_,rfl⟩
  | _=>rw [ht] at h;cases h
 have hbd:∀ck seen,(T i).t=.dE ck seen→seen.length≤99999:=fun ck seen ht=>by
  unfold Th.sh at hsh
  rw [ht] at hsh
  obtain ⟨-,-,hl,-⟩:=hsh
  have:=L.oN
  have:=G.inv.n6
  have hall:(T i).l.all≤54:=by
   unfold Lo.all
   by_cases g:(T i).l.bf
   ·rw [if_pos g];omega
   ·rw [if_neg g];omega
  omega
 refine ⟨p',x,ha,⟨hrs.1.1,hrs.1.2,h0,hrs.2,fun h=>?_,fun h h4=>?_,fun h=>?_,by omega,by rw [hrep.freed];have:=G.fr;omega,fun h=>?_,fun h=>?_,fun h=>?_,fun h=>?_⟩,G.inv.ok⟩
 ·obtain ⟨ck,seen,ht⟩:=IA h
  have hb:=hbd ck seen ht
  rw [ht] at hrep
  rw [hrep.more.2.1]
  exact hb
 ·obtain ⟨ck,seen,ht⟩:=IA h
  have hw:Wb k ck:=by
   have:=G.wb.t
   rw [ht] at this
   exact this
  rw [ht] at hrep
  rw [hrep.more.1 (by rw [←hrep.ak];exact h4)]
  obtain ⟨w1,w2,w3,w4⟩:=hw
  omega
 ·obtain ⟨ck,seen,ht⟩:=IA h
  have hb:=hbd ck seen ht
  rw [ht] at hrep
  rw [hrep.more.2.2]
  omega
 ·rw [hrep.step] at h
  unfold Th.sh at hsh
  cases ht:(T i).t with
  | gI=>rw [ht] at hsh;rw [hrep.ak,L.iR];exact hsh.2
  | _=>rw [ht] at h;cases h
 ·rw [hrep.step] at h
  unfold Th.sh at hsh
  cases ht:(T i).t with
  | jD j =>
   rw [ht] at hsh hrep
   rw [hrep.more,hsh.2.1]
   decide
  | _=>rw [ht] at h;cases h
 ·have hc:m.r.call=Ca.of 6:=by
   rw [hrep.step] at h
   unfold Th.sh at hsh
   cases ht:(T i).t with
   | gZ c=>rw [ht] at hsh hrep;rw [hrep.more];exact hsh.2
   | jA c w=>rw [ht] at hsh hrep;rw [hrep.more.1];exact hsh.2.1
   | gU c a=>rw [ht] at hsh hrep;rw [hrep.more];exact hsh.2.1
   | _=>rw [ht] at h;rcases h with h | h | h <;> cases h
  rw [hc]
  decide
 ·rw [hrep.step] at h
  unfold Th.sh at hsh
  cases ht:(T i).t with
  | ib d r =>
   rw [ht] at hsh hrep
   exact ⟨d,r,hrep.more,by rw [hrep.notes];exact hsh.2.2.1 d (List.mem_cons_self ..)⟩
  | _=>rw [ht] at h;cases h
end
end Go.Proofs.YthomdlajobnmnaaDoor
set_option linter.unusedSimpArgs false
set_option linter.unusedVariables false
namespace Go.Proofs.YthomdlajobnmnaaDoor
open Go.Rex
def Sk:Kn:=[(.bQ (.var 0) (.lit 0),false),(.bQ (.lit 1024) (.var 0),false),(.bQ (.var 1) (.lit 0),false),(.bQ (.lit 200) (.var 1),false)]
noncomputable def VS:Ex:={sched:=sched,loops:=[Yu],fin:=vz}
def Ji:Out :=
 .alt
 (.ob (.aA (.lit 0) (.var 1)) <|
  .ob (.aA (.mul (.var 1) (.lit 40)) (.lit 281474976710656)) <|
  .ob (.aA (.var 1) (.lit 9223372036854775807)) <|
  .ob (.aA (.lit 0) (.var 0)) <|
  .ob (.aA (.mul (.var 0) (.lit 416)) (.lit 281474976710656)) <|
  .ob (.aA (.var 0) (.lit 9223372036854775807)) <|
  .loop 2 {lo:=2,az:=3,iv:=[(11,.lit 0),(10,.lit 0),(8,.lit 0),(7,.lit 0),(2,yv 0)],bv:=[(12,.lit true),(6,.lit true)],ct:=[(5,.up {r:=0,n1:=.var 0,s1:=52,n2:=10,s2:=5,lo:=2,ks:=yW,z:=true} 1 [] (.lit 0)),(4,.up {r:=0,n1:=.var 0,s1:=52,ks:=yB,z:=true} 0 [] (.lit 0)),(3,.up {r:=0,n1:=.var 1,s1:=5,ks:=yW,z:=true} 0 [] (.lit 0))],nb:=[4,3,4,3]} <|
  .br (.aA (.lit 1) (.var 2))
  (.ob (.aA (.mul (.add (.var 7) (.lit 1)) (.lit 8)) (.lit 140737488355328)) <|
   .ob (.aA (.lit 0) (.var 7)) <|
   .ob (.aA (.var 7) (.var 8)) <|
   .ob (.aA (.var 8) (.lit 9223372036854775807)) <|
   .ob (.or (.not (.var 6)) (.aC (.var 7) (.lit 0))) <|
   .new 13 [.be (.and (.aA (.add (.var 7) (.lit 1)) (.var 13)) (.aA (.var 13) (.lit 9223372036854775807)))] <|
   .ob (.inr .i64 (.sub (.var 2) (.lit 1))) <|
   .back 0 {lo:=2,az:=3,iv:=[(11,yv 11),(10,yv 10),(8,yv 13),(7,.add (.var 7) (.lit 1)),(2,.sub (.var 2) (.lit 1))],bv:=[(12,yw 12),(6,.lit false)],ct:=[(9,.up {r:=9,n1:=.add (.var 7) (.lit 1),s1:=1,ks:=yI} 0 [⟨0,(.var 7),(.lit 0),0,.int .i64 (.var 2)⟩] (.lit 0)),(5,.up {r:=5,n1:=.var 0,s1:=52,n2:=10,s2:=5,lo:=2,ks:=yW} 1 [] (.lit 0)),(4,yu 4 0 52 yB 0),(3,yu 3 1 5 yW 0)],bk:=[(4,yb 4),(3,yc 6 1)]})
  (.fin {lo:=2,az:=0,iv:=[(6,yv 11),(5,yv 10),(4,yv 8),(3,yv 7)],bv:=[(7,yw 12),(2,yw 6)],ct:=[(11,yu 9 7 1 yI 0),(10,.up {r:=5,n1:=.var 0,s1:=52,n2:=10,s2:=5,lo:=2,ks:=yW} 1 [] (.lit 0)),(9,yu 4 0 52 yB 0),(8,yu 3 1 5 yW 0)],bk:=[(4,yb 4),(3,yc 3 1),(2,yc 1 52),(1,yc 0 5),(0,yb 2)]}))
 (.ob (.aA (.lit 0) (.var 0)) <|
  .ob (.aA (.mul (.var 0) (.lit 416)) (.lit 281474976710656)) <|
  .ob (.aA (.var 0) (.lit 9223372036854775807)) <|
  .ob (.aA (.lit 0) (.var 1)) <|
  .ob (.aA (.mul (.var 1) (.lit 40)) (.lit 281474976710656)) <|
  .ob (.aA (.var 1) (.lit 9223372036854775807)) <|
  .loop 2 {lo:=2,az:=3,iv:=[(11,.lit 0),(10,.lit 0),(8,.lit 0),(7,.lit 0),(2,yv 0)],bv:=[(12,.lit true),(6,.lit true)],ct:=[(3,.up {r:=0,n1:=.var 1,s1:=5,ks:=yW,z:=true} 0 [] (.lit 0)),(5,.up {r:=0,n1:=.var 0,s1:=52,n2:=10,s2:=5,lo:=2,ks:=yW,z:=true} 1 [] (.lit 0)),(4,.up {r:=0,n1:=.var 0,s1:=52,ks:=yB,z:=true} 0 [] (.lit 0))],nb:=[4,3,4,3]} <|
  .br (.aA (.lit 1) (.var 2))
  (.ob (.aA (.mul (.add (.var 7) (.lit 1)) (.lit 8)) (.lit 140737488355328)) <|
   .ob (.aA (.lit 0) (.var 7)) <|
   .ob (.aA (.var 7) (.var 8)) <|
   .ob (.aA (.var 8) (.lit 9223372036854775807)) <|
   .ob (.or (.not (.var 6)) (.aC (.var 7) (.lit 0))) <|
   .new 13 [.be (.and (.aA (.add (.var 7) (.lit 1)) (.var 13)) (.aA (.var 13) (.lit 9223372036854775807)))] <|
   .ob (.inr .i64 (.sub (.var 2) (.lit 1))) <|
   .back 0 {lo:=2,az:=3,iv:=[(11,yv 11),(10,yv 10),(8,yv 13),(7,.add (.var 7) (.lit 1)),(2,.sub (.var 2) (.lit 1))],bv:=[(12,yw 12),(6,.lit false)],ct:=[(9,.up {r:=9,n1:=.add (.var 7) (.lit 1),s1:=1,ks:=yI} 0 [⟨0,(.var 7),(.lit 0),0,.int .i64 (.var 2)⟩] (.lit 0)),(3,yu 3 1 5 yW 0),(5,.up {r:=5,n1:=.var 0,s1:=52,n2:=10,s2:=5,lo:=2,ks:=yW} 1 [] (.lit 0)),(4,yu 4 0 52 yB 0)],bk:=[(4,yb 4),(3,yc 6 1)]})
  (.fin {lo:=2,az:=0,iv:=[(6,yv 11),(5,yv 10),(4,yv 8),(3,yv 7)],bv:=[(7,yw 12),(2,yw 6)],ct:=[(11,yu 9 7 1 yI 0),(10,.up {r:=5,n1:=.var 0,s1:=52,n2:=10,s2:=5,lo:=2,ks:=yW} 1 [] (.lit 0)),(9,yu 4 0 52 yB 0),(8,yu 3 1 5 yW 0)],bk:=[(4,yb 4),(3,yc 3 1),(2,yc 0 52),(1,yc 1 5),(0,yb 2)]}))
theorem TU:exec tab VS 8000 [] (fV 13 2 Sk [] vz.hp vz.args)=Ji:=by kernel_rfl
def qG (ρ:Env):Prop:=(0≤ρ.iv 0∧ρ.iv 0≤1024)∧0≤ρ.iv 1∧ρ.iv 1≤200
def zR (ρ:Env):Prop:=aZ ρ 2∧∃p:PS,ag ρ (ρ.iv 1) (ρ.iv 0) 2=p∧p.nb=ρ.iv 1∧p.ns=ρ.iv 0∧p.nf=ρ.iv 0∧p.steps=0∧p.made=0∧p.gN=true∧(∀i,p.bd i=Wd.zero)∧(∀i,p.gen i=0)∧(∀i,p.used i=false)∧(∀i k,p.cell i k=Wd.zero)∧∀i:Nat,(i:Int)<ρ.iv 0→p.fr i=ρ.iv 0-i
def vK (ρ:Env):Prop:=(0≤ρ.iv 2∧ρ.iv 2≤ρ.iv 0)∧aZ ρ 6∧ρ.iv 7=ρ.iv 0-ρ.iv 2∧ρ.iv 10=0∧ρ.iv 11=0∧ρ.bv 12=true∧(∀i,aD (ρ.ic 3 i 0) (ρ.bc 3 i 0)=Wd.zero)∧(∀i,ρ.ic 4 i 0 0=0∧ρ.bc 4 i 0 1=false)∧(∀i k,aD (ρ.ic 5 i k) (ρ.bc 5 i k)=Wd.zero)∧∀i:Nat,(i:Int)<ρ.iv 7→ρ.ic 9 i 0 0=ρ.iv 0-i
theorem Rk {q:Env} (hp:qG q) {σ:Sub} {k:Out} (h0:vK (σ.af q)) (hk:∀r,qG r→vK r→∀Γ,Γ=(fun ρ':Env=>vK ρ'∧ρ'.iv 2+1≤r.iv 2∧0≤ρ'.iv 2)→Sat zR [] [fun ρ'=>vK ρ'∧(ρ'.iv 2).toNat<(r.num.iv 2).toNat] r k):Sat zR [] [] q (.loop 2 σ k) :=
 Sat.ug vK (fun r=>(r.iv 2).toNat) qG h0 (fun _=>hp) fun r hp hI=>hk r hp hI _ rfl
set_option maxHeartbeats 1000000 in
theorem TV (q:Env) (hpre:qG q.num):Sat zR [] [] q Ji:=by
 replace hpre:qG q:=hpre
 obtain ⟨⟨a1,a2⟩,a3,a4⟩:=id hpre
 unfold Ji
 refine Sat.alt ?_ ?_
 all_goals
  refine Sat.ob (by simp only [Da];omega) (Sat.ob (by simp only [Da];omega) (Sat.ob (by simp only [Da];omega) (Sat.ob (by simp only [Da];omega) (Sat.ob (by simp only [Da];omega) (Sat.ob (by simp only [Da];omega) (Rk hpre ?_ fun r hp hI _ _=>?_))))))
  ·refine ⟨⟨a1,Int.le_refl _⟩,⟨fun _=>rfl,Int.le_refl 0,Int.le_refl 0,by show (0:Int)≤_;decide⟩,?_,rfl,rfl,rfl,fun i=>?_,fun i=>?_,fun i k=>?_,fun i hi=>?_⟩
   ·show (0:Int)=q.iv 0-q.iv 0
    omega
   ·simp [aD,Wd.zero,-Int.pred_toNat,Sub.af,assoc,CV.I,CV.B,ah,ai,aa.I,aa.B,SC.I,SC.B,IE.den,BE.den]
   ·simp [-Int.pred_toNat,Sub.af,assoc,CV.I,CV.B,ah,ai,aa.I,aa.B,SC.I,SC.B,IE.den,BE.den]
   ·simp [aD,Wd.zero,-Int.pred_toNat,Sub.af,assoc,CV.I,CV.B,ah,ai,aa.I,aa.B,SC.I,SC.B,IE.den,BE.den]
   ·have:(i:Int)<0:=hi
    omega
  ·obtain ⟨⟨a1,a2⟩,a3,a4⟩:=hp
   obtain ⟨⟨i1,i2⟩,ho,i3,i4,i5,i6,i7,i8,i9,i10⟩:=hI
   refine Sat.br (fun hlt=>?_) (fun hge=>?_)
   ·simp only [Da] at hlt
    refine Sat.ob (by simp only [Da];omega) (Sat.ob (decide_eq_true ho.2.1) (Sat.ob (decide_eq_true ho.2.2.1) (Sat.ob (decide_eq_true ho.2.2.2) (Sat.ob (aO ho) (Sat.yM (fun u=>qG u∧vK u∧1≤u.iv 2∧(u.iv 2-1).toNat<(r.num.iv 2).toNat) (fun _=>⟨⟨⟨a1,a2⟩,a3,a4⟩,⟨⟨i1,i2⟩,ho,i3,i4,i5,i6,i7,i8,i9,i10⟩,hlt,by show (r.iv 2-1).toNat<(r.iv 2).toNat;omega⟩) fun u hu hf=>?_)))))
    obtain ⟨⟨⟨a1,a2⟩,a3,a4⟩,⟨⟨i1,i2⟩,ho,i3,i4,i5,i6,i7,i8,i9,i10⟩,hlt,hm⟩:=hu
    simp only [Da] at hf
    have h7:0≤u.iv 7:=ho.2.1
    refine Sat.ob (by simp only [Da];omega) (Sat.back rfl ⟨⟨⟨by show 0≤u.iv 2-1;omega,by show u.iv 2-1≤u.iv 0;omega⟩,⟨fun h=>(by cases h),by show 0≤u.iv 7+1;omega,hf.1,hf.2⟩,by show u.iv 7+1=u.iv 0-(u.iv 2-1);omega,i4,i5,i6,fun i=>?_,fun i=>?_,fun i k=>?_,fun i hi=>?_⟩,hm⟩)
    ·rw [←i7 i]
     simp [aD,-Int.pred_toNat,Sub.af,assoc,CV.I,CV.B,ah,ai,aa.I,aa.B,SC.I,SC.B,IE.den,BE.den]
    ·obtain ⟨x,y⟩:=i8 i
     refine ⟨?_,?_⟩
     ·simp [-Int.pred_toNat,Sub.af,assoc,CV.I,CV.B,ah,ai,aa.I,aa.B,SC.I,SC.B,IE.den,BE.den,x]
     ·simp [-Int.pred_toNat,Sub.af,assoc,CV.I,CV.B,ah,ai,aa.I,aa.B,SC.I,SC.B,IE.den,BE.den,y]
    ·rw [←i9 i k]
     simp [aD,-Int.pred_toNat,Sub.af,assoc,CV.I,CV.B,ah,ai,aa.I,aa.B,SC.I,SC.B,IE.den,BE.den]
    ·replace hi:(i:Int)<u.iv 7+1:=hi
     by_cases h:i=(u.iv 7).toNat
     ·subst h
      have:(((u.iv 7).toNat:Nat):Int)=u.iv 7:=by omega
      simp [-Int.pred_toNat,Sub.af,assoc,CV.I,CV.B,ah,ai,aa.I,aa.B,SC.I,SC.B,IE.den,BE.den]
      omega
     ·have hr:=i10 i (by omega)
      have hr2:u.iv 0-(i:Int)=(u.iv 0-(i:Int)):=rfl
      simp [-Int.pred_toNat,Sub.af,assoc,CV.I,CV.B,ah,ai,aa.I,aa.B,SC.I,SC.B,IE.den,BE.den,Ne.symm h,hr]
   ·simp only [Da] at hge
    have h2:r.iv 2=0:=by omega
    refine Sat.fin ⟨ho,_,rfl,rfl,rfl,?_,i4,i5,i6,fun i=>?_,fun i=>?_,fun i=>?_,fun i k=>?_,fun i hi=>?_⟩
    ·show r.iv 7=r.iv 0
     omega
    ·rw [←i7 i]
     simp [ag,aD,-Int.pred_toNat,Sub.af,assoc,CV.I,CV.B,ah,ai,aa.I,aa.B,SC.I,SC.B,IE.den,BE.den]
    ·simp [ag,-Int.pred_toNat,Sub.af,assoc,CV.I,CV.B,ah,ai,aa.I,aa.B,SC.I,SC.B,IE.den,BE.den,(i8 i).1]
    ·simp [ag,-Int.pred_toNat,Sub.af,assoc,CV.I,CV.B,ah,ai,aa.I,aa.B,SC.I,SC.B,IE.den,BE.den,(i8 i).2]
    ·rw [←i9 i k]
     simp [ag,aD,-Int.pred_toNat,Sub.af,assoc,CV.I,CV.B,ah,ai,aa.I,aa.B,SC.I,SC.B,IE.den,BE.den]
    ·replace hi:(i:Int)<r.iv 0:=hi
     show _=r.iv 0-(i:Int)
     rw [←i10 i (by omega)]
     simp [ag,-Int.pred_toNat,Sub.af,assoc,CV.I,CV.B,ah,ai,aa.I,aa.B,SC.I,SC.B,IE.den,BE.den]
theorem TW:bC Tryd.prog vz qG zR :=
 dJ fu (E:=VS) (cs:=[]) rfl (fun k pre post h=>by cases h) di rfl TU (by kernel_rfl) (fun ρ h p hp=>by
   obtain ⟨⟨a1,a2⟩,a3,a4⟩:qG ρ.num:=h
   simp only [Sk,List.mem_cons,List.not_mem_nil,or_false] at hp
   rcases hp with rfl | rfl | rfl | rfl <;> simp only [Da] <;> omega) TV
end Go.Proofs.YthomdlajobnmnaaDoor
set_option linter.unusedSimpArgs false
set_option linter.unusedVariables false
set_option linter.unusedSimpArgs false
set_option linter.unusedVariables false
namespace Go.Proofs.YthomdlajobnmnaaDoor
open Go.Rex
def ja (ρ:Env) (n m:Int) (b:Nat):PS where
 nb:=n
 ns:=m
 nf:=ρ.iv (b+4)
 steps:=ρ.iv (b+7)
 made:=ρ.iv (b+8)
 gN:=ρ.bv (b+9)
 bd:=fun i=>aD (ρ.ic b i 0) (ρ.bc b i 0)
 gen:=fun i=>ρ.ic (b+1) i 0 0
 used:=fun i=>ρ.bc (b+1) i 0 1
 cell:=fun i k=>aD (ρ.ic (b+2) i k) (ρ.bc (b+2) i k)
 fr:=fun i=>ρ.ic (b+6) i 0 0
theorem pX {p q:PS} (h1:p.nb=q.nb:=by exact rfl) (h2:p.ns=q.ns:=by exact rfl) (h3:p.nf=q.nf:=by exact rfl) (h4:p.steps=q.steps:=by exact rfl) (h5:p.made=q.made:=by exact rfl) (h6:p.gN=q.gN:=by exact rfl)
    (h7:∀i,p.bd i=q.bd i:=by intro i;simp [ag,ja,aD,-Int.pred_toNat,Sub.af,assoc,CV.I,CV.B,ah,ai,aa.I,aa.B,SC.I,SC.B,IE.den,BE.den]) (h8:∀i,p.gen i=q.gen i:=by intro i;simp [ag,ja,-Int.pred_toNat,Sub.af,assoc,CV.I,CV.B,ah,ai,aa.I,aa.B,SC.I,SC.B,IE.den,BE.den]) (h9:∀i,p.used i=q.used i:=by intro i;simp [ag,ja,-Int.pred_toNat,Sub.af,assoc,CV.I,CV.B,ah,ai,aa.I,aa.B,SC.I,SC.B,IE.den,BE.den])
    (h10:∀i k,p.cell i k=q.cell i k:=by intro i k;simp [ag,ja,aD,-Int.pred_toNat,Sub.af,assoc,CV.I,CV.B,ah,ai,aa.I,aa.B,SC.I,SC.B,IE.den,BE.den]) (h11:∀i,p.fr i=q.fr i:=by intro i;simp [ag,ja,-Int.pred_toNat,Sub.af,assoc,CV.I,CV.B,ah,ai,aa.I,aa.B,SC.I,SC.B,IE.den,BE.den]):p=q:=PS.ext' h1 h2 h3 h4 h5 h6 h7 h8 h9 h10 h11
structure ry (p:PS) (n m:Int):Prop where
 nb:p.nb=n
 ns:p.ns=m
 nf:p.nf=m
 steps:p.steps=0
 made:p.made=0
 gN:p.gN=true
 bd:∀i,p.bd i=Wd.zero
 gen:∀i,p.gen i=0
 used:∀i,p.used i=false
 cell:∀i k,p.cell i k=Wd.zero
 fr:∀i:Nat,(i:Int)<m→p.fr i=m-i
theorem ry.ok {p:PS} {n m:Int} (h:ry p n m) (h1:0≤m∧m≤1024) (h2:0≤n∧n≤200):p.OK:=by
 have hu:∀k,jU p.used k=0:=fun k=>by
  rw [qX (v:=fun _=>false) fun i _=>h.used i,wP]
 refine ⟨by rw [h.nb];exact h2,by rw [h.ns];exact h1,by rw [h.nf];exact h1.1,by rw [h.made,h.steps];exact ⟨Int.le_refl 0,Int.le_refl 0⟩,fun i=>by rw [h.gen,h.made];exact ⟨Int.le_refl 0,Int.le_refl 0⟩,fun i hi=>?_,fun i j hi hj=>?_,?_⟩
 ·rw [h.nf] at hi
  rw [h.fr i hi,h.ns]
  exact ⟨by omega,by omega,h.used _⟩
 ·rw [h.nf] at hj
  rw [h.fr i (by omega),h.fr j hj]
  omega
 ·rw [hu,h.nf,h.ns]
  simp
section
variable {post:Env→Prop} {cs:ko} {Γ:List (Env→Prop)} {ρ:Env}
theorem TY {g nv:Nat} {σ:Sub} {k:Out} (hg:cs[g]?=some (mH,Dh,qA)) (p:PS) (a:Ac) {n m:Int} (hn:(σ.af ρ).iv 14=n) (hm:(σ.af ρ).iv 15=m) (hp:ag (σ.af ρ) n m 16=p) (ha:ay (σ.af ρ) 0=a) (ho:aZ (σ.af ρ) 16)
  (hok:p.OK) (hst:p.steps≤1000000) (K:Env→Prop)
  (hK:∀e,aZ (ρ.join nv e) (nv+7)→ag (ρ.join nv e) n m (nv+7)=(p.act a).1→(ρ.join nv e).bv (nv+6)=(p.act a).2.isSome→aI (ρ.join nv e) nv=(p.act a).2.getD Rp.no→K (ρ.join nv e)) (h:∀q,K q→Sat post cs Γ q k) :
  Sat post cs Γ ρ (.call g σ nv k):=by
 subst hn hm
 refine Sat.gX (c:=mH) hg ⟨ho,by rw [hp];exact hok,by rw [←hp] at hst;exact hst⟩ K (fun e hq=>?_) h
 have hq:qA (aG σ 26 nv ρ (ρ.join nv e)):=hq
 obtain ⟨q1,q2,q3⟩:=hq
 have e1:ag (aG σ 26 nv ρ (ρ.join nv e)) ((aG σ 26 nv ρ (ρ.join nv e)).iv 14) ((aG σ 26 nv ρ (ρ.join nv e)).iv 15) 16=p:=hp
 have e2:ay (aG σ 26 nv ρ (ρ.join nv e)) 0=a:=ha
 have e3:ag (aG σ 26 nv ρ (ρ.join nv e)) ((aG σ 26 nv ρ (ρ.join nv e)).iv 14) ((aG σ 26 nv ρ (ρ.join nv e)).iv 15) 33=ag (ρ.join nv e) ((σ.af ρ).iv 14) ((σ.af ρ).iv 15) (nv+7):=by
  unfold ag
  rw [show (aG σ 26 nv ρ (ρ.join nv e)).iv (33+1)=(ρ.join nv e).iv (nv+7+1) from gQ 26 8,show (aG σ 26 nv ρ (ρ.join nv e)).iv (33+3)=(ρ.join nv e).iv (nv+7+3) from gQ 26 10,show (aG σ 26 nv ρ (ρ.join nv e)).iv (33+4)=(ρ.join nv e).iv (nv+7+4) from gQ 26 11,
    show (aG σ 26 nv ρ (ρ.join nv e)).bv (33+5)=(ρ.join nv e).bv (nv+7+5) from jV 26 12,
    show (aG σ 26 nv ρ (ρ.join nv e)).ic (33+6)=(ρ.join nv e).ic (nv+7+6) from sJ 26 13,show (aG σ 26 nv ρ (ρ.join nv e)).bc (33+6)=(ρ.join nv e).bc (nv+7+6) from vB 26 13,
    show (aG σ 26 nv ρ (ρ.join nv e)).ic (33+7)=(ρ.join nv e).ic (nv+7+7) from sJ 26 14,show (aG σ 26 nv ρ (ρ.join nv e)).bc (33+7)=(ρ.join nv e).bc (nv+7+7) from vB 26 14,
    show (aG σ 26 nv ρ (ρ.join nv e)).ic (33+8)=(ρ.join nv e).ic (nv+7+8) from sJ 26 15,show (aG σ 26 nv ρ (ρ.join nv e)).bc (33+8)=(ρ.join nv e).bc (nv+7+8) from vB 26 15,
    show (aG σ 26 nv ρ (ρ.join nv e)).ic (33+9)=(ρ.join nv e).ic (nv+7+9) from sJ 26 16]
  rfl
 have e4:aI (aG σ 26 nv ρ (ρ.join nv e)) 26=aI (ρ.join nv e) nv:=by
  unfold aI av
  rw [show (aG σ 26 nv ρ (ρ.join nv e)).iv 26=(ρ.join nv e).iv nv from gQ 26 0,show (aG σ 26 nv ρ (ρ.join nv e)).iv (26+1)=(ρ.join nv e).iv (nv+1) from gQ 26 1,show (aG σ 26 nv ρ (ρ.join nv e)).iv (26+2)=(ρ.join nv e).iv (nv+2) from gQ 26 2,
    show (aG σ 26 nv ρ (ρ.join nv e)).iv (26+3)=(ρ.join nv e).iv (nv+3) from gQ 26 3,show (aG σ 26 nv ρ (ρ.join nv e)).bv (26+4)=(ρ.join nv e).bv (nv+4) from jV 26 4,show (aG σ 26 nv ρ (ρ.join nv e)).bv (26+5)=(ρ.join nv e).bv (nv+5) from jV 26 5]
 have e5:(aG σ 26 nv ρ (ρ.join nv e)).bv 32=(ρ.join nv e).bv (nv+6):=jV 26 6
 have e6:aZ (aG σ 26 nv ρ (ρ.join nv e)) 33=aZ (ρ.join nv e) (nv+7):=by
  unfold aZ
  rw [show (aG σ 26 nv ρ (ρ.join nv e)).bv 33=(ρ.join nv e).bv (nv+7) from jV 26 7,show (aG σ 26 nv ρ (ρ.join nv e)).iv (33+1)=(ρ.join nv e).iv (nv+7+1) from gQ 26 8,show (aG σ 26 nv ρ (ρ.join nv e)).iv (33+2)=(ρ.join nv e).iv (nv+7+2) from gQ 26 9]
 rw [e1,e2,e3,e4,e5] at q2
 rw [e6] at q1
 rw [e4,e5] at q3
 refine hK e q1 (by rw [q2]) ?_ ?_
 ·rw [q2]
  cases (ρ.join nv e).bv (nv+6) <;> rfl
 ·rw [q2]
  cases hb:(ρ.join nv e).bv (nv+6) with
  | true=>rfl
  | false=>exact q3 hb
end
theorem Xm (x n:Int) (h:0<n) (hx:0≤x):0≤x.tmod n∧x.tmod n<n:=by
 rw [Int.tmod_eq_emod_of_nonneg hx]
 exact ⟨Int.emod_nonneg _ (by omega),Int.emod_lt_of_pos _ h⟩
theorem Xn (x:Int):0≤IntKind.u64.wrap x:=by
 rw [IntKind.wrap_u64]
 omega
theorem Xo {x:Int} (h0:0≤x) (h1:x<100000):IntKind.u64.wrap x=x:=by
 rw [IntKind.wrap_u64]
 omega
end Go.Proofs.YthomdlajobnmnaaDoor
set_option linter.unusedSimpArgs false
set_option linter.unusedVariables false
namespace Go.Proofs.YthomdlajobnmnaaDoor
open Go.Rex
theorem Mn.ext' {a b:Mn} (h1:a.r=b.r) (h2:a.pc=b.pc) (h3:a.old=b.old) (h4:a.node=b.node) (h5:a.bad=b.bad) (h6:a.stop=b.stop):a=b:=by
 cases a
 cases b
 simp only at *
 subst h1 h2 h3 h4 h5 h6
 rfl
theorem vJ {m:Mn} (h:m.r.step≠0):∀k,m.go k=(m,none)
 | 0=>rfl
 | k+1=>by rw [Mn.go,if_pos h]
theorem TZ {m:Mn} (h:m.r.step=0) (hs:m.stop=true∧m.pc=0) (k:Nat):m.go (k+1)=(m,some true):=by
 rw [Mn.go,if_neg (fun c=>c h),if_pos hs]
theorem VT {m:Mn} (h:m.r.step=0) (hs:¬(m.stop=true∧m.pc=0)) (hb:(m.r.begin m.next.2).2=true) (hn:m.next.1.r=m.r) (k:Nat):m.go (k+1)=Mn.go k {m.next.1 with r:=(m.r.begin m.next.2).1}:=by
 rw [Mn.go,if_neg (fun c=>c h),if_neg hs]
 simp only [hn]
 rw [if_neg (by rw [hb];decide)]
theorem VU (m:Mn) (r':RS) (h:r'.gq=m.r.gq):({m with r:=r'}:Mn).next=({m.next.1 with r:=r'},m.next.2):=by
 unfold Mn.next
 simp only [h]
 repeat' first
  | rfl
  | split
section
variable {σ:Sub} {ρ q:Env} {m d:Nat}
theorem T9 (r:RS) (k:Nat):dZ (aG σ m d ρ q) r (m+k)=dZ q r (d+k):=by
 unfold dZ av
 simp only [Nat.add_assoc,gQ,jV]
theorem Ua (k:Nat):ku (aG σ m d ρ q) (m+k)=ku q (d+k):=by
 unfold ku av
 simp only [Nat.add_assoc,gQ,jV]
end
section
variable {post:Env→Prop} {cs:ko} {Γ:List (Env→Prop)} {ρ:Env}
theorem O5 {g nv:Nat} {σ:Sub} {k:Out} (hg:cs[g]?=some (jy,sW,l9)) (m:Mn) (hm:dZ (σ.af ρ) m.r 0=m) (hr:aI (σ.af ρ) 13=m.r.gq) (hs:Small m) (K:Env→Prop)
  (hK:∀e,dZ (ρ.join nv e) m.next.1.r nv=m.next.1→ku (ρ.join nv e) (nv+13)=m.next.2→K (ρ.join nv e)) (h:∀q,K q→Sat post cs Γ q k):Sat post cs Γ ρ (.call g σ nv k):=by
 have e0:dZ (σ.af ρ) (kv (aI (σ.af ρ) 13)) 0={m with r:=kv m.r.gq}:=by
  rw [hr]
  have:=congrArg (fun x:Mn=>({x with r:=kv m.r.gq}:Mn)) hm
  exact this
 refine Sat.gX (c:=jy) hg ?_ K (fun e hq=>?_) h
 ·show Mn.FB (dZ (σ.af ρ) (kv (aI (σ.af ρ) 13)) 0)
  rw [e0]
  exact ⟨hs.pc,hs.old,hs.rp⟩
 ·replace hq:l9 (aG σ 20 nv ρ (ρ.join nv e)):=hq
  obtain ⟨q1,q2⟩:=hq
  have c0:dZ (aG σ 20 nv ρ (ρ.join nv e)) (kv (aI (aG σ 20 nv ρ (ρ.join nv e)) 13)) 0=dZ (σ.af ρ) (kv (aI (σ.af ρ) 13)) 0:=rfl
  have c1:=T9 (σ:=σ) (ρ:=ρ) (q:=ρ.join nv e) (m:=20) (d:=nv) (kv (aI (aG σ 20 nv ρ (ρ.join nv e)) 13)) 0
  have c2:=Ua (σ:=σ) (ρ:=ρ) (q:=ρ.join nv e) (m:=20) (d:=nv) 13
  rw [c0,e0,VU m (kv m.r.gq) rfl] at q1 q2
  rw [Nat.add_zero,Nat.add_zero] at c1
  refine hK e ?_ (c2.symm.trans q2)
  have:=c1.symm.trans q1
  have:=congrArg (fun x:Mn=>({x with r:=m.next.1.r}:Mn)) this
  exact this
end
def Gl:ko:=[(jy,sW,l9),(jv,sQ,qD),(mH,Dh,qA),(kM,vG,sV)]
theorem Rl:∀k pre post,(k,pre,post)∈Gl→jg k=true∧bC Tryd.prog k pre post:=by
 intro k pre post h
 simp only [Gl,List.mem_cons,List.not_mem_nil,or_false,Prod.mk.injEq] at h
 rcases h with ⟨rfl,rfl,rfl⟩ | ⟨rfl,rfl,rfl⟩ | ⟨rfl,rfl,rfl⟩ | ⟨rfl,rfl,rfl⟩
 ·exact ⟨by kernel_rfl,OQ⟩
 ·exact ⟨by kernel_rfl,Om⟩
 ·exact ⟨by kernel_rfl,NN⟩
 ·exact ⟨by kernel_rfl,QR⟩
noncomputable def O6:Ex:={sched:=sched,loops:=[Ww],cons:=[jy,jv,mH,kM],fin:=iO}
def BD:Out :=
 .loop 96 {lo:=96,az:=18,iv:=[(145,yv 70),(164,yv 65),(163,yv 64),(162,yv 63),(161,yv 62),(160,yv 61),(158,yv 60),(157,yv 59),(155,yv 57),(154,yv 56),(152,yv 3),(151,yv 2),(150,yv 1),(149,yv 0),(147,yv 53),(146,yv 52),(148,yv 69),(143,yv 50),(142,yv 49),(140,yv 47),(138,yv 45),(137,yv 44),(136,yv 43),(135,yv 42),(133,yv 40),(132,yv 39),(131,yv 38),(130,yv 37),(128,yv 35),(127,yv 34),(126,yv 33),(125,yv 32),(123,yv 30),(122,yv 29),(121,yv 28),(120,yv 27),(119,yv 26),(118,yv 25),(117,yv 24),(116,yv 23),(115,yv 22),(114,yv 21),(113,yv 20),(112,yv 19),(111,yv 18),(109,yv 16),(108,yv 15),(107,yv 14),(106,yv 13),(104,yv 11),(103,yv 10),(102,yv 9),(101,yv 8),(100,yv 7),(99,yv 6),(98,yv 5),(97,yv 4),(177,yv 80),(176,yv 79),(175,yv 78),(174,yv 77),(172,yv 75),(171,yv 74),(170,yv 73),(169,yv 72),(168,yv 71),(96,.lit 0)],bv:=[(166,yw 67),(165,yw 66),(156,yw 58),(153,yw 55),(145,yw 51),(141,yw 48),(139,yw 46),(134,yw 41),(129,yw 36),(124,yw 31),(110,yw 17),(105,yw 12),(180,yw 83),(179,yw 82),(178,yw 81),(173,yw 76)],ct:=[(159,yu 70 59 7 yN 0),(148,yu 69 70 7 yN 0),(144,yu 68 49 5 yW 0),(167,yl 54 9 5 50 yW 0)],bk:=[(20,yc 12 7),(19,yc 11 7),(18,yc 10 5)]} <|
 .br (.bQ (.var 96) (.lit 12))
 (.br (.aC (.var 115) (.lit 0))
  (.br (.and (.var 180) (.aC (.var 168) (.lit 0)))
   (.fin {lo:=96,az:=18,iv:=[(162,yv 145),(180,yv 90),(179,yv 89),(178,yv 88),(177,yv 87),(157,yv 164),(156,yv 163),(155,yv 162),(154,yv 161),(153,yv 160),(152,yv 158),(151,yv 157),(149,yv 155),(148,yv 154),(190,yv 152),(189,yv 151),(188,yv 150),(187,yv 149),(145,yv 147),(144,yv 146),(161,yv 148),(142,yv 143),(141,yv 142),(139,yv 140),(137,yv 138),(136,yv 137),(135,yv 136),(134,yv 135),(132,yv 133),(131,yv 132),(130,yv 131),(129,yv 130),(127,yv 128),(126,yv 127),(125,yv 126),(124,yv 125),(122,yv 123),(121,yv 122),(120,yv 121),(119,yv 120),(118,yv 119),(117,yv 118),(116,yv 117),(115,yv 116),(114,yv 115),(113,yv 114),(112,yv 113),(111,yv 112),(110,yv 111),(108,yv 109),(107,yv 108),(106,yv 107),(105,yv 106),(103,yv 104),(102,yv 103),(101,yv 102),(100,yv 101),(99,yv 100),(98,yv 99),(97,yv 98),(96,yv 97),(172,yv 177),(171,yv 176),(170,yv 175),(169,yv 174),(167,yv 172),(166,yv 171),(165,yv 170),(164,yv 169),(163,yv 168)],bv:=[(181,yw 91),(176,yw 86),(159,yw 166),(158,yw 165),(150,yw 156),(147,yw 153),(143,yw 145),(140,yw 141),(138,yw 139),(133,yw 134),(128,yw 129),(123,yw 124),(109,yw 110),(104,yw 105),(175,yw 180),(174,yw 179),(173,yw 178),(168,yw 173),(186,.lit true)],ct:=[(185,yu 95 87 1 yI 0),(162,yu 159 157 7 yN 0),(161,yu 148 145 7 yN 0),(160,yu 144 142 5 yW 0),(184,.up {r:=94,n1:=.var 85,s1:=52,n2:=10,s2:=5,lo:=2,ks:=yW} 1 [] (.lit 0)),(183,yu 93 85 52 yB 0),(182,yu 92 84 5 yW 0),(146,yl 167 9 5 50 yW 0)],bk:=[(22,yb 17),(21,yc 16 1),(20,yc 20 7),(19,yc 19 7),(18,yc 18 5)]})
   (.call 0 {lo:=0,az:=0,iv:=[(16,yv 164),(15,yv 163),(14,yv 162),(13,yv 161),(9,yv 177),(8,yv 176),(7,yv 175),(6,yv 174),(4,yv 172),(3,yv 171),(2,yv 170),(1,yv 169),(0,yv 168)],bv:=[(18,yw 166),(17,yw 165),(12,yw 180),(11,yw 179),(10,yw 178),(5,yw 173)],ct:=[(19,yl 167 9 5 50 yW 0)],bk:=[(1,yb 9),(0,yb 8)]} 181 <|
    .call 1 {lo:=0,az:=0,iv:=[(70,yv 145),(65,yv 164),(64,yv 163),(63,yv 162),(62,yv 161),(61,yv 160),(60,yv 158),(59,yv 157),(57,yv 155),(56,yv 154),(3,yv 152),(2,yv 151),(1,yv 150),(0,yv 149),(53,yv 147),(52,yv 146),(69,yv 148),(50,yv 143),(49,yv 142),(47,yv 140),(45,yv 138),(44,yv 137),(43,yv 136),(42,yv 135),(40,yv 133),(39,yv 132),(38,yv 131),(37,yv 130),(35,yv 128),(34,yv 127),(33,yv 126),(32,yv 125),(30,yv 123),(29,yv 122),(28,yv 121),(27,yv 120),(26,yv 119),(25,yv 118),(24,yv 117),(23,yv 116),(22,yv 115),(21,yv 114),(20,yv 113),(19,yv 112),(18,yv 111),(16,yv 109),(15,yv 108),(14,yv 107),(13,yv 106),(11,yv 104),(10,yv 103),(9,yv 102),(8,yv 101),(7,yv 100),(6,yv 99),(5,yv 98),(4,yv 97),(88,yv 211),(87,yv 210),(86,yv 209),(85,yv 208),(83,yv 206),(82,yv 205),(81,yv 204),(80,yv 203),(78,yv 201),(77,yv 200),(76,yv 199),(75,yv 198),(74,yv 197),(73,yv 196),(72,yv 195),(71,yv 194)],bv:=[(67,yw 166),(66,yw 165),(58,yw 156),(55,yw 153),(51,yw 145),(48,yw 141),(46,yw 139),(41,yw 134),(36,yw 129),(31,yw 124),(17,yw 110),(12,yw 105),(84,yw 207),(79,yw 202)],ct:=[(70,yu 159 157 7 yN 0),(69,yu 148 145 7 yN 0),(68,yu 144 142 5 yW 0),(54,yl 167 9 5 50 yW 0)],bk:=[(3,yc 20 7),(2,yc 19 7),(1,yc 18 5),(0,yb 9)]} 212 <|
    .ob (.inr .i64 (.add (.var 96) (.lit 1))) <|
    .back 0 {lo:=96,az:=18,iv:=[(145,yv 278),(164,yv 273),(163,yv 272),(162,yv 271),(161,yv 270),(160,yv 269),(158,yv 268),(157,yv 267),(155,yv 265),(154,yv 264),(152,yv 152),(151,yv 151),(150,yv 150),(149,yv 149),(147,yv 261),(146,yv 260),(148,yv 277),(143,yv 258),(142,yv 257),(140,yv 255),(138,yv 253),(137,yv 252),(136,yv 251),(135,yv 250),(133,yv 248),(132,yv 247),(131,yv 246),(130,yv 245),(128,yv 243),(127,yv 242),(126,yv 241),(125,yv 240),(123,yv 238),(122,yv 237),(121,yv 236),(120,yv 235),(119,yv 234),(118,yv 233),(117,yv 232),(116,yv 231),(115,yv 230),(114,yv 229),(113,yv 228),(112,yv 227),(111,yv 226),(109,yv 224),(108,yv 223),(107,yv 222),(106,yv 221),(104,yv 219),(103,yv 218),(102,yv 217),(101,yv 216),(100,yv 215),(99,yv 214),(98,yv 213),(97,yv 212),(177,yv 190),(176,yv 189),(175,yv 188),(174,yv 187),(172,yv 185),(171,yv 184),(170,yv 183),(169,yv 182),(168,yv 181),(96,.add (.var 96) (.lit 1))],bv:=[(166,yw 275),(165,yw 274),(156,yw 266),(153,yw 263),(145,yw 259),(141,yw 256),(139,yw 254),(134,yw 249),(129,yw 244),(124,yw 239),(110,yw 225),(105,yw 220),(180,yw 193),(179,yw 192),(178,yw 191),(173,yw 186)],ct:=[(159,yu 278 267 7 yN 0),(148,yu 277 278 7 yN 0),(144,yu 276 257 5 yW 0),(167,yl 262 9 5 50 yW 0)],bk:=[(20,yc 23 7),(19,yc 22 7),(18,yc 21 5)]}))
  (.call 2 {lo:=0,az:=0,iv:=[(20,yv 90),(19,yv 89),(18,yv 88),(17,yv 87),(15,yv 85),(14,yv 84),(12,yv 128),(11,yv 127),(10,yv 126),(9,yv 125),(7,yv 123),(6,yv 122),(5,yv 121),(4,yv 120),(3,yv 119),(2,yv 118),(1,yv 117),(0,yv 116)],bv:=[(21,yw 91),(16,yw 86),(13,yw 129),(8,yw 124)],ct:=[(25,yu 95 87 1 yI 0),(24,.up {r:=94,n1:=.var 85,s1:=52,n2:=10,s2:=5,lo:=2,ks:=yW} 1 [] (.lit 0)),(23,yu 93 85 52 yB 0),(22,yu 92 84 5 yW 0)],bk:=[(12,yb 17),(11,yc 16 1),(10,yc 15 52),(9,yc 14 5),(7,yb 7),(6,yb 6),(5,yb 5),(4,yb 4),(3,yb 3),(2,yb 2),(1,yb 1),(0,yb 0),(8,yb 13)]} 181 <|
   .br (.var 187)
   (.call 3 {lo:=0,az:=0,iv:=[(70,yv 145),(65,yv 164),(64,yv 163),(63,yv 162),(62,yv 161),(61,yv 160),(60,yv 158),(59,yv 157),(57,yv 155),(56,yv 154),(3,yv 152),(2,yv 151),(1,yv 150),(0,yv 149),(53,yv 147),(52,yv 146),(69,yv 148),(50,yv 143),(49,yv 142),(47,yv 140),(45,yv 138),(44,yv 137),(43,yv 136),(42,yv 135),(40,yv 133),(39,yv 132),(38,yv 131),(37,yv 130),(35,yv 128),(34,yv 127),(33,yv 126),(32,yv 125),(30,yv 123),(29,yv 122),(28,yv 121),(27,yv 120),(26,yv 119),(25,yv 118),(24,yv 117),(23,yv 116),(22,yv 115),(21,yv 114),(20,yv 113),(19,yv 112),(18,yv 111),(16,yv 109),(15,yv 108),(14,yv 107),(13,yv 106),(11,yv 104),(10,yv 103),(9,yv 102),(8,yv 101),(7,yv 100),(6,yv 99),(5,yv 98),(4,yv 97),(74,yv 184),(73,yv 183),(72,yv 182),(71,yv 181)],bv:=[(67,yw 166),(66,yw 165),(58,yw 156),(55,yw 153),(51,yw 145),(48,yw 141),(46,yw 139),(41,yw 134),(36,yw 129),(31,yw 124),(17,yw 110),(12,yw 105),(76,yw 186),(75,yw 185)],ct:=[(70,yu 159 157 7 yN 0),(69,yu 148 145 7 yN 0),(68,yu 144 142 5 yW 0),(54,yl 167 9 5 50 yW 0)],bk:=[(3,yc 20 7),(2,yc 19 7),(1,yc 18 5),(0,yb 9)]} 198 <|
    .fin {lo:=96,az:=18,iv:=[(162,yv 264),(180,yv 192),(179,yv 191),(178,yv 190),(177,yv 189),(157,yv 259),(156,yv 258),(155,yv 257),(154,yv 256),(153,yv 255),(152,yv 254),(151,yv 253),(149,yv 251),(148,yv 250),(190,yv 152),(189,yv 151),(188,yv 150),(187,yv 149),(145,yv 247),(144,yv 246),(161,yv 263),(142,yv 244),(141,yv 243),(139,yv 241),(137,yv 239),(136,yv 238),(135,yv 237),(134,yv 236),(132,yv 234),(131,yv 233),(130,yv 232),(129,yv 231),(127,yv 229),(126,yv 228),(125,yv 227),(124,yv 226),(122,yv 224),(121,yv 223),(120,yv 222),(119,yv 221),(118,yv 220),(117,yv 219),(116,yv 218),(115,yv 217),(114,yv 216),(113,yv 215),(112,yv 214),(111,yv 213),(110,yv 212),(108,yv 210),(107,yv 209),(106,yv 208),(105,yv 207),(103,yv 205),(102,yv 204),(101,yv 203),(100,yv 202),(99,yv 201),(98,yv 200),(97,yv 199),(96,yv 198),(172,yv 177),(171,yv 176),(170,yv 175),(169,yv 174),(167,yv 172),(166,yv 171),(165,yv 170),(164,yv 169),(163,yv 168)],bv:=[(181,yw 193),(176,yw 188),(159,yw 261),(158,yw 260),(150,yw 252),(147,yw 249),(143,yw 245),(140,yw 242),(138,yw 240),(133,yw 235),(128,yw 230),(123,yw 225),(109,yw 211),(104,yw 206),(175,yw 180),(174,yw 179),(173,yw 178),(168,yw 173),(186,.lit true)],ct:=[(185,yu 197 189 1 yI 0),(162,yu 264 253 7 yN 0),(161,yu 263 264 7 yN 0),(160,yu 262 243 5 yW 0),(184,.up {r:=196,n1:=.var 85,s1:=52,n2:=10,s2:=5,lo:=2,ks:=yW} 1 [] (.lit 0)),(183,yu 195 85 52 yB 0),(182,yu 194 84 5 yW 0),(146,yl 248 9 5 50 yW 0)],bk:=[(22,yb 24),(21,yc 23 1),(20,yc 28 7),(19,yc 27 7),(18,yc 26 5)]})
   (.fin {lo:=96,az:=18,iv:=[(162,yv 145),(180,yv 192),(179,yv 191),(178,yv 190),(177,yv 189),(157,yv 164),(156,yv 163),(155,yv 162),(154,yv 161),(153,yv 160),(152,yv 158),(151,yv 157),(149,yv 155),(148,yv 154),(190,yv 152),(189,yv 151),(188,yv 150),(187,yv 149),(145,yv 147),(144,yv 146),(161,yv 148),(142,yv 143),(141,yv 142),(139,yv 140),(137,yv 138),(136,yv 137),(135,yv 136),(134,yv 135),(132,yv 133),(131,yv 132),(130,yv 131),(129,yv 130),(127,yv 128),(126,yv 127),(125,yv 126),(124,yv 125),(122,yv 123),(121,yv 122),(120,yv 121),(119,yv 120),(118,yv 119),(117,yv 118),(116,yv 117),(115,yv 116),(114,yv 115),(113,yv 114),(112,yv 113),(111,yv 112),(110,yv 111),(108,yv 109),(107,yv 108),(106,yv 107),(105,yv 106),(103,yv 104),(102,yv 103),(101,yv 102),(100,yv 101),(99,yv 100),(98,yv 99),(97,yv 98),(96,yv 97),(172,yv 177),(171,yv 176),(170,yv 175),(169,yv 174),(167,yv 172),(166,yv 171),(165,yv 170),(164,yv 169),(163,yv 168)],bv:=[(181,yw 193),(176,yw 188),(159,yw 166),(158,yw 165),(150,yw 156),(147,yw 153),(143,yw 145),(140,yw 141),(138,yw 139),(133,yw 134),(128,yw 129),(123,yw 124),(109,yw 110),(104,yw 105),(175,yw 180),(174,yw 179),(173,yw 178),(168,yw 173),(186,.lit false)],ct:=[(185,yu 197 189 1 yI 0),(162,yu 159 157 7 yN 0),(161,yu 148 145 7 yN 0),(160,yu 144 142 5 yW 0),(184,.up {r:=196,n1:=.var 85,s1:=52,n2:=10,s2:=5,lo:=2,ks:=yW} 1 [] (.lit 0)),(183,yu 195 85 52 yB 0),(182,yu 194 84 5 yW 0),(146,yl 167 9 5 50 yW 0)],bk:=[(22,yb 24),(21,yc 23 1),(20,yc 20 7),(19,yc 19 7),(18,yc 18 5)]})))
 (.br (.aC (.var 115) (.lit 0))
  (.fin {lo:=96,az:=18,iv:=[(162,yv 145),(180,yv 90),(179,yv 89),(178,yv 88),(177,yv 87),(157,yv 164),(156,yv 163),(155,yv 162),(154,yv 161),(153,yv 160),(152,yv 158),(151,yv 157),(149,yv 155),(148,yv 154),(190,yv 152),(189,yv 151),(188,yv 150),(187,yv 149),(145,yv 147),(144,yv 146),(161,yv 148),(142,yv 143),(141,yv 142),(139,yv 140),(137,yv 138),(136,yv 137),(135,yv 136),(134,yv 135),(132,yv 133),(131,yv 132),(130,yv 131),(129,yv 130),(127,yv 128),(126,yv 127),(125,yv 126),(124,yv 125),(122,yv 123),(121,yv 122),(120,yv 121),(119,yv 120),(118,yv 119),(117,yv 118),(116,yv 117),(115,yv 116),(114,yv 115),(113,yv 114),(112,yv 113),(111,yv 112),(110,yv 111),(108,yv 109),(107,yv 108),(106,yv 107),(105,yv 106),(103,yv 104),(102,yv 103),(101,yv 102),(100,yv 101),(99,yv 100),(98,yv 99),(97,yv 98),(96,yv 97),(172,yv 177),(171,yv 176),(170,yv 175),(169,yv 174),(167,yv 172),(166,yv 171),(165,yv 170),(164,yv 169),(163,yv 168)],bv:=[(181,yw 91),(176,yw 86),(159,yw 166),(158,yw 165),(150,yw 156),(147,yw 153),(143,yw 145),(140,yw 141),(138,yw 139),(133,yw 134),(128,yw 129),(123,yw 124),(109,yw 110),(104,yw 105),(175,yw 180),(174,yw 179),(173,yw 178),(168,yw 173),(186,.lit false)],ct:=[(185,yu 95 87 1 yI 0),(162,yu 159 157 7 yN 0),(161,yu 148 145 7 yN 0),(160,yu 144 142 5 yW 0),(184,.up {r:=94,n1:=.var 85,s1:=52,n2:=10,s2:=5,lo:=2,ks:=yW} 1 [] (.lit 0)),(183,yu 93 85 52 yB 0),(182,yu 92 84 5 yW 0),(146,yl 167 9 5 50 yW 0)],bk:=[(22,yb 17),(21,yc 16 1),(20,yc 20 7),(19,yc 19 7),(18,yc 18 5)]})
  (.call 2 {lo:=0,az:=0,iv:=[(20,yv 90),(19,yv 89),(18,yv 88),(17,yv 87),(15,yv 85),(14,yv 84),(12,yv 128),(11,yv 127),(10,yv 126),(9,yv 125),(7,yv 123),(6,yv 122),(5,yv 121),(4,yv 120),(3,yv 119),(2,yv 118),(1,yv 117),(0,yv 116)],bv:=[(21,yw 91),(16,yw 86),(13,yw 129),(8,yw 124)],ct:=[(25,yu 95 87 1 yI 0),(24,.up {r:=94,n1:=.var 85,s1:=52,n2:=10,s2:=5,lo:=2,ks:=yW} 1 [] (.lit 0)),(23,yu 93 85 52 yB 0),(22,yu 92 84 5 yW 0)],bk:=[(12,yb 17),(11,yc 16 1),(10,yc 15 52),(9,yc 14 5),(7,yb 7),(6,yb 6),(5,yb 5),(4,yb 4),(3,yb 3),(2,yb 2),(1,yb 1),(0,yb 0),(8,yb 13)]} 181 <|
   .br (.var 187)
   (.call 3 {lo:=0,az:=0,iv:=[(70,yv 145),(65,yv 164),(64,yv 163),(63,yv 162),(62,yv 161),(61,yv 160),(60,yv 158),(59,yv 157),(57,yv 155),(56,yv 154),(3,yv 152),(2,yv 151),(1,yv 150),(0,yv 149),(53,yv 147),(52,yv 146),(69,yv 148),(50,yv 143),(49,yv 142),(47,yv 140),(45,yv 138),(44,yv 137),(43,yv 136),(42,yv 135),(40,yv 133),(39,yv 132),(38,yv 131),(37,yv 130),(35,yv 128),(34,yv 127),(33,yv 126),(32,yv 125),(30,yv 123),(29,yv 122),(28,yv 121),(27,yv 120),(26,yv 119),(25,yv 118),(24,yv 117),(23,yv 116),(22,yv 115),(21,yv 114),(20,yv 113),(19,yv 112),(18,yv 111),(16,yv 109),(15,yv 108),(14,yv 107),(13,yv 106),(11,yv 104),(10,yv 103),(9,yv 102),(8,yv 101),(7,yv 100),(6,yv 99),(5,yv 98),(4,yv 97),(74,yv 184),(73,yv 183),(72,yv 182),(71,yv 181)],bv:=[(67,yw 166),(66,yw 165),(58,yw 156),(55,yw 153),(51,yw 145),(48,yw 141),(46,yw 139),(41,yw 134),(36,yw 129),(31,yw 124),(17,yw 110),(12,yw 105),(76,yw 186),(75,yw 185)],ct:=[(70,yu 159 157 7 yN 0),(69,yu 148 145 7 yN 0),(68,yu 144 142 5 yW 0),(54,yl 167 9 5 50 yW 0)],bk:=[(3,yc 20 7),(2,yc 19 7),(1,yc 18 5),(0,yb 9)]} 198 <|
    .fin {lo:=96,az:=18,iv:=[(162,yv 264),(180,yv 192),(179,yv 191),(178,yv 190),(177,yv 189),(157,yv 259),(156,yv 258),(155,yv 257),(154,yv 256),(153,yv 255),(152,yv 254),(151,yv 253),(149,yv 251),(148,yv 250),(190,yv 152),(189,yv 151),(188,yv 150),(187,yv 149),(145,yv 247),(144,yv 246),(161,yv 263),(142,yv 244),(141,yv 243),(139,yv 241),(137,yv 239),(136,yv 238),(135,yv 237),(134,yv 236),(132,yv 234),(131,yv 233),(130,yv 232),(129,yv 231),(127,yv 229),(126,yv 228),(125,yv 227),(124,yv 226),(122,yv 224),(121,yv 223),(120,yv 222),(119,yv 221),(118,yv 220),(117,yv 219),(116,yv 218),(115,yv 217),(114,yv 216),(113,yv 215),(112,yv 214),(111,yv 213),(110,yv 212),(108,yv 210),(107,yv 209),(106,yv 208),(105,yv 207),(103,yv 205),(102,yv 204),(101,yv 203),(100,yv 202),(99,yv 201),(98,yv 200),(97,yv 199),(96,yv 198),(172,yv 177),(171,yv 176),(170,yv 175),(169,yv 174),(167,yv 172),(166,yv 171),(165,yv 170),(164,yv 169),(163,yv 168)],bv:=[(181,yw 193),(176,yw 188),(159,yw 261),(158,yw 260),(150,yw 252),(147,yw 249),(143,yw 245),(140,yw 242),(138,yw 240),(133,yw 235),(128,yw 230),(123,yw 225),(109,yw 211),(104,yw 206),(175,yw 180),(174,yw 179),(173,yw 178),(168,yw 173),(186,.lit true)],ct:=[(185,yu 197 189 1 yI 0),(162,yu 264 253 7 yN 0),(161,yu 263 264 7 yN 0),(160,yu 262 243 5 yW 0),(184,.up {r:=196,n1:=.var 85,s1:=52,n2:=10,s2:=5,lo:=2,ks:=yW} 1 [] (.lit 0)),(183,yu 195 85 52 yB 0),(182,yu 194 84 5 yW 0),(146,yl 248 9 5 50 yW 0)],bk:=[(22,yb 24),(21,yc 23 1),(20,yc 28 7),(19,yc 27 7),(18,yc 26 5)]})
   (.fin {lo:=96,az:=18,iv:=[(162,yv 145),(180,yv 192),(179,yv 191),(178,yv 190),(177,yv 189),(157,yv 164),(156,yv 163),(155,yv 162),(154,yv 161),(153,yv 160),(152,yv 158),(151,yv 157),(149,yv 155),(148,yv 154),(190,yv 152),(189,yv 151),(188,yv 150),(187,yv 149),(145,yv 147),(144,yv 146),(161,yv 148),(142,yv 143),(141,yv 142),(139,yv 140),(137,yv 138),(136,yv 137),(135,yv 136),(134,yv 135),(132,yv 133),(131,yv 132),(130,yv 131),(129,yv 130),(127,yv 128),(126,yv 127),(125,yv 126),(124,yv 125),(122,yv 123),(121,yv 122),(120,yv 121),(119,yv 120),(118,yv 119),(117,yv 118),(116,yv 117),(115,yv 116),(114,yv 115),(113,yv 114),(112,yv 113),(111,yv 112),(110,yv 111),(108,yv 109),(107,yv 108),(106,yv 107),(105,yv 106),(103,yv 104),(102,yv 103),(101,yv 102),(100,yv 101),(99,yv 100),(98,yv 99),(97,yv 98),(96,yv 97),(172,yv 177),(171,yv 176),(170,yv 175),(169,yv 174),(167,yv 172),(166,yv 171),(165,yv 170),(164,yv 169),(163,yv 168)],bv:=[(181,yw 193),(176,yw 188),(159,yw 166),(158,yw 165),(150,yw 156),(147,yw 153),(143,yw 145),(140,yw 141),(138,yw 139),(133,yw 134),(128,yw 129),(123,yw 124),(109,yw 110),(104,yw 105),(175,yw 180),(174,yw 179),(173,yw 178),(168,yw 173),(186,.lit false)],ct:=[(185,yu 197 189 1 yI 0),(162,yu 159 157 7 yN 0),(161,yu 148 145 7 yN 0),(160,yu 144 142 5 yW 0),(184,.up {r:=196,n1:=.var 85,s1:=52,n2:=10,s2:=5,lo:=2,ks:=yW} 1 [] (.lit 0)),(183,yu 195 85 52 yB 0),(182,yu 194 84 5 yW 0),(146,yl 167 9 5 50 yW 0)],bk:=[(22,yb 24),(21,yc 23 1),(20,yc 20 7),(19,yc 19 7),(18,yc 18 5)]})))
theorem O7:exec tab O6 8000 [] (fV iO.f iO.nv [] iO.gl iO.hp iO.args)=BD:=by kernel_rfl
def mM (m:Mn) (p:PS):Prop:=∃k n e T own A i,k≤900000∧Good k n e p T own A i m
def M0 (q:Env):Mn:=dZ q (ae q 0 4) 71
def P0 (q:Env):PS:=ag q (q.iv 84) (q.iv 85) 86
def Mc (q:Env):Mn:=dZ q (uI q 97) 168
def BF (ρ:Env):Prop:=bJ ρ 4∧aZ ρ 86∧mM (M0 ρ) (P0 ρ)
def FH (ρ:Env):Prop:=bJ ρ 96∧aZ ρ 176∧(dZ ρ (ae ρ 187 96) 163,ag ρ (ρ.iv 84) (ρ.iv 85) 176,ρ.bv 186)=(M0 ρ).step (P0 ρ)
def Jj (q:Env):Prop:=QX q 97∧aZ q 86∧(0≤q.iv 96∧q.iv 96≤12)∧mM (Mc q) (P0 q)∧(M0 q).go 12=(Mc q).go (12-q.iv 96).toNat
theorem Ub {m m1:Mn} {p:PS} (hg:m.go 12=(m1,none)) (h0:m1.r.step≠0) {p':PS} {x:Rp} (ha:p.act m1.r.acc=(p',some x)):m.step p=({m1 with r:=(m1.r.bq x).1},p',(m1.r.bq x).2):=by
 unfold Mn.step
 rw [hg]
 simp only
 rw [if_neg h0,ha]
theorem O8 {r:RS} {x:Rp} (h0:r.step≠0):(r.bq x).2=true:=by
 unfold RS.bq
 rw [if_neg h0]
 repeat' first
  | rfl
  | split
theorem mM.to {m m':Mn} {p p':PS} (h:mM m p) (e1:m'=m) (e2:p'=p):mM m' p':=by
 subst e1 e2
 exact h
theorem Sl {a b:Mn} {j k:Nat} (h:b=a) (hj:j=k):a.go k=b.go j:=by
 subst h hj
 rfl
theorem Sn {α β γ:Type} {a a':α} {b b':β} {c c':γ} (h1:a=a') (h2:b=b') (h3:c=c'):(a,b,c)=(a',b',c'):=by
 subst h1 h2 h3
 rfl
theorem VV {ρ:Env} {r r':RS} {v:Nat} {m:Mn} (h:dZ ρ r v=m):dZ ρ r' v={m with r:=r'}:=by
 subst h
 rfl
def XW (c:Int) (u:Env):Prop:=(QX u 97∧aZ u 86∧(0≤u.iv 96∧u.iv 96<12∧u.iv 96=c))∧mM (Mc u) (P0 u)∧(M0 u).go 12=(Mc u).go (12-u.iv 96).toNat∧¬((Mc u).stop=true∧(Mc u).pc=0)∧(Mc u).r.step=0∧dZ u (Mc u).next.1.r 181=(Mc u).next.1∧ku u 194=(Mc u).next.2
def Md (v:Env):Mn:=dZ v ((ae v 0 212).at (v.iv 149) (v.iv 150) (v.iv 151) (v.iv 152)) 181
def XX (c:Int) (v:Env):Prop:=(bJ v 212∧aZ v 86∧(0≤v.iv 96∧v.iv 96<12∧v.iv 96=c))∧mM (Md v) (P0 v)∧(M0 v).go 12=(Md v).go (11-v.iv 96).toNat
def XY (u:Env):Prop:=(QX u 97∧aZ u 188)∧(M0 u).go 12=(Mc u,none)∧(Mc u).r.step≠0∧(ag u (u.iv 84) (u.iv 85) 188=((P0 u).act (Mc u).r.acc).1∧u.bv 187=((P0 u).act (Mc u).r.acc).2.isSome∧aI u 181=((P0 u).act (Mc u).r.acc).2.getD Rp.no)∧∃p' x,(P0 u).act (Mc u).r.acc=(p',some x)∧(Mc u).r.Tk x
def Me (v:Env):Mn:=dZ v ((ae v 0 198).at (v.iv 149) (v.iv 150) (v.iv 151) (v.iv 152)) 168
def XZ (v:Env):Prop:=(bJ v 198∧aZ v 188)∧(M0 v).step (P0 v)=(Me v,ag v (v.iv 84) (v.iv 85) 188,true)
set_option maxHeartbeats 8000000 in
theorem O9 (ρ:Env) (hpre:BF ρ.num):Sat FH Gl [] ρ BD:=by
 replace hpre:BF ρ:=hpre
 obtain ⟨⟨o1,o2,o3⟩,ho,hG⟩:=hpre
 unfold BD
 refine Sat.ug Jj (fun q=>(12-q.iv 96).toNat) (fun _=>True) ⟨⟨o1,o2,o3⟩,ho,⟨Int.le_refl 0,by show (0:Int)≤12;decide⟩,hG.to ?_ rfl,Sl ?_ rfl⟩ (fun _=>trivial) fun q _ hI=>?_
 ·exact Mn.ext' (RS.ext' rfl rfl rfl rfl rfl rfl bg bB rfl rfl rfl rfl (fun i=>by simp [Mc,M0,Md,Me,dZ,RS.at,ae,uI,aD,-Int.pred_toNat,Sub.af,assoc,CV.I,CV.B,ah,ai,aa.I,aa.B,SC.I,SC.B,IE.den,BE.den]) rfl bz rfl rfl) rfl rfl rfl rfl rfl
 ·exact Mn.ext' (RS.ext' rfl rfl rfl rfl rfl rfl bg bB rfl rfl rfl rfl (fun i=>by simp [Mc,M0,Md,Me,dZ,RS.at,ae,uI,aD,-Int.pred_toNat,Sub.af,assoc,CV.I,CV.B,ah,ai,aa.I,aa.B,SC.I,SC.B,IE.den,BE.den]) rfl bz rfl rfl) rfl rfl rfl rfl rfl
 replace hI:Jj q:=hI
 rw [show (12-q.num.iv 96).toNat=(12-q.iv 96).toNat from rfl]
 obtain ⟨hl,ho,⟨i1,i2⟩,hG,hgo⟩:=hI
 have hG':=hG
 obtain ⟨k,n,e,T,own,A,i,hk,G⟩:=hG'
 have o1:=hl.1
 have o2:=hl.2.1
 have o3:=hl.2.2
 have e40:(Mc q).r.step=q.iv 115:=rfl
 refine Sat.br (fun c1=>Sat.br (fun c2=>?_) (fun c2=>?_)) (fun c1=>Sat.br (fun c2=>?_) (fun c2=>?_))
 ·replace c1:q.iv 96<12:=of_decide_eq_true c1
  replace c2:(Mc q).r.step=0:=beq_iff_eq.1 c2
  obtain ⟨j,hj⟩:∃j,(12-q.iv 96).toNat=j+1:=⟨(12-q.iv 96).toNat-1,by omega⟩
  refine Sat.br (fun c3=>?_) (fun c3=>?_)
  ·replace c3:(Mc q).stop=true∧(Mc q).pc=0:=by
    have h:(q.bv 180 && (q.iv 168 == 0))=true:=c3
    rw [Bool.and_eq_true,beq_iff_eq] at h
    exact h
   have hs:(M0 q).step (P0 q)=(Mc q,P0 q,true):=by
    unfold Mn.step
    rw [hgo,hj,TZ c2 c3]
   refine Sat.fin ⟨⟨o1,o2,o3⟩,ho,Eq.trans (Sn ?_ ?_ rfl) hs.symm⟩
   ·exact Mn.ext' (RS.ext' rfl rfl rfl rfl rfl rfl bg bB rfl rfl rfl rfl (fun i=>by simp [Mc,M0,Md,Me,dZ,RS.at,ae,uI,aD,-Int.pred_toNat,Sub.af,assoc,CV.I,CV.B,ah,ai,aa.I,aa.B,SC.I,SC.B,IE.den,BE.den]) rfl bz rfl rfl) rfl rfl rfl rfl rfl
   ·exact (PS.ext' rfl rfl rfl rfl rfl rfl (fun i=>by simp [P0,ag,ja,aD,-Int.pred_toNat,Sub.af,assoc,CV.I,CV.B,ah,ai,aa.I,aa.B,SC.I,SC.B,IE.den,BE.den]) (fun i=>by simp [P0,ag,ja,-Int.pred_toNat,Sub.af,assoc,CV.I,CV.B,ah,ai,aa.I,aa.B,SC.I,SC.B,IE.den,BE.den]) (fun i=>by simp [P0,ag,ja,-Int.pred_toNat,Sub.af,assoc,CV.I,CV.B,ah,ai,aa.I,aa.B,SC.I,SC.B,IE.den,BE.den]) (fun i k=>by simp [P0,ag,ja,aD,-Int.pred_toNat,Sub.af,assoc,CV.I,CV.B,ah,ai,aa.I,aa.B,SC.I,SC.B,IE.den,BE.den]) (fun i=>by simp [P0,ag,ja,-Int.pred_toNat,Sub.af,assoc,CV.I,CV.B,ah,ai,aa.I,aa.B,SC.I,SC.B,IE.den,BE.den]))
  ·replace c3:¬((Mc q).stop=true∧(Mc q).pc=0):=fun h=>by
    have h':(q.bv 180 && (q.iv 168 == 0))=false:=c3
    have h1:q.bv 180=true:=h.1
    have h2:q.iv 168=0:=h.2
    rw [h1,h2] at h'
    cases h'
   refine O5 rfl (Mc q) rfl rfl (G.small (by omega) c2) (XW (q.iv 96)) (fun e h1 h2=>⟨⟨hl,ho,i1,c1,rfl⟩,hG,hgo,c3,c2,h1,h2⟩) fun u hu=>?_
   clear hl ho i1 i2 hG G hgo c1 c2 c3 hj o1 o2 o3 e40 hk
   obtain ⟨⟨hl,ho,i1,i2,ic⟩,hG,hgo,c3,c2,hm,hc⟩:=hu
   have o1:=hl.1
   have o2:=hl.2.1
   have o3:=hl.2.2
   obtain ⟨k,n,e,T,own,A,i,hk,G⟩:=hG
   obtain ⟨g1,g2,g3,own',G'⟩:=G.eZ c2
   refine Mr rfl (Mc u).r (Mc u).next.2 (RS.ext' rfl rfl rfl rfl rfl rfl bg bB rfl rfl rfl rfl (fun i=>by simp [Mc,M0,Md,Me,dZ,RS.at,ae,uI,aD,-Int.pred_toNat,Sub.af,assoc,CV.I,CV.B,ah,ai,aa.I,aa.B,SC.I,SC.B,IE.den,BE.den]) rfl bz rfl rfl) hc ⟨o1,o2,o3⟩ G.rs.1 G.rs.2 c2 g1 (XX (q.iv 96)) (fun e h1 h2=>?_) fun v hv=>?_
   ·have hmd:Md (u.join 212 e)={(Mc u).next.1 with r:=((Mc u).r.begin (Mc u).next.2).1}:=by
     rw [←h2]
     exact VV hm
    refine ⟨⟨h1,ho,i1,i2,ic⟩,?_,?_⟩
    ·rw [hmd]
     exact ⟨k,n,_,_,_,_,_,hk,G'⟩
    ·rw [hmd]
     refine Eq.trans hgo ?_
     rw [show (12-u.iv 96).toNat=(11-u.iv 96).toNat+1 by omega]
     exact VT c2 c3 g2 g3 _
   ·clear hl ho i1 i2 G G' hgo c2 c3 o1 o2 o3 hm hc g1 g2 g3 hk
    obtain ⟨⟨hl,ho,i1,i2,ic⟩,hG,hgo⟩:=hv
    have o1:=hl.1
    have o2:=hl.2.1
    have o3:=hl.2.2
    refine Sat.ob (by simp only [Da];omega) (Sat.back rfl ⟨⟨⟨o1,o2,o3⟩,ho,⟨by show 0≤v.iv 96+1;omega,by show v.iv 96+1≤12;omega⟩,hG.to ?_ rfl,hgo.trans (Sl ?_ ?_)⟩,?_⟩)
    ·exact Mn.ext' (RS.ext' rfl rfl rfl rfl rfl rfl bg bB rfl rfl rfl rfl (fun i=>by simp [Mc,M0,Md,Me,dZ,RS.at,ae,uI,aD,-Int.pred_toNat,Sub.af,assoc,CV.I,CV.B,ah,ai,aa.I,aa.B,SC.I,SC.B,IE.den,BE.den]) rfl bz rfl rfl) rfl rfl rfl rfl rfl
    ·exact Mn.ext' (RS.ext' rfl rfl rfl rfl rfl rfl bg bB rfl rfl rfl rfl (fun i=>by simp [Mc,M0,Md,Me,dZ,RS.at,ae,uI,aD,-Int.pred_toNat,Sub.af,assoc,CV.I,CV.B,ah,ai,aa.I,aa.B,SC.I,SC.B,IE.den,BE.den]) rfl bz rfl rfl) rfl rfl rfl rfl rfl
    ·show (12-(v.iv 96+1)).toNat=(11-v.iv 96).toNat
     omega
    ·show (12-(v.iv 96+1)).toNat<(12-q.iv 96).toNat
     omega
 rotate_left
 ·replace c1:¬q.iv 96<12:=of_decide_eq_false c1
  replace c2:(Mc q).r.step=0:=beq_iff_eq.1 c2
  have hs:(M0 q).step (P0 q)=(Mc q,P0 q,false):=by
   unfold Mn.step
   rw [hgo,show (12-q.iv 96).toNat=0 by omega,show (Mc q).go 0=(Mc q,none) from rfl]
   simp only
   rw [if_pos c2]
  refine Sat.fin ⟨⟨o1,o2,o3⟩,ho,Eq.trans (Sn ?_ ?_ rfl) hs.symm⟩
  ·exact Mn.ext' (RS.ext' rfl rfl rfl rfl rfl rfl bg bB rfl rfl rfl rfl (fun i=>by simp [Mc,M0,Md,Me,dZ,RS.at,ae,uI,aD,-Int.pred_toNat,Sub.af,assoc,CV.I,CV.B,ah,ai,aa.I,aa.B,SC.I,SC.B,IE.den,BE.den]) rfl bz rfl rfl) rfl rfl rfl rfl rfl
  ·exact (PS.ext' rfl rfl rfl rfl rfl rfl (fun i=>by simp [P0,ag,ja,aD,-Int.pred_toNat,Sub.af,assoc,CV.I,CV.B,ah,ai,aa.I,aa.B,SC.I,SC.B,IE.den,BE.den]) (fun i=>by simp [P0,ag,ja,-Int.pred_toNat,Sub.af,assoc,CV.I,CV.B,ah,ai,aa.I,aa.B,SC.I,SC.B,IE.den,BE.den]) (fun i=>by simp [P0,ag,ja,-Int.pred_toNat,Sub.af,assoc,CV.I,CV.B,ah,ai,aa.I,aa.B,SC.I,SC.B,IE.den,BE.den]) (fun i k=>by simp [P0,ag,ja,aD,-Int.pred_toNat,Sub.af,assoc,CV.I,CV.B,ah,ai,aa.I,aa.B,SC.I,SC.B,IE.den,BE.den]) (fun i=>by simp [P0,ag,ja,-Int.pred_toNat,Sub.af,assoc,CV.I,CV.B,ah,ai,aa.I,aa.B,SC.I,SC.B,IE.den,BE.den]))
 all_goals
  replace c2:(Mc q).r.step≠0:=beq_eq_false_iff_ne.1 c2
  rw [vJ c2] at hgo
  obtain ⟨p',x,ha,htk,hok⟩:=G.acc (by omega) c2
  have hst:=G.st
  refine TY rfl (P0 q) (Mc q).r.acc (n:=q.iv 84) (m:=q.iv 85) rfl rfl (PS.ext' rfl rfl rfl rfl rfl rfl (fun i=>by simp [P0,ag,ja,aD,-Int.pred_toNat,Sub.af,assoc,CV.I,CV.B,ah,ai,aa.I,aa.B,SC.I,SC.B,IE.den,BE.den]) (fun i=>by simp [P0,ag,ja,-Int.pred_toNat,Sub.af,assoc,CV.I,CV.B,ah,ai,aa.I,aa.B,SC.I,SC.B,IE.den,BE.den]) (fun i=>by simp [P0,ag,ja,-Int.pred_toNat,Sub.af,assoc,CV.I,CV.B,ah,ai,aa.I,aa.B,SC.I,SC.B,IE.den,BE.den]) (fun i k=>by simp [P0,ag,ja,aD,-Int.pred_toNat,Sub.af,assoc,CV.I,CV.B,ah,ai,aa.I,aa.B,SC.I,SC.B,IE.den,BE.den]) (fun i=>by simp [P0,ag,ja,-Int.pred_toNat,Sub.af,assoc,CV.I,CV.B,ah,ai,aa.I,aa.B,SC.I,SC.B,IE.den,BE.den])) rfl ho hok (by omega) XY (fun e h1 h2 h3 h4=>⟨⟨hl,h1⟩,hgo,c2,⟨h2,h3,h4⟩,p',x,ha,htk⟩) fun u hu=>?_
  clear hl ho i1 i2 hG G hgo c1 c2 o1 o2 o3 e40 hk hst ha htk hok
  obtain ⟨⟨hl,ho⟩,hgo,c2,⟨h1,h2,h3⟩,p',x,ha,htk⟩:=hu
  have o1:=hl.1
  have o2:=hl.2.1
  have o3:=hl.2.2
  rw [ha] at h1 h2 h3
  refine Sat.br (fun c3=>?_) (fun c3=>?_)
  ·refine OL rfl (Mc u).r x (RS.ext' rfl rfl rfl rfl rfl rfl bg bB rfl rfl rfl rfl (fun i=>by simp [Mc,M0,Md,Me,dZ,RS.at,ae,uI,aD,-Int.pred_toNat,Sub.af,assoc,CV.I,CV.B,ah,ai,aa.I,aa.B,SC.I,SC.B,IE.den,BE.den]) rfl bz rfl rfl) h3 ⟨o1,o2,o3⟩ htk XZ (fun e g1 g2=>⟨⟨g1,ho⟩,?_⟩) fun v hv=>?_
   ·refine (Ub hgo c2 ha).trans (Sn ?_ h1.symm (O8 c2))
    rw [←g2]
    rfl
   ·obtain ⟨⟨hl,ho⟩,hs⟩:=hv
    have o1:=hl.1
    have o2:=hl.2.1
    have o3:=hl.2.2
    refine Sat.fin ⟨⟨o1,o2,o3⟩,ho,Eq.trans (Sn ?_ ?_ rfl) hs.symm⟩
    ·exact Mn.ext' (RS.ext' rfl rfl rfl rfl rfl rfl bg bB rfl rfl rfl rfl (fun i=>by simp [Mc,M0,Md,Me,dZ,RS.at,ae,uI,aD,-Int.pred_toNat,Sub.af,assoc,CV.I,CV.B,ah,ai,aa.I,aa.B,SC.I,SC.B,IE.den,BE.den]) rfl bz rfl rfl) rfl rfl rfl rfl rfl
    ·exact (PS.ext' rfl rfl rfl rfl rfl rfl (fun i=>by simp [P0,ag,ja,aD,-Int.pred_toNat,Sub.af,assoc,CV.I,CV.B,ah,ai,aa.I,aa.B,SC.I,SC.B,IE.den,BE.den]) (fun i=>by simp [P0,ag,ja,-Int.pred_toNat,Sub.af,assoc,CV.I,CV.B,ah,ai,aa.I,aa.B,SC.I,SC.B,IE.den,BE.den]) (fun i=>by simp [P0,ag,ja,-Int.pred_toNat,Sub.af,assoc,CV.I,CV.B,ah,ai,aa.I,aa.B,SC.I,SC.B,IE.den,BE.den]) (fun i k=>by simp [P0,ag,ja,aD,-Int.pred_toNat,Sub.af,assoc,CV.I,CV.B,ah,ai,aa.I,aa.B,SC.I,SC.B,IE.den,BE.den]) (fun i=>by simp [P0,ag,ja,-Int.pred_toNat,Sub.af,assoc,CV.I,CV.B,ah,ai,aa.I,aa.B,SC.I,SC.B,IE.den,BE.den]))
  ·exfalso
   replace c3:u.bv 187=false:=c3
   rw [h2] at c3
   cases c3
theorem Pb:bC Tryd.prog iO BF FH :=
 dJ fu (E:=O6) (cs:=Gl) rfl Rl di rfl O7 (by kernel_rfl) (fun ρ _ p hp=>by cases hp) O9
end Go.Proofs.YthomdlajobnmnaaDoor
set_option linter.unusedSimpArgs false
set_option linter.unusedVariables false
namespace Go.Rex
def ig (ρ:Env) (ν:Nat→Addr) (hp:List SB) (b:Nat):Prop:=∃(k:Nat) (sb:SB),hp[k]?=some sb∧sb.dead ρ=false∧b=(ν k).block
theorem uw {ρ:Env} {ν:Nat→Addr} {hp:List SB} {b:Nat} (h:kL ρ ν hp b):ig ρ ν hp b:=by
 obtain ⟨k,sb,h1,-,h3,rfl⟩:=h
 exact ⟨k,sb,h1,h3,rfl⟩
theorem Pf {ρ:Env} {ν:Nat→Addr} {hp:List SB} (ha:oG hp=true) {b:Nat} (h:ig ρ ν hp b):kL ρ ν hp b:=by
 obtain ⟨k,sb,h1,h3,rfl⟩:=h
 exact ⟨k,sb,h1,(uf ha h1 (SB.dI h3)).1,h3,rfl⟩
theorem tu {ρ:Env} {ν:Nat→Addr} {hp:List SB} {w:World} (h:aL ρ ν hp w) {b:Nat} (hb:ig ρ ν hp b):b<w.heap.size:=by
 obtain ⟨k,sb,h1,h3,rfl⟩:=hb
 exact h.lt h1 h3
theorem FJ {nv n:Nat} {ρ ρ':Env} {ν aN:Nat→Addr} (hA:dB nv n ρ ρ' ν aN) {hp:List SB} (hs:nA nv n hp=true) (hl:hp.length≤n) {b:Nat}:ig ρ' aN hp b↔ig ρ ν hp b:=by
 constructor
 ·rintro ⟨k,sb,h1,h3,rfl⟩
  have:=(List.getElem?_eq_some_iff.1 h1).1
  exact ⟨k,sb,h1,by rwa [SB.kJ hA (iB hs k sb h1)] at h3,by rw [hA.bl k (by omega)]⟩
 ·rintro ⟨k,sb,h1,h3,rfl⟩
  have:=(List.getElem?_eq_some_iff.1 h1).1
  exact ⟨k,sb,h1,by rwa [SB.kJ hA (iB hs k sb h1)],by rw [hA.bl k (by omega)]⟩
theorem aL.join {a b:List SB} {N:Nat} {oP ng:Env} {tC qP:Nat→Addr} {w:World} (ha:aL oP tC a w) (hb:aL ng qP b w) (hs:nA N a.length a=true) (hd:∀x,ig oP tC a x→ig ng qP b x→False) :
  aL (oP.cat N ng) (kr a.length tC qP) (a ++ b.map (SB.aT (N+·) (a.length+·))) w:=by
 have hA:=dB.cat N a.length oP ng tC qP
 have e1:(oP.cat N ng).pull (N+·)=ng:=Env.Bh N oP ng
 have e2:(fun k=>kr a.length tC qP (a.length+k))=qP:=funext fun k=>nO ..
 refine aL.app (ha.ext hA hs (Nat.le_refl _)) (by rw [e1,e2];exact hb) fun i j x y hi hj dx dy _ he=>?_
 rw [e1] at dy
 have hl:=(List.getElem?_eq_some_iff.1 hi).1
 rw [pE _ _ _ hl,nO] at he
 rw [SB.kJ hA (iB hs i x hi)] at dx
 exact hd _ ⟨i,x,hi,dx,rfl⟩ ⟨j,y,hj,dy,he⟩
theorem MB {a b:List SB} {N:Nat} {oP ng:Env} {tC qP:Nat→Addr} (hs:nA N a.length a=true) {x:Nat}:ig (oP.cat N ng) (kr a.length tC qP) (a ++ b.map (SB.aT (N+·) (a.length+·))) x↔ig oP tC a x∨ig ng qP b x:=by
 have hA:=dB.cat N a.length oP ng tC qP
 have e1:(oP.cat N ng).pull (N+·)=ng:=Env.Bh N oP ng
 constructor
 ·rintro ⟨k,sb,h1,h3,rfl⟩
  rw [List.getElem?_append] at h1
  split at h1
  ·rename_i hk
   rw [SB.kJ hA (iB hs k sb h1)] at h3
   exact .inl ⟨k,sb,h1,h3,by rw [pE _ _ _ hk]⟩
  ·rename_i hk
   rw [List.getElem?_map,Option.map_eq_some_iff] at h1
   obtain ⟨c,hc,rfl⟩:=h1
   rw [SB.gJ,e1] at h3
   refine .inr ⟨k-a.length,c,hc,h3,?_⟩
   have:=nO a.length tC qP (k-a.length)
   rw [show a.length+(k-a.length)=k by omega] at this
   rw [this]
 ·rintro (⟨k,sb,h1,h3,rfl⟩ | ⟨k,sb,h1,h3,rfl⟩)
  ·have hk:=(List.getElem?_eq_some_iff.1 h1).1
   exact ⟨k,sb,by rw [List.getElem?_append_left hk];exact h1,by rwa [SB.kJ hA (iB hs k sb h1)],by rw [pE _ _ _ hk]⟩
  ·refine ⟨a.length+k,sb.aT (N+·) (a.length+·),?_,by rw [SB.gJ,e1];exact h3,by rw [nO]⟩
   rw [List.getElem?_append_right (by omega),show a.length+k-a.length=k by omega,List.getElem?_map,h1]
   rfl
theorem za {a b:List SB} {N:Nat} {oP ng:Env} {tC qP:Nat→Addr} (hs:nA N a.length a=true) {x:Nat} (h:kL (oP.cat N ng) (kr a.length tC qP) (a ++ b.map (SB.aT (N+·) (a.length+·))) x):kL oP tC a x∨kL ng qP b x:=by
 have hA:=dB.cat N a.length oP ng tC qP
 have e1:(oP.cat N ng).pull (N+·)=ng:=Env.Bh N oP ng
 obtain ⟨k,sb,h1,h2,h3,rfl⟩:=h
 rw [List.getElem?_append] at h1
 split at h1
 ·rename_i hk
  rw [SB.kJ hA (iB hs k sb h1)] at h3
  exact .inl ⟨k,sb,h1,h2,h3,by rw [pE _ _ _ hk]⟩
 ·rename_i hk
  rw [List.getElem?_map,Option.map_eq_some_iff] at h1
  obtain ⟨c,hc,rfl⟩:=h1
  rw [SB.gJ,e1] at h3
  refine .inr ⟨k-a.length,c,hc,h2,h3,?_⟩
  have:=nO a.length tC qP (k-a.length)
  rw [show a.length+(k-a.length)=k by omega] at this
  rw [this]
def WB (hp:List SB):Bool:=hp.all fun b=>!b.own
theorem BG {ρ:Env} {ν:Nat→Addr} {hp:List SB} (h:WB hp=true) {x:Nat} (hx:kL ρ ν hp x):False:=by
 obtain ⟨k,sb,h1,h2,-,-⟩:=hx
 have:=List.all_eq_true.1 h sb (List.mem_of_getElem? h1)
 rw [h2] at this
 cases this
theorem Pg {H hp:List SB} {f g:Nat→Nat} (hg:(List.range hp.length).map (fun j=>H[g j]?)=hp.map fun sb=>some (sb.aT f g)) {k:Nat} {sb:SB} (hk:hp[k]?=some sb):H[g k]?=some (sb.aT f g):=by
 have hlt:=(List.getElem?_eq_some_iff.1 hk).1
 have:=congrArg (fun l=>l[k]?) hg
 simp only [List.getElem?_map,List.getElem?_range hlt,hk,Option.map_some] at this
 exact Option.some.inj this
theorem Ph {ρ:Env} {ν:Nat→Addr} {w:World} {H hp hq:List SB} {f g f' g':Nat→Nat} (h:aL ρ ν H w) (hg:(List.range hp.length).map (fun j=>H[g j]?)=hp.map fun sb=>some (sb.aT f g)) (hg':(List.range hq.length).map (fun j=>H[g' j]?)=hq.map fun sb=>some (sb.aT f' g'))
  (hn:∀i j,i<hp.length→j<hq.length→g i≠g' j) (ho:oG hp=true) {x:Nat} (h1:ig (ρ.pull f) (fun k=>ν (g k)) hp x) (h2:ig (ρ.pull f') (fun k=>ν (g' k)) hq x):False:=by
 obtain ⟨k,sb,a1,a3,rfl⟩:=h1
 obtain ⟨j,sc,b1,b3,he⟩:=h2
 refine hn k j (List.getElem?_eq_some_iff.1 a1).1 (List.getElem?_eq_some_iff.1 b1).1 ?_
 exact h.inj (g k) (g' j) _ _ (Pg hg a1) (Pg hg' b1) (by rw [SB.gJ];exact a3) (by rw [SB.gJ];exact b3) (uf ho a1 (SB.dI a3)).2 he
theorem aL.Jk {ρ:Env} {ν:Nat→Addr} {hp:List SB} {w w':World} (ha:oG hp=true) (h:aL ρ ν hp w) (hk:∀b,ig ρ ν hp b→w'.heap[b]?=w.heap[b]?):aL ρ ν hp w' :=
 h.frame ha fun b hb=>hk b (uw hb)
theorem kE.aH {z:Nat} {W:Nat→Prop} {ρ:Env} {ν:Nat→Addr} {hp:List SB} (ha:oG hp=true) (h:kE z W ρ ν hp) {b:Nat} (hb:ig ρ ν hp b):z≤b∨W b:=Tn h (Pf ha hb)
end Go.Rex
set_option linter.unusedSimpArgs false
set_option linter.unusedVariables false
set_option linter.unusedSimpArgs false
set_option linter.unusedVariables false
namespace Go.Proofs.YthomdlajobnmnaaDoor
open Go.Rex
structure mf (w:World) (a:Addr) (p:PS) (B:Nat→Prop):Prop where
 ex:∃ρ ν,ν 0=a∧aL ρ ν iw w∧ag ρ (ρ.iv 0) (ρ.iv 1) 2=p∧aZ ρ 2∧∀b,ig ρ ν iw b→B b
structure pQ (w:World) (a:Addr) (m:Mn) (B:Nat→Prop):Prop where
 ex:∃ρ ν,ν 0=a∧aL ρ ν jT w∧dZ ρ (ae ρ 0 4) 71=m∧bJ ρ 4∧∀b,ig ρ ν jT b→B b
structure qM (w:World) (iI:Nat→Addr):Prop where
 hp:∃ρ,aL ρ iI iH w
 gl:jr iI (gH Ag 0)
theorem Gm:oG iw=true:=by kernel_rfl
theorem MC:oG jT=true:=by kernel_rfl
section
variable {w w':World} {a:Addr} {p:PS} {m:Mn} {B B':Nat→Prop}
theorem mf.frame (h:mf w a p B) (hk:∀b,B b→w'.heap[b]?=w.heap[b]?):mf w' a p B:=by
 obtain ⟨ρ,ν,h1,h2,h3,h4,h5⟩:=h.ex
 exact ⟨ρ,ν,h1,h2.Jk Gm fun b hb=>hk b (h5 b hb),h3,h4,h5⟩
theorem pQ.frame (h:pQ w a m B) (hk:∀b,B b→w'.heap[b]?=w.heap[b]?):pQ w' a m B:=by
 obtain ⟨ρ,ν,h1,h2,h3,h4,h5⟩:=h.ex
 exact ⟨ρ,ν,h1,h2.Jk MC fun b hb=>hk b (h5 b hb),h3,h4,h5⟩
theorem mf.mono (h:mf w a p B) (hk:∀b,B b→b<w.heap.size→B' b):mf w a p B':=by
 obtain ⟨ρ,ν,h1,h2,h3,h4,h5⟩:=h.ex
 exact ⟨ρ,ν,h1,h2,h3,h4,fun b hb=>hk b (h5 b hb) (tu h2 hb)⟩
theorem pQ.mono (h:pQ w a m B) (hk:∀b,B b→b<w.heap.size→B' b):pQ w a m B':=by
 obtain ⟨ρ,ν,h1,h2,h3,h4,h5⟩:=h.ex
 exact ⟨ρ,ν,h1,h2,h3,h4,fun b hb=>hk b (h5 b hb) (tu h2 hb)⟩
theorem qM.frame {iI:Nat→Addr} (h:qM w iI) (hz:w.heap.size≤w'.heap.size) (hk:∀k,k<8→w'.heap[(iI k).block]?=w.heap[(iI k).block]?):qM w' iI:=by
 obtain ⟨⟨ρ,h1⟩,h2⟩:=h
 exact ⟨⟨ρ,h1.DX hz fun k sb hk' _=>hk k (Nat.lt_of_lt_of_le (List.getElem?_eq_some_iff.1 hk').1 (by decide))⟩,h2⟩
end
def fM (i:Nat):Nat:=if i<4 then i+187 else i+92
def gM:Nat→Nat
 | 0=>8
 | 1=>9
 | k=>k+16
def fP:Nat→Nat
 | 0=>84
 | 1=>85
 | i=>i+174
def gP:Nat→Nat
 | 0=>13
 | 1=>14
 | 2=>15
 | k=>k+18
theorem Rm:(List.range jT.length).map (fun j=>iO.hp'[gM j]?)=jT.map fun sb=>some (sb.aT fM gM):=by kernel_rfl
theorem Rn:(List.range iw.length).map (fun j=>iO.hp'[gP j]?)=iw.map fun sb=>some (sb.aT fP gP):=by kernel_rfl
theorem VW:∀i j,i<jT.length→j<jT.length→gM i=gM j→i=j:=by
 intro i j hi hj h
 replace hi:i<5:=hi
 replace hj:j<5:=hj
 match i,j,hi,hj,h with
 | 0,0,_,_,_=>rfl
 | 1,1,_,_,_=>rfl
 | i+2,j+2,_,_,h =>
  have h:i+2+16=j+2+16:=h
  omega
 | 0,1,_,_,h=>cases h
 | 1,0,_,_,h=>cases h
 | 0,j+2,_,_,h =>
  have h:8=j+2+16:=h
  omega
 | 1,j+2,_,_,h =>
  have h:9=j+2+16:=h
  omega
 | i+2,0,_,_,h =>
  have h:i+2+16=8:=h
  omega
 | i+2,1,_,_,h =>
  have h:i+2+16=9:=h
  omega
theorem VX:∀i j,i<iw.length→j<iw.length→gP i=gP j→i=j:=by
 have:∀i,i<5→∀j,j<5→gP i=gP j→i=j:=by decide
 intro i j hi hj
 exact this i hi j hj
theorem YB:∀i j,i<jT.length→j<iw.length→gM i≠gP j:=by
 have:∀i,i<5→∀j,j<5→gM i≠gP j:=by decide
 intro i j hi hj
 exact this i hi j hj
theorem Uc {w:World} {a aP:Addr} {m:Mn} {p:PS} {BM BP:Nat→Prop} {iI:Nat→Addr} (hs:qM w iI) (hm:pQ w a m BM) (hp:mf w aP p BP) (hd:∀b,BM b→BP b→False) (hz:∀k,k<8→¬BM (iI k).block∧¬BP (iI k).block) (hpre:mM m p) :
  Calls Tryd.prog 22 #[.pointer (some a),.pointer (some aP)] w fun e w'=>e=.returned (.bool (m.step p).2.2)∧∃KD KE,pQ w' a (m.step p).1 KD∧mf w' aP (m.step p).2.1 KE∧(∀b,KD b→KE b→False)∧(∀b,KD b∨KE b→w.heap.size≤b∨BM b∨BP b)∧lM w (fun b=>BM b∨BP b) w':=by
 obtain ⟨Sq,Pj,rfl,YC,rfl,hmo,hmb⟩:=hm.ex
 obtain ⟨dC,fI,rfl,VY,rfl,hpo,hpb⟩:=hp.ex
 obtain ⟨⟨KF,hsh⟩,hgl⟩:=hs
 have hsB:∀x,ig KF iI iH x→∃k,k<8∧x=(iI k).block:=by
  rintro x ⟨k,sb,h1,_,rfl⟩
  exact ⟨k,Nat.lt_of_lt_of_le (List.getElem?_eq_some_iff.1 h1).1 (by decide),rfl⟩
 have hSM:=aL.join (N:=0) hsh YC (by kernel_rfl) fun x h1 h2=>by
  obtain ⟨k,hk,rfl⟩:=hsB x h1
  exact (hz k hk).1 (hmb _ h2)
 have BH:=aL.join (N:=84) hSM VY (by kernel_rfl) fun x h1 h2=>by
  rcases (MB (by kernel_rfl)).1 h1 with h1 | h1
  ·obtain ⟨k,hk,rfl⟩:=hsB x h1
   exact (hz k hk).2 (hpb _ h2)
  ·exact hd x (hmb _ h1) (hpb _ h2)
 have eL:iO.hp=(iH ++ jT.map (SB.aT (0+·) (iH.length+·))) ++ iw.map (SB.aT (84+·) ((iH ++ jT.map (SB.aT (0+·) (iH.length+·))).length+·)):=by kernel_rfl
 rw [←eL] at BH
 have zb:∀x,kL ((KF.cat 0 Sq).cat 84 dC) (kr (iH ++ jT.map (SB.aT (0+·) (iH.length+·))).length (kr iH.length iI Pj) fI) iO.hp x→BM x∨BP x:=by
  intro x hx
  rw [eL] at hx
  rcases za (by kernel_rfl) hx with hb | hb
  ·rcases za (by kernel_rfl) hb with hb | hb
   ·exact (BG (by kernel_rfl) hb).elim
   ·exact .inl (hmb _ (uw hb))
  ·exact .inr (hpb _ (uw hb))
 obtain ⟨ρ,hρ⟩:∃ρ,ρ=(KF.cat 0 Sq).cat 84 dC:=⟨_,rfl⟩
 obtain ⟨ν,lN⟩:∃ν,ν=kr (iH ++ jT.map (SB.aT (0+·) (iH.length+·))).length (kr iH.length iI Pj) fI:=⟨_,rfl⟩
 have e8:ν 8=Pj 0:=by rw [lN];rfl
 have e13:ν 13=fI 0:=by rw [lN];rfl
 have eM:M0 ρ=dZ Sq (ae Sq 0 4) 71:=by rw [hρ];rfl
 have eP:P0 ρ=ag dC (dC.iv 0) (dC.iv 1) 2:=by rw [hρ];rfl
 have hG:jr ν iO.gl:=by
  refine jr.ext (nv:=0) (n:=8) (ρ:=KF) (ρ':=ρ) (ν:=iI) ⟨fun i h=>absurd h (Nat.not_lt_zero _),fun i h=>absurd h (Nat.not_lt_zero _),fun i h=>absurd h (Nat.not_lt_zero _),fun i h=>absurd h (Nat.not_lt_zero _),fun i h=>absurd h (Nat.not_lt_zero _),fun i h=>absurd h (Nat.not_lt_zero _),fun i h=>?_⟩ (by kernel_rfl) hgl
  rw [lN,pE _ _ _ (Nat.lt_of_lt_of_le h (by decide)),pE _ _ _ (Nat.lt_of_lt_of_le h (by decide))]
 have Sr:bJ ρ 4∧aZ ρ 86:=by
  rw [hρ]
  exact ⟨hmo,hpo⟩
 rw [←hρ,←lN] at BH zb
 rw [←eM,←eP] at hpre ⊢
 have hrun:=Pb.run ρ ν w BH hG ⟨Sr.1,Sr.2,hpre⟩
 rw [show (iO.args.map (·.den ρ ν)).toArray=#[.pointer (some (Pj 0)),.pointer (some (fI 0))] by rw [←e8,←e13];rfl] at hrun
 refine hrun.mono ?_
 rintro ev w' ⟨ρ',aN,hA,rfl,jR,hwr,how,q1,q2,q3⟩
 have YD:M0 ρ'=M0 ρ:=by
  unfold M0 dZ ae ku ay aI av dV aW gY bP
  simp (disch:=decide) only [hA.iv,hA.bv,hA.ic,hA.bc]
 have VZ:P0 ρ'=P0 ρ:=by
  unfold P0 ag
  simp (disch:=decide) only [hA.iv,hA.bv,hA.ic,hA.bc]
 replace q3:(dZ ρ' (ae ρ' 187 96) 163,ag ρ' (ρ'.iv 84) (ρ'.iv 85) 176,ρ'.bv 186)=(M0 ρ').step (P0 ρ'):=q3
 rw [YD,VZ] at q3
 rw [←q3]
 refine ⟨rfl,ig (ρ'.pull fM) (fun k=>aN (gM k)) jT,ig (ρ'.pull fP) (fun k=>aN (gP k)) iw,⟨ρ'.pull fM,fun k=>aN (gM k),?_,jR.sub Rm VW,rfl,q1,fun _ h=>h⟩,⟨ρ'.pull fP,fun k=>aN (gP k),?_,jR.sub Rn VX,rfl,q2,fun _ h=>h⟩,fun b h1 h2=>Ph jR Rm Rn YB MC h1 h2,?_,?_⟩
 ·show aN 8=Pj 0
  rw [hA.bl 8 (by decide),e8]
 ·show aN 13=fI 0
  rw [hA.bl 13 (by decide),e13]
 ·rintro b (h | h)
  ·exact ((how.sub Rm).aH MC h).imp id (zb b)
  ·exact ((how.sub Rn).aH Gm h).imp id (zb b)
 ·exact ⟨hwr.os,hwr.tape,hwr.output,hwr.size,fun k hk hn=>hwr.block k hk fun h=>hn (zb k h)⟩
end Go.Proofs.YthomdlajobnmnaaDoor
