/- part 17 of the proof -/
import Derived.Tactics
import Derived.Maps.AppendAt
import Derived.Test.YthomdlajobnmnaaGreatDoorX11
import Derived.Test.YthomdlajobnmnaaGreatDoorX16
import Derived.Test.YthomdlajobnmnaaGreatDoorX9
set_option linter.unusedSimpArgs false
set_option linter.unusedVariables false
namespace Go.Proofs.YthomdlajobnmnaaGreatDoor
open Go.RowKit Go.Rex
structure lZ (w:World) (A:Nat) (l:List Op):Prop where
 ex:∀(i:Nat) (o:Op),l[i]?=some o→w.cell? ⟨A,4 * i,none⟩=some (.int .i64 o.kind)∧w.cell? ⟨A,4 * i+1,none⟩=some (.int .i64 o.key)∧w.cell? ⟨A,4 * i+2,none⟩=some (.int .i64 o.val)∧w.cell? ⟨A,4 * i+3,none⟩=some (.int .i64 o.wh)
def wF (w:World) (v:Value) (j:Option Jb) (B:Nat→Prop):Prop :=
 match j with
 | none=>v=.pointer none
 | some x=>∃a,v=.pointer (some a)∧jU w a x B
def jP (l:List (Int × Int)):List Value:=l.flatMap fun x=>[.int .i64 x.1,.int .i64 x.2]
structure aQ (w:World) (b base A:Nat) (k:Wk) (B:Nat→Prop):Prop where
 ex:∃(aR:Nat) (jv sv:Value) (c:Nat) (BR BJ:Nat→Prop),
  w.heap[b]?=some (.cells #[.pointer (some ⟨aR,0,none⟩),.slice (some ⟨A,0,none⟩) k.ops.length c,jv,.bool k.aV,sv] 44 (0,0)) ∧
  lI w ⟨aR,0,none⟩ k.r BR∧wF w jv k.j BJ∧lZ w A k.ops∧w.ownsRow base 39 2 sv k.said.length (jP k.said) ∧
  (¬BR b∧¬BJ b∧∀x,BR x→¬BJ x)∧(sv.ownBlock≠some b∧∀x,BR x∨BJ x→sv.ownBlock≠some x) ∧
  (A≠b∧¬BR A∧¬BJ A∧sv.ownBlock≠some A∧A<w.heap.size)∧∀x,x=b∨BR x∨BJ x∨sv.ownBlock=some x→B x
section
variable {w w':World} {b base A:Nat} {k:Wk} {B:Nat→Prop}
theorem aQ.cells (h:aQ w b base A k B):∃(aR:Nat) (jv sv:Value) (c:Nat),w.cell? ⟨b,0,none⟩=some (.pointer (some ⟨aR,0,none⟩))∧w.cell? ⟨b,1,none⟩=some (.slice (some ⟨A,0,none⟩) k.ops.length c)∧w.cell? ⟨b,2,none⟩=some jv∧w.cell? ⟨b,3,none⟩=some (.bool k.aV)∧w.cell? ⟨b,4,none⟩=some sv∧∀i,w.frozen? ⟨b,i,none⟩=false:=by
 obtain ⟨aR,jv,sv,c,BR,BJ,h1,-⟩:=h.ex
 refine ⟨aR,jv,sv,c,?_,?_,?_,?_,?_,fun i=>?_⟩
 all_goals
  first
   | unfold World.cell?
   | unfold World.frozen?
  rw [h1]
  first
   | rfl
   | simp
theorem lZ.frame {l:List Op} (h:lZ w A l) (hk:w'.heap[A]?=w.heap[A]?):lZ w' A l:=⟨fun i o hi=>by
  have:=h.ex i o hi
  unfold World.cell? at *
  rw [hk]
  exact this⟩
theorem wF.frame {v:Value} {j:Option Jb} {BJ:Nat→Prop} (h:wF w v j BJ) (hk:∀x,x<w.heap.size→BJ x→w'.heap[x]?=w.heap[x]?):wF w' v j BJ:=by
 cases j with
 | none=>exact h
 | some x =>
  obtain ⟨a,e,hJ⟩:=h
  have:=(hJ.mono (B':=fun x=>BJ x∧x<w.heap.size) fun b p q=>⟨p,q⟩).frame fun b hb=>hk b hb.2 hb.1
  exact ⟨a,e,this.mono fun b p _=>p.1⟩
theorem fe {v:Value} {n:Nat} {e:TypeId} {size:Nat} {xs:List Value} (h:w.ownsRow base e size v n xs) (hk:∀x,x<w.heap.size→v.ownBlock=some x→w'.heap[x]?=w.heap[x]?):w'.ownsRow base e size v n xs:=by
 obtain ⟨h1,h2 | ⟨g,cap,cur,h2,h3,h4,h5⟩⟩:=h
 ·exact ⟨h1,.inl h2⟩
 ·refine ⟨h1,.inr ⟨g,cap,cur,h2,h3,?_,h5⟩⟩
  rw [hk g ?_ (by rw [h2];rfl)]
  ·exact h4
  ·rcases Nat.lt_or_ge g w.heap.size with h | h
   ·exact h
   ·rw [Array.getElem?_eq_none h] at h4;cases h4
theorem xE {v:Value} {n:Nat} {e:TypeId} {size:Nat} {xs:List Value} {x:Nat} (h:w.ownsRow base e size v n xs) (hx:v.ownBlock=some x):x<w.heap.size:=by
 obtain ⟨h1,⟨rfl,-⟩ | ⟨g,cap,cur,rfl,h3,h4,h5⟩⟩:=h
 ·cases hx
 ·obtain rfl:g=x:=Option.some.inj hx
  rcases Nat.lt_or_ge g w.heap.size with h | h
  ·exact h
  ·rw [Array.getElem?_eq_none h] at h4;cases h4
theorem aQ.put (h:aQ w b base A k B) (i:Nat) (x:Value) (j:Option Jb) (aV:Bool) (hj:i=2→j=none∧x=.pointer none) (hi:i=3→x=.bool aV) (hj':i≠2→j=k.j) (hi':i≠3→aV=k.aV) (h23:i=2∨i=3) :
  (w.frozen? ⟨b,i,none⟩=false)∧aQ (w.setCell ⟨b,i,none⟩ x) b base A {k with j:=j,aV:=aV} B:=by
 obtain ⟨aR,jv,sv,c,BR,BJ,h1,h2,h3,h4,h5,⟨d1,d2,d3⟩,⟨e1,e2⟩,⟨f1,f2,f3,f4,f5⟩,hB⟩:=h.ex
 have hother:∀y,y≠b→(w.setCell ⟨b,i,none⟩ x).heap[y]?=w.heap[y]?:=fun y hy=>heap_setCell_other w ⟨b,i,none⟩ y _ hy
 have hsame:=heap_setCell_same w b i _ _ x h1
 have hsz:(w.setCell ⟨b,i,none⟩ x).heap.size=w.heap.size:=by simp [World.setCell]
 have hR:=h2.frame (w':=w.setCell ⟨b,i,none⟩ x) fun y hy=>hother y fun e=>d1 (e ▸ hy)
 have hO:=h4.frame (w':=w.setCell ⟨b,i,none⟩ x) (hother A f1)
 have hS:=fe (w':=w.setCell ⟨b,i,none⟩ x) h5 fun y _ ho=>hother y fun e=>e1 (e ▸ ho)
 refine ⟨by unfold World.frozen?;rw [h1];rfl,?_⟩
 rcases h23 with rfl | rfl
 ·obtain ⟨rfl,rfl⟩:=hj rfl
  obtain rfl:=hi' (by decide)
  exact ⟨aR,.pointer none,sv,c,BR,BJ,hsame,hR,rfl,hO,hS,⟨d1,d2,d3⟩,⟨e1,e2⟩,⟨f1,f2,f3,f4,by rw [hsz];exact f5⟩,hB⟩
 ·obtain rfl:=hi rfl
  obtain rfl:=hj' (by decide)
  exact ⟨aR,jv,sv,c,BR,BJ,hsame,hR,h3.frame fun y _ hy=>hother y fun e=>d2 (e ▸ hy),hO,hS,⟨d1,d2,d3⟩,⟨e1,e2⟩,⟨f1,f2,f3,f4,by rw [hsz];exact f5⟩,hB⟩
end
section
variable {w w':World} {b base A:Nat} {k:Wk} {B:Nat→Prop}
end
section
variable {w w0 w1:World} {b base A n:Nat} {k k0:Wk} {B B0 B1 F G:Nat→Prop} {I:Nat→Wk→Prop}
theorem iW (h:bA w0 F w) (h1:bA w G w1) (hG:∀x,G x→x<w.heap.size→F x∨w0.heap.size≤x):bA w0 F w1 :=
 ⟨h1.os.trans h.os,h1.tape.trans h.tape,h1.output.trans h.output,Nat.le_trans h.size h1.size,fun k hk hn=>(h1.block k (Nat.lt_of_lt_of_le hk h.size) fun h'=>(hG k h' (Nat.lt_of_lt_of_le hk h.size)).elim hn fun z=>absurd hk (Nat.not_lt.2 z)).trans (h.block k hk hn)⟩
end
end Go.Proofs.YthomdlajobnmnaaGreatDoor
namespace Go.Proofs.YthomdlajobnmnaaGreatDoor
open Go.Rex
section
variable {Q:Vk→PS→Prop} {c n:Nat} {l:Lo} {ops:List Op} {j j':Jb} {aV:Bool} {said:List (Int × Int)} {p p':PS} {x x':Rp} {ca:Ca} {a:Ac}
end
theorem eX {k s g f:Int} {o w:Wd} (h:1≤k∧k≤11):({Ca.of k with slot:=s,gen:=g,field:=f,old:=o,new:=w}:Ca).OK:=by
 have h9:(0:Int)≤0∧(0:Int)<9:=by decide
 exact ⟨h.1,h.2,h9.1,h9.2,h9.1,h9.2⟩
section
variable {Q:Vk→PS→Prop} {c n:Nat} {l:Lo} {ops:List Op} {said:List (Int × Int)} {p:PS} {y:Rp} {tag m val:Int} {st:List Nd}
end
section
variable {Q:Vk→PS→Prop} {v:Vk} {w:Wk} {p:PS} {x:Rp}
theorem VW.idle (h:VW v w) (ht:v.t=.idle x):iG v.l (.idle x) w.r∧w.r.step=0∧w.r.bR=x:=by
 have hr:=h.rep
 rw [ht] at hr
 exact ⟨hr,hr.step,hr.more⟩
structure TE (T:Int) (Q:Vk→PS→Prop) (w:Wk) (p:PS):Prop where
 ex:∃v K,v.done∧Q v p∧VW v w∧AV K v p∧K≤T+200
theorem TE.idle {T:Int} (h:TE T Q w p):w.idle:=by
 obtain ⟨v,K,⟨d1,d2,d3,d4⟩,-,hV,-⟩:=h.ex
 exact ⟨hV.rep.step.trans d1,hV.j.trans d2,hV.aV.trans d3,by rw [hV.ops,hV.said];exact d4⟩
end
def Ko (E me N:Int):Lo:=⟨E,me,2,N,fun _=>Wd.zero,Sp.zero,[],0⟩
theorem ab4 (E me N:Int):iG (Ko E me N) (.idle ⟨Wd.zero,false⟩) (RS.new E me 2 N):=⟨rfl,rfl,rfl,rfl,rfl,rfl,rfl,rfl,rfl,fun h=>absurd rfl h,rfl⟩
theorem aeY {E me N:Int} (hE:1≤E∧E≤5) (hm:0≤me∧me<2) (hN:1≤N):(Ko E me N).OK:=⟨hE,hm,by show (1:Int)≤2∧(2:Int)≤6;decide,hN⟩
end Go.Proofs.YthomdlajobnmnaaGreatDoor
namespace Go.Proofs.YthomdlajobnmnaaGreatDoor
open Go.RowKit Go.Rex
theorem Wl {k:Int} {l:Lo} {t:RT} {p:PS} {r:RS} (h:uh k l t p) (hr:iG l t r) (hk:k≤900000):uD r:=by
 have ho:=h.ok
 have hk':=hr.keeps
 have hn:=h.nl
 exact ⟨⟨⟨by rw [hk'.me];exact ho.me.1,by rw [hk'.me];have:=ho.me;have:=ho.threads;omega⟩,by rw [hk'.threads];exact ho.threads.1,by rw [hk'.threads];exact ho.threads.2⟩,by rw [hk'.notes];omega⟩
theorem aaF {k:Int} {w:Wd} (h:Wb k w) (h0:0≤k) (hk:k≤900001):smW w:=by
 obtain ⟨a,b,c,d⟩:=h
 exact ⟨by omega,by omega⟩
theorem Wm {k:Int} {l:Lo} {t:RT} {p:PS} {r:RS} {x:Rp} (h:uh k l t p) (hr:iG l t r) (hk:k≤900000) (h0:t.dB≠0) (hx:Wb (k+1) x.word):oG r x:=by
 have hm:=hr.more
 have hs:=hr.step
 have hf:=h.fr
 have hsn:=h.fF
 have hk0:=h.k0
 have t13:r.step=13→∃ck seen,t=.fM ck seen:=fun e=>by
  rw [hs] at e
  cases t with
  | fM c s=>exact ⟨_,_,rfl⟩
  | _=>cases e
 refine ⟨Wl h hr hk,fun e=>?_,fun e=>?_,aaF hx (by omega) (by omega),by rw [hr.freed];omega,fun e=>?_,by rw [hs];exact h0,fun e=>?_,fun e=>?_⟩
 ·obtain ⟨ck,seen,rfl⟩:=t13 e
  obtain ⟨a,b,c⟩:=hm
  have hl:seen.length≤60:=hsn.2
  rw [b,c]
  refine ⟨by omega,by omega,fun e4=>?_⟩
  rw [a (by rw [←hr.af];exact e4)]
  exact aaF (show Wb k ck from h.tw) hk0 (by omega)
 ·rw [hs] at e
  cases t with
  | fG=>rw [hr.af];exact hsn
  | _=>cases e
 ·rw [hs] at e
  cases t with
  | iA d q =>
   refine ⟨d,q,hm,?_⟩
   rw [hr.notes]
   exact List.Sublist.subset hsn (List.mem_cons_self ..)
  | _=>cases e
 ·rw [hs] at e
  cases t with
  | ik i =>
   rw [show r.index=i from hm]
   exact hsn
  | _=>cases e
 ·rw [hs] at e
  cases t with
  | bW c=>rw [show r.call=c from hm];exact hsn
  | ib c w=>rw [show r.call=c from hm.1];exact hsn.2
  | gz c a=>rw [show r.call=c from hm];exact hsn
  | _=>rcases e with e | e | e <;> cases e
where
 ab5 {Q:Vk→PS→Prop} {c m:Nat} {v:Vk} {p:PS} {x:Rp} (hF:Fin Q c m v p) (ht:v.t=.idle x) (hd:¬v.done):∃c' m',v.may x∧Fin Q c' m' (v.bZ x) p:=by
  cases m with
  | zero=>exact absurd hF.1 hd
  | succ m =>
   rcases hF with h | ⟨y,hy,hm,c',rfl,h⟩ | ⟨h0,-⟩
   ·exact absurd h.1 hd
   ·rw [ht] at hy
    cases hy
    exact ⟨c',m,hm,h⟩
   ·rw [ht] at h0
    exact absurd rfl h0
def jN {α:Type} (f:Nat→α) (i:Nat) (x:α):Nat→α:=fun k=>if k=i then x else f k
theorem bF {α:Type} (f:Nat→α) (i:Nat) (x:α):jN f i x i=x:=if_pos rfl
theorem dR {α:Type} (f:Nat→α) {i k:Nat} (x:α) (h:k≠i):jN f i x k=f k:=if_neg h
section
variable {w w':World} {b base A:Nat} {k:Wk} {B B':Nat→Prop}
theorem aQ.frame (h:aQ w b base A k B) (hk:∀x,x<w.heap.size→B x→w'.heap[x]?=w.heap[x]?) (hA:w'.heap[A]?=w.heap[A]?) (hs:w.heap.size≤w'.heap.size):aQ w' b base A k fun x=>B x∧x<w.heap.size:=by
 obtain ⟨aR,jv,sv,c,BR,BJ,h1,h2,h3,h4,h5,⟨d1,d2,d3⟩,⟨e1,e2⟩,⟨f1,f2,f3,f4,f5⟩,hB⟩:=h.ex
 have hb:b<w.heap.size:=by
  rcases Nat.lt_or_ge b w.heap.size with h | h
  ·exact h
  ·rw [Array.getElem?_eq_none h] at h1;cases h1
 refine ⟨aR,jv,sv,c,fun x=>BR x∧x<w.heap.size,fun x=>BJ x∧x<w.heap.size,?_,?_,?_,h4.frame hA,fe h5 fun x hx ho=>hk x hx (hB x (.inr (.inr (.inr ho)))),⟨fun x=>d1 x.1,fun x=>d2 x.1,fun x hx y=>d3 x hx.1 y.1⟩,⟨e1,fun x hx=>e2 x (hx.imp And.left And.left)⟩,⟨f1,fun x=>f2 x.1,fun x=>f3 x.1,f4,Nat.lt_of_lt_of_le f5 hs⟩,?_⟩
 ·rw [hk b hb (hB b (.inl rfl))];exact h1
 ·exact (h2.mono (B':=fun x=>BR x∧x<w.heap.size) fun x p q=>⟨p,q⟩).frame fun x hx=>hk x hx.2 (hB x (.inr (.inl hx.1)))
 ·cases hj:k.j with
  | none=>rw [hj] at h3;exact h3
  | some z =>
   rw [hj] at h3
   obtain ⟨a,e,hJ⟩:=h3
   exact ⟨a,e,(hJ.mono (B':=fun x=>BJ x∧x<w.heap.size) fun x p q=>⟨p,q⟩).frame fun x hx=>hk x hx.2 (hB x (.inr (.inr (.inl hx.1))))⟩
 ·rintro x (hx | hx | hx | hx)
  ·exact ⟨hB x (.inl hx),hx ▸ hb⟩
  ·exact ⟨hB x (.inr (.inl hx.1)),hx.2⟩
  ·exact ⟨hB x (.inr (.inr (.inl hx.1))),hx.2⟩
  ·exact ⟨hB x (.inr (.inr (.inr hx))),xE h5 hx⟩
theorem aQ.mono (h:aQ w b base A k B) (hB:∀x,B x→x<w.heap.size→B' x):aQ w b base A k B':=by
 obtain ⟨aR,jv,sv,c,BR,BJ,h1,h2,h3,h4,h5,h6,h7,h8,h9⟩:=(h.frame (w':=w) (fun _ _ _=>rfl) rfl (Nat.le_refl _)).ex
 exact ⟨aR,jv,sv,c,BR,BJ,h1,h2,h3,h4,h5,h6,h7,h8,fun x hx=>hB x (h9 x hx).1 (h9 x hx).2⟩
theorem aQ.self (h:aQ w b base A k B):B b∧b<w.heap.size∧A<w.heap.size:=by
 obtain ⟨aR,jv,sv,c,BR,BJ,h1,h2,h3,h4,h5,h6,h7,h8,h9⟩:=h.ex
 refine ⟨h9 b (.inl rfl),?_,h8.2.2.2.2⟩
 rcases Nat.lt_or_ge b w.heap.size with h | h
 ·exact h
 ·rw [Array.getElem?_eq_none h] at h1;cases h1
end
structure jD (w:World) (aP:Addr) (aW A:Nat→Nat) (base n:Nat) (p:PS) (W:Nat→Wk) (F:Nat→Prop):Prop where
 ex:∃(BP:Nat→Prop) (BM:Nat→Nat→Prop),gL w aP p BP∧(∀k,k<n→aQ w (aW k) base (A k) (W k) (BM k))∧(∀k,k<n→∀b,BP b→¬BM k b)∧(∀j k,j<n→k<n→j≠k→∀b,BM j b→¬BM k b)∧(∀b,BP b→F b)∧(∀k,k<n→∀b,BM k b→F b)∧∀k,k<n→¬F (A k)
section
variable {w w':World} {aP:Addr} {aW A:Nat→Nat} {base n:Nat} {p p':PS} {W:Nat→Wk} {F F':Nat→Prop}
theorem jD.nil {B:Nat→Prop} (h:gL w aP p B):jD w aP aW A base 0 p W B :=
 ⟨B,fun _ _=>False,h,fun k hk=>absurd hk (Nat.not_lt_zero k),fun k hk=>absurd hk (Nat.not_lt_zero k),fun j k hj=>absurd hj (Nat.not_lt_zero j),fun _ h=>h,fun k hk=>absurd hk (Nat.not_lt_zero k),fun k hk=>absurd hk (Nat.not_lt_zero k)⟩
theorem jD.add {b:Nat} {k:Wk} {B:Nat→Prop} (h:jD w aP aW A base n p W F) (hm:aQ w b base (A n) k B) (hd:∀x,B x→¬F x) (hA:∀i,i<n→¬B (A i)) (hAn:¬F (A n)) (hAB:¬B (A n)):jD w aP (jN aW n b) A base (n+1) p (jN W n k) fun x=>F x∨B x:=by
 obtain ⟨BP,BM,h1,h2,h3,h4,h5,h6,h7⟩:=h.ex
 refine ⟨BP,jN BM n B,h1,fun k hk=>?_,fun k hk x=>?_,fun j k hj hk hjk x=>?_,fun x hx=>.inl (h5 x hx),fun k hk x=>?_,fun k hk=>?_⟩
 ·by_cases hkn:k=n
  ·rw [hkn,bF,bF,bF];exact hm
  ·rw [dR _ _ hkn,dR _ _ hkn,dR _ _ hkn];exact h2 k (by omega)
 ·by_cases hkn:k=n
  ·rw [hkn,bF];exact fun a b=>hd x b (h5 x a)
  ·rw [dR _ _ hkn];exact h3 k (by omega) x
 ·by_cases q1:j=n
  ·have q2:k≠n:=fun e=>hjk (q1.trans e.symm)
   rw [q1,bF,dR _ _ q2]
   exact fun a b=>hd x a (h6 k (by omega) x b)
  ·rw [dR _ _ q1]
   by_cases q2:k=n
   ·rw [q2,bF]
    exact fun a b=>hd x b (h6 j (by omega) x a)
   ·rw [dR _ _ q2]
    exact h4 j k (by omega) (by omega) hjk x
 ·by_cases hkn:k=n
  ·rw [hkn,bF];exact .inr
  ·rw [dR _ _ hkn];exact fun a=>.inl (h6 k (by omega) x a)
 ·by_cases hkn:k=n
  ·rw [hkn];exact fun q=>q.elim hAn hAB
  ·exact fun q=>q.elim (h7 k (by omega)) (hA k (by omega))
end
section
variable {k:Wk} {n:Nat} {j:Jb}
end
section
variable {w w' w0 w1:World} {b base A:Nat} {k:Wk} {B F G:Nat→Prop}
theorem aQ.nw (h:aQ w b base A k B) (hn:Nw w w'):aQ w' b base A k fun x=>B x∧x<w.heap.size :=
 h.frame (fun x hx _=>hn.block x hx id) (hn.block _ h.self.2.2 id) hn.size
theorem aQ.said (h:aQ w b base A k B):∃a c,w.cell? ⟨b,4,none⟩=some (.slice a k.said.length c):=by
 obtain ⟨aR,jv,sv,c,BR,BJ,h1,h2,h3,h4,⟨h5,h6⟩,-⟩:=h.ex
 have NZ:w.cell? ⟨b,4,none⟩=some sv:=by
  unfold World.cell?
  rw [h1]
  rfl
 rcases h6 with ⟨rfl,e⟩ | ⟨g,cap,cur,rfl,-⟩
 ·exact ⟨none,0,by rw [NZ,e]⟩
 ·exact ⟨_,_,NZ⟩
theorem aQ.setW (h:aQ w b base A k B) (i:Nat) (x:Value):bA w B (w.setCell ⟨b,i,none⟩ x) :=
 ⟨rfl,rfl,rfl,by simp [World.setCell],fun y hy hn=>heap_setCell_other w ⟨b,i,none⟩ y _ fun e=>hn (e ▸ h.self.1)⟩
theorem He (h:bA w F w') (hn:Nw w' w1):bA w F w1:=iW h hn fun x hx _=>hx.elim
theorem ab6 (h:bA w F w') (h1:bA w' F w1):bA w F w1:=iW h h1 fun x hx _=>.inl hx
end
end Go.Proofs.YthomdlajobnmnaaGreatDoor
namespace Go.Proofs.YthomdlajobnmnaaGreatDoor.Cq
open Go.Rex
def QH (v:Nat):SB:={t:=167,cs:=[iv v] ++ xu (v+1) ++ Ja (v+19) ++ jy (v+23) ++ jy (v+28) ++ jy (v+33) ++ jy (v+38) ++ [iv (v+43)],own:=true}
def l5:dQ:={f:=48,nv:=50,args:=[.one (.ptr {aC:=0}),.agg (xq 44)],hp:=[QH 0],jf:=112,ret:=.w (.agg (xu 94)),hp':=[QH 50]}
def fO:dQ:={f:=47,nv:=4,args:=[.agg (Ja 0)],hp:=[],jf:=48,ret:=.iF [.one (.ptr {aC:=0}),.one .dI],hp':=[QH 4]}
end Go.Proofs.YthomdlajobnmnaaGreatDoor.Cq
namespace Go.Proofs.YthomdlajobnmnaaGreatDoor.Cq
open Go.Rex
noncomputable def Wn:Ex:={sched:=sched,loops:=[],cons:=[],fin:=l5}
abbrev qX:List (Nat × BE):=[(92,yw 42),(87,yw 37),(82,yw 32),(77,yw 27),(64,yw 14),(59,yw 9),(107,.lit false),(102,.lit false)]
abbrev La:List (Nat × BE):=[(92,yw 42),(87,yw 37),(82,yw 32),(77,yw 27),(64,.lit false),(59,.lit false),(107,.lit false),(102,.lit false)]
abbrev aaG:List (Nat × BE):=[(92,yw 42),(87,yw 48),(82,yw 32),(77,yw 27),(64,yw 14),(59,yw 9),(107,.lit false),(102,.lit false)]
abbrev aaH:List (Nat × BE):=[(92,yw 48),(87,yw 37),(82,yw 32),(77,yw 27),(64,yw 14),(59,yw 9),(107,.lit false),(102,.lit false)]
abbrev Lb:List (Nat × IE):=yo [(93,yv 43)]<|yr 91 41 4<|yr 86 36 4<|yr 81 31 4<|yr 76 26 12<|yr 63 13 4<|yr 58 8 8<|[(50,.lit 3),yz 111,yz 110,yz 109,yz 108,yz 106,yz 105,yz 104,yz 103,yz 101,yz 100,yz 99,yz 98,(97,.lit 1),yz 96,yz 95,(94,.lit 6)]
abbrev Tv:List (Nat × BE):=[(92,yw 42),(87,yw 37),(82,yw 32),(77,yw 27),(64,yw 14),(59,yw 9),(107,.lit false),(102,yw 37)]
abbrev aaI:List (Nat × IE):=yo [(93,yv 43)]<|yr 91 41 4<|yr 86 36 4<|yr 81 31 4<|yr 76 26 12<|yr 63 13 4<|yr 58 8 9<|yr 111 18 4<|yr 106 13 4<|yr 101 8 8 []
abbrev aaJ:List (Nat × BE):=[(92,yw 42),(87,yw 37),(82,yw 32),(77,yw 27),(64,yw 14),(59,yw 9),(107,yw 14),(102,yw 9)]
abbrev Lc:List (Nat × IE):=yo [(93,yv 43)]<|yr 91 41 4<|yr 86 36 4<|yr 81 31 4<|yr 76 26 12<|yr 63 13 4<|yr 58 8 8<|[(50,.lit 1),yz 111,yz 110,yz 109,yz 108,yz 106,yz 105,yz 104,yz 103,yz 101,yz 100,yz 99,yz 98,yz 97,yz 96,yz 95,(94,.lit 6)]
abbrev aaK:List (Nat × BE):=[(92,yw 42),(87,yw 37),(82,yw 32),(77,yw 27),(64,yw 14),(59,yw 9),(107,.lit false),(102,yw 32)]
def EY:Out :=
 .br (.aA (.var 19) (.lit 4))
 (.br (.aA (.var 0) y0)
  (.fin {lo:=50,ah:=1,iv:=yo [(93,yv 43)]<|yr 91 41 4<|yr 86 36 4<|yr 81 31 4<|yr 76 26 12<|yr 63 13 4<|yr 58 8 8<|[(50,.lit 1),yz 111,yz 110,yz 109,yz 108,yz 106,yz 105,yz 104,yz 103,yz 101,yz 100,yz 99,yz 98,yz 97,yz 96,yz 95,(94,.lit 8)],bv:=qX})
  (.br (.aA (.var 0) y1)
   (.br (.not (.var 49))
    (.fin {lo:=50,ah:=1,iv:=yo [(93,yv 43)]<|yr 91 41 4<|yr 86 36 4<|yr 81 31 4<|yr 76 26 8<|[yz 68,(67,.lit 4),yz 66,yz 65,yz 63,yz 62,yz 61,yz 60,yz 58,yz 57,yz 56,yz 55,yz 54,yz 53,yz 52,(51,.lit 12),(50,.lit (-1)),yz 111,(110,.lit 4),yz 109,yz 108,yz 106,yz 105,yz 104,yz 103,yz 101,yz 100,yz 99,yz 98,yz 97,yz 96,yz 95,(94,.lit 12)],bv:=La})
    (.fin {lo:=50,ah:=1,iv:=yo [(93,yv 43)]<|yr 91 41 4<|yr 86 36 4<|yr 81 31 4<|yr 76 47 4<|yr 72 22 8<|yr 63 13 4<|yr 58 8 8<|[(50,.lit 2),yz 111,yz 110,yz 109,yz 108,(106,yv 21),yz 105,yz 104,yz 103,yz 101,yz 100,yz 99,yz 98,(97,.lit 1),(96,yv 45),(95,yv 44),(94,.lit 4)],bv:=[(92,yw 42),(87,yw 37),(82,yw 32),(77,yw 48),(64,yw 14),(59,yw 9),(107,.lit false),(102,.lit false)]}))
   (.br (.aA (.var 0) (.lit 3))
    (.fin {lo:=50,ah:=1,iv:=yo [(93,yv 43)]<|yr 91 41 4<|yr 86 47 4<|yr 81 31 4<|yr 76 26 12<|yr 63 13 4<|yr 58 8 8<|[(50,.lit 4),yz 111,yz 110,yz 109,yz 108,yz 106,yz 105,yz 104,yz 103,yz 101,yz 100,yz 99,yz 98,(97,.lit 2),(96,yv 45),(95,yv 44),(94,.lit 3)],bv:=aaG})
    (.br (.aA (.var 0) (.lit 4))
     (.fin {lo:=50,ah:=1,iv:=yo [(93,yv 43)]<|yr 91 47 4<|yr 86 36 4<|yr 81 31 4<|yr 76 26 12<|yr 63 13 4<|yr 58 8 8<|[(50,.lit 5),yz 111,yz 110,yz 109,yz 108,yz 106,yz 105,yz 104,yz 103,yz 101,yz 100,yz 99,yz 98,(97,.lit 1),yz 96,yz 95,(94,.lit 3)],bv:=aaH})
     (.br (.aA (.var 0) (.lit 5))
      (.br (.not (.and (.aA (.var 44) (.var 33)) (.and (.aA (.var 46) (.var 35)) (.and (.aA (.var 47) (.var 36)) (.beq (.var 48) (.var 37))))))
       (.fin {lo:=50,ah:=1,iv:=Lb,bv:=qX})
       (.br (.not (.aA (.var 38) y0))
        (.ob (.inr .i64 (.add (.var 35) y1)) <|
         .fin {lo:=50,ah:=1,iv:=yo [(93,yv 43)]<|yr 91 41 4<|yr 86 36 4<|yr 81 31 4<|yr 76 26 12<|yr 63 13 4<|yr 58 8 8<|yo [(50,.lit 6),yz 111,yz 110,yz 109,yz 108,yz 106,(105,.add (.var 35) y1),(104,yv 39),(103,yv 38)]<|yr 101 36 4<|[(97,.lit 1),yz 96,yz 95,(94,.lit 5)],bv:=Tv})
        (.ob (.inr .i64 (.add (.var 40) y1)) <|
         .fin {lo:=50,ah:=1,iv:=yo [(93,yv 43)]<|yr 91 41 4<|yr 86 36 4<|yr 81 31 4<|yr 76 26 12<|yr 63 13 4<|yr 58 8 8<|yo [(50,.lit 7),yz 111,yz 110,yz 109,yz 108,yz 106,(105,.add (.var 40) y1),(104,yv 24),(103,yv 23)]<|yr 101 41 4<|[(97,.lit 2),(96,yv 34),(95,yv 33),(94,.lit 5)],bv:=[(92,yw 42),(87,yw 37),(82,yw 32),(77,yw 27),(64,yw 14),(59,yw 9),(107,.lit false),(102,yw 42)]})))
      (.br (.aA (.var 0) (.lit 7))
       (.br (.var 49)
        (.ob (.inr .i64 (.add (.var 35) y1)) <|
         .fin {lo:=50,ah:=1,iv:=yo [(93,yv 43)]<|yr 91 41 4<|yr 86 36 4<|yr 81 31 4<|yr 76 26 12<|yr 63 13 4<|yr 58 8 8<|yo [(50,.lit 8),yz 111,yz 110,yz 109,yz 108,yz 106,(105,.add (.var 35) y1),(104,yv 24),(103,yv 23)]<|yr 101 36 4<|[(97,.lit 1),yz 96,yz 95,(94,.lit 5)],bv:=Tv})
        (.fin {lo:=50,ah:=1,iv:=Lb,bv:=qX}))
       (.br (.aA (.var 0) (.lit 2))
        (.fin {lo:=50,ah:=1,iv:=Lb,bv:=qX})
        (.br (.aA (.var 0) (.lit 6))
         (.fin {lo:=50,ah:=1,iv:=Lb,bv:=qX})
         (.br (.aA (.var 0) (.lit 8))
          (.fin {lo:=50,ah:=1,iv:=yo [(93,yv 43)]<|yr 91 41 4<|yr 86 36 4<|yr 81 31 4<|yr 76 26 8<|[yz 68,(67,.lit 1),yz 66,yz 65,yz 63,yz 62,yz 61,yz 60,yz 58,yz 57,yz 56,yz 55,yz 54,yz 53,yz 52,(51,.lit 12),(50,.lit (-1)),yz 111,(110,.lit 1),yz 109,yz 108,yz 106,yz 105,yz 104,yz 103,yz 101,yz 100,yz 99,yz 98,yz 97,yz 96,yz 95,(94,.lit 12)],bv:=La})
          (.fin {lo:=50,ah:=1,iv:=aaI,bv:=aaJ}))))))))))
 (.br (.aA (.var 0) y1)
  (.fin {lo:=50,ah:=1,iv:=yo [(93,yv 43)]<|yr 91 41 4<|yr 86 36 4<|yr 81 47 4<|yr 76 26 12<|yr 63 13 4<|yr 58 8 8<|[(50,.lit 2),yz 111,yz 110,yz 109,yz 108,yz 106,yz 105,yz 104,yz 103,yz 101,yz 100,yz 99,yz 98,(97,.lit 1),yz 96,yz 95,(94,.lit 3)],bv:=[(92,yw 42),(87,yw 37),(82,yw 48),(77,yw 27),(64,yw 14),(59,yw 9),(107,.lit false),(102,.lit false)]})
  (.br (.aA (.var 0) (.lit 2))
   (.fin {lo:=50,ah:=1,iv:=yo [(93,yv 43)]<|yr 91 41 4<|yr 86 47 4<|yr 81 31 4<|yr 76 26 12<|yr 63 13 4<|yr 58 8 8<|[(50,.lit 3),yz 111,yz 110,yz 109,(108,.lit 1),yz 106,yz 105,yz 104,yz 103,yz 101,yz 100,yz 99,yz 98,(97,.lit 2),(96,yv 29),(95,yv 28),(94,.lit 6)],bv:=aaG})
   (.br (.aA (.var 0) (.lit 3))
    (.fin {lo:=50,ah:=1,iv:=yo [(93,yv 43)]<|yr 91 47 4<|yr 86 36 4<|yr 81 31 4<|yr 76 26 12<|yr 63 13 4<|yr 58 8 8<|[(50,.lit 4),yz 111,yz 110,yz 109,yz 108,yz 106,yz 105,yz 104,yz 103,yz 101,yz 100,yz 99,yz 98,yz 97,yz 96,yz 95,(94,.lit 3)],bv:=aaH})
    (.br (.aA (.var 0) (.lit 4))
     (.br (.not (.and (.aA (.var 44) (.var 28)) (.and (.aA (.var 46) (.var 30)) (.and (.aA (.var 47) (.var 31)) (.beq (.var 48) (.var 32))))))
      (.fin {lo:=50,ah:=1,iv:=Lc,bv:=qX})
      (.br (.aA (.var 38) y0)
       (.fin {lo:=50,ah:=1,iv:=yo [(93,yv 43)]<|yr 91 41 4<|yr 86 36 4<|yr 81 31 4<|yr 76 26 8<|[yz 68,(67,.lit 2),yz 66,yz 65,yz 63,yz 62,yz 61,yz 60,yz 58,yz 57,yz 56,yz 55,yz 54,yz 53,yz 52,(51,.lit 12),(50,.lit (-1)),yz 111,(110,.lit 2),yz 109,yz 108,yz 106,yz 105,yz 104,yz 103,yz 101,yz 100,yz 99,yz 98,yz 97,yz 96,yz 95,(94,.lit 12)],bv:=La})
       (.br (.aA (.var 28) (.var 33))
        (.ob (.inr .i64 (.add (.var 35) y1)) <|
         .fin {lo:=50,ah:=1,iv:=yo [(93,yv 43)]<|yr 91 41 4<|yr 86 36 4<|yr 81 31 4<|yr 76 26 12<|yr 63 13 4<|yr 58 8 8<|yo [(50,.lit 5),yz 111,yz 110,yz 109,yz 108,yz 106,(105,.add (.var 35) y1),(104,yv 39),(103,yv 38)]<|yr 101 36 4<|[(97,.lit 1),yz 96,yz 95,(94,.lit 5)],bv:=Tv})
        (.fin {lo:=50,ah:=1,iv:=yo [(93,yv 43)]<|yr 91 41 4<|yr 86 36 4<|yr 81 31 4<|yr 76 26 12<|yr 63 13 4<|yr 58 8 8<|[(50,.lit 6),yz 111,yz 110,yz 109,yz 108,yz 106,yz 105,yz 104,yz 103,yz 101,yz 100,yz 99,yz 98,(97,.lit 1),(96,yv 39),(95,yv 38),(94,.lit 3)],bv:=qX}))))
     (.br (.aA (.var 0) (.lit 6))
      (.ob (.inr .i64 (.add (.var 30) y1)) <|
       .fin {lo:=50,ah:=1,iv:=yo [(93,yv 47)]<|yr 91 41 4<|yr 86 36 4<|yr 81 31 4<|yr 76 26 12<|yr 63 13 4<|yr 58 8 8<|yo [(50,.lit 7),yz 111,yz 110,yz 109,yz 108,yz 106,(105,.add (.var 30) y1),(104,yv 39),(103,yv 38)]<|yr 101 31 4<|[yz 97,yz 96,yz 95,(94,.lit 5)],bv:=aaK})
      (.br (.aA (.var 0) (.lit 7))
       (.br (.var 49)
        (.fin {lo:=50,ah:=1,iv:=yo [(93,yv 43)]<|yr 91 41 4<|yr 86 36 4<|yr 81 31 4<|yr 76 26 12<|yr 63 13 4<|yr 58 8 8<|yo [(50,.lit 8),yz 111,yz 110,yz 109,yz 108,yz 106,yz 105,yz 104,yz 103]<|yr 101 31 4<|[yz 97,yz 96,yz 95,(94,.lit 10)],bv:=aaK})
        (.fin {lo:=50,ah:=1,iv:=Lc,bv:=qX}))
       (.br (.aA (.var 0) y0)
        (.fin {lo:=50,ah:=1,iv:=Lc,bv:=qX})
        (.br (.aA (.var 0) (.lit 5))
         (.fin {lo:=50,ah:=1,iv:=Lc,bv:=qX})
         (.br (.aA (.var 0) (.lit 8))
          (.fin {lo:=50,ah:=1,iv:=yo [(93,yv 43)]<|yr 91 41 4<|yr 86 36 4<|yr 81 31 4<|yr 76 26 8<|[(68,yv 43),(67,.lit 1),yz 66,yz 65,yz 63,yz 62,yz 61,yz 60,yz 58,yz 57,yz 56,yz 55,yz 54,yz 53,yz 52,(51,.lit 12),(50,.lit (-1)),(111,yv 43),(110,.lit 1),yz 109,yz 108,yz 106,yz 105,yz 104,yz 103,yz 101,yz 100,yz 99,yz 98,yz 97,yz 96,yz 95,(94,.lit 12)],bv:=La})
          (.fin {lo:=50,ah:=1,iv:=aaI,bv:=aaJ}))))))))))
theorem Wo:exec tab Wn 8000 [] (fE l5.f l5.nv [] l5.gl l5.hp l5.args)=EY:=by kernel_rfl
def uE (ρ:Env) (v:Nat):Op:=⟨ρ.iv v,ρ.iv (v+1),ρ.iv (v+2),ρ.iv (v+3)⟩
def kV (ρ:Env) (v:Nat):Jb:=⟨ρ.iv v,jr ρ (v+1),uE ρ (v+19),az ρ (v+23),az ρ (v+28),az ρ (v+33),az ρ (v+38),ρ.iv (v+43)⟩
def N7 (ρ:Env):Prop:=(kV ρ 0).tg
def vP (ρ:Env):Prop:=kV ρ 50=((kV ρ 0).next (aI ρ 44)).1∧jr ρ 94=((kV ρ 0).next (aI ρ 44)).2
theorem Wp (ρ:Env) (hpre:N7 ρ.num):Sat vP [] [] ρ EY:=by
 have hpre:(-1000000000000≤ρ.iv 30∧ρ.iv 30≤1000000000000)∧(-1000000000000≤ρ.iv 35∧ρ.iv 35≤1000000000000)∧(-1000000000000≤ρ.iv 40∧ρ.iv 40≤1000000000000):=hpre
 obtain ⟨⟨h1,h2⟩,⟨h3,h4⟩,h5,h6⟩:=hpre
 unfold EY
 have fin:∀{σ:Sub} (q:Jb × Ca),(kV ρ 0).next (aI ρ 44)=q→kV (σ.ag ρ) 0=kV ρ 0→aI (σ.ag ρ) 44=aI ρ 44→kV (σ.ag ρ) 50=q.1→jr (σ.ag ρ) 94=q.2→vP (σ.ag ρ):=by
  intro σ q hq e1 e2 e3 e4
  unfold vP
  rw [e1,e2,e3,e4,hq]
  exact ⟨rfl,rfl⟩
 refine Sat.br (fun a1=>?_) (fun a1=>?_)
 all_goals simp only [Da] at a1
 ·skip
  refine Sat.br (fun a2=>?_) (fun a2=>?_)
  all_goals simp only [Da] at a2
  ·skip
   exact Sat.fin (fin _ ((if_pos a1).trans (if_pos a2)) rfl rfl rfl rfl)
  ·skip
   refine Sat.br (fun a3=>?_) (fun a3=>?_)
   all_goals simp only [Da] at a3
   ·skip
    refine Sat.br (fun a4=>?_) (fun a4=>?_)
    all_goals simp only [Da] at a4
    ·skip
     exact Sat.fin (fin _ ((if_pos a1).trans ((if_neg a2).trans ((if_pos a3).trans (if_pos a4)))) rfl rfl rfl rfl)
    ·skip
     exact Sat.fin (fin _ ((if_pos a1).trans ((if_neg a2).trans ((if_pos a3).trans (if_neg (fun z:ρ.bv 49=_=>by rw [a4] at z;cases z))))) rfl rfl rfl rfl)
   ·skip
    refine Sat.br (fun a5=>?_) (fun a5=>?_)
    all_goals simp only [Da] at a5
    ·skip
     exact Sat.fin (fin _ ((if_pos a1).trans ((if_neg a2).trans ((if_neg a3).trans (if_pos a5)))) rfl rfl rfl rfl)
    ·skip
     refine Sat.br (fun a6=>?_) (fun a6=>?_)
     all_goals simp only [Da] at a6
     ·skip
      exact Sat.fin (fin _ ((if_pos a1).trans ((if_neg a2).trans ((if_neg a3).trans ((if_neg a5).trans (if_pos a6))))) rfl rfl rfl rfl)
     ·skip
      refine Sat.br (fun a7=>?_) (fun a7=>?_)
      all_goals simp only [Da] at a7
      ·skip
       refine Sat.br (fun a8=>?_) (fun a8=>?_)
       all_goals simp only [Da] at a8
       ·skip
        exact Sat.fin (fin _ ((if_pos a1).trans ((if_neg a2).trans ((if_neg a3).trans ((if_neg a5).trans ((if_neg a6).trans ((if_pos a7).trans (if_pos (fun z=>a8.elim (fun q=>q z.1) fun q=>q.elim (fun q=>q z.2.1) fun q=>q.elim (fun q=>q z.2.2.1) fun q=>q z.2.2.2)))))))) rfl rfl rfl rfl)
       ·skip
        refine Sat.br (fun a9=>?_) (fun a9=>?_)
        all_goals simp only [Da] at a9
        ·skip
         refine Sat.ob (by simp only [Da];omega) ?_
         exact Sat.fin (fin _ ((if_pos a1).trans ((if_neg a2).trans ((if_neg a3).trans ((if_neg a5).trans ((if_neg a6).trans ((if_pos a7).trans ((if_neg (fun z=>z a8)).trans (if_pos a9)))))))) rfl rfl rfl rfl)
        ·skip
         refine Sat.ob (by simp only [Da];omega) ?_
         exact Sat.fin (fin _ ((if_pos a1).trans ((if_neg a2).trans ((if_neg a3).trans ((if_neg a5).trans ((if_neg a6).trans ((if_pos a7).trans ((if_neg (fun z=>z a8)).trans (if_neg (fun z=>z a9))))))))) rfl rfl rfl rfl)
      ·skip
       refine Sat.br (fun DT=>?_) (fun DT=>?_)
       all_goals simp only [Da] at DT
       ·skip
        refine Sat.br (fun QC=>?_) (fun QC=>?_)
        all_goals simp only [Da] at QC
        ·skip
         refine Sat.ob (by simp only [Da];omega) ?_
         exact Sat.fin (fin _ ((if_pos a1).trans ((if_neg a2).trans ((if_neg a3).trans ((if_neg a5).trans ((if_neg a6).trans ((if_neg a7).trans ((if_pos DT).trans (if_pos QC)))))))) rfl rfl rfl rfl)
        ·skip
         exact Sat.fin (fin _ ((if_pos a1).trans ((if_neg a2).trans ((if_neg a3).trans ((if_neg a5).trans ((if_neg a6).trans ((if_neg a7).trans ((if_pos DT).trans (if_neg (fun z:ρ.bv 49=_=>by rw [QC] at z;cases z))))))))) rfl rfl rfl rfl)
       ·skip
        refine Sat.br (fun a12=>?_) (fun a12=>?_)
        all_goals simp only [Da] at a12
        ·skip
         exact Sat.fin (fin _ ((if_pos a1).trans ((if_neg a2).trans ((if_neg a3).trans ((if_neg a5).trans ((if_neg a6).trans ((if_neg a7).trans ((if_neg DT).trans (if_pos (.inl a12))))))))) rfl rfl rfl rfl)
        ·skip
         refine Sat.br (fun Wq=>?_) (fun Wq=>?_)
         all_goals simp only [Da] at Wq
         ·skip
          exact Sat.fin (fin _ ((if_pos a1).trans ((if_neg a2).trans ((if_neg a3).trans ((if_neg a5).trans ((if_neg a6).trans ((if_neg a7).trans ((if_neg DT).trans (if_pos (.inr Wq))))))))) rfl rfl rfl rfl)
         ·skip
          refine Sat.br (fun a14=>?_) (fun a14=>?_)
          all_goals simp only [Da] at a14
          ·skip
           exact Sat.fin (fin _ ((if_pos a1).trans ((if_neg a2).trans ((if_neg a3).trans ((if_neg a5).trans ((if_neg a6).trans ((if_neg a7).trans ((if_neg DT).trans ((if_neg (fun z=>z.elim a12 Wq)).trans (if_pos a14))))))))) rfl rfl rfl rfl)
          ·skip
           exact Sat.fin (fin _ ((if_pos a1).trans ((if_neg a2).trans ((if_neg a3).trans ((if_neg a5).trans ((if_neg a6).trans ((if_neg a7).trans ((if_neg DT).trans ((if_neg (fun z=>z.elim a12 Wq)).trans (if_neg a14))))))))) rfl rfl rfl rfl)
 ·skip
  refine Sat.br (fun rU=>?_) (fun rU=>?_)
  all_goals simp only [Da] at rU
  ·skip
   exact Sat.fin (fin _ ((if_neg a1).trans (if_pos rU)) rfl rfl rfl rfl)
  ·skip
   refine Sat.br (fun a16=>?_) (fun a16=>?_)
   all_goals simp only [Da] at a16
   ·skip
    exact Sat.fin (fin _ ((if_neg a1).trans ((if_neg rU).trans (if_pos a16))) rfl rfl rfl rfl)
   ·skip
    refine Sat.br (fun a17=>?_) (fun a17=>?_)
    all_goals simp only [Da] at a17
    ·skip
     exact Sat.fin (fin _ ((if_neg a1).trans ((if_neg rU).trans ((if_neg a16).trans (if_pos a17)))) rfl rfl rfl rfl)
    ·skip
     refine Sat.br (fun xG=>?_) (fun xG=>?_)
     all_goals simp only [Da] at xG
     ·skip
      refine Sat.br (fun QI=>?_) (fun QI=>?_)
      all_goals simp only [Da] at QI
      ·skip
       exact Sat.fin (fin _ ((if_neg a1).trans ((if_neg rU).trans ((if_neg a16).trans ((if_neg a17).trans ((if_pos xG).trans (if_pos (fun z=>QI.elim (fun q=>q z.1) fun q=>q.elim (fun q=>q z.2.1) fun q=>q.elim (fun q=>q z.2.2.1) fun q=>q z.2.2.2))))))) rfl rfl rfl rfl)
      ·skip
       refine Sat.br (fun a20=>?_) (fun a20=>?_)
       all_goals simp only [Da] at a20
       ·skip
        exact Sat.fin (fin _ ((if_neg a1).trans ((if_neg rU).trans ((if_neg a16).trans ((if_neg a17).trans ((if_pos xG).trans ((if_neg (fun z=>z QI)).trans (if_pos a20))))))) rfl rfl rfl rfl)
       ·skip
        refine Sat.br (fun a21=>?_) (fun a21=>?_)
        all_goals simp only [Da] at a21
        ·skip
         refine Sat.ob (by simp only [Da];omega) ?_
         exact Sat.fin (fin _ ((if_neg a1).trans ((if_neg rU).trans ((if_neg a16).trans ((if_neg a17).trans ((if_pos xG).trans ((if_neg (fun z=>z QI)).trans ((if_neg a20).trans (if_pos a21)))))))) rfl rfl rfl rfl)
        ·skip
         exact Sat.fin (fin _ ((if_neg a1).trans ((if_neg rU).trans ((if_neg a16).trans ((if_neg a17).trans ((if_pos xG).trans ((if_neg (fun z=>z QI)).trans ((if_neg a20).trans (if_neg a21)))))))) rfl rfl rfl rfl)
     ·skip
      refine Sat.br (fun a22=>?_) (fun a22=>?_)
      all_goals simp only [Da] at a22
      ·skip
       refine Sat.ob (by simp only [Da];omega) ?_
       exact Sat.fin (fin _ ((if_neg a1).trans ((if_neg rU).trans ((if_neg a16).trans ((if_neg a17).trans ((if_neg xG).trans (if_pos a22)))))) rfl rfl rfl rfl)
      ·skip
       refine Sat.br (fun a23=>?_) (fun a23=>?_)
       all_goals simp only [Da] at a23
       ·skip
        refine Sat.br (fun a24=>?_) (fun a24=>?_)
        all_goals simp only [Da] at a24
        ·skip
         exact Sat.fin (fin _ ((if_neg a1).trans ((if_neg rU).trans ((if_neg a16).trans ((if_neg a17).trans ((if_neg xG).trans ((if_neg a22).trans ((if_pos a23).trans (if_pos a24)))))))) rfl rfl rfl rfl)
        ·skip
         exact Sat.fin (fin _ ((if_neg a1).trans ((if_neg rU).trans ((if_neg a16).trans ((if_neg a17).trans ((if_neg xG).trans ((if_neg a22).trans ((if_pos a23).trans (if_neg (fun z:ρ.bv 49=_=>by rw [a24] at z;cases z))))))))) rfl rfl rfl rfl)
       ·skip
        refine Sat.br (fun a25=>?_) (fun a25=>?_)
        all_goals simp only [Da] at a25
        ·skip
         exact Sat.fin (fin _ ((if_neg a1).trans ((if_neg rU).trans ((if_neg a16).trans ((if_neg a17).trans ((if_neg xG).trans ((if_neg a22).trans ((if_neg a23).trans (if_pos (.inl a25))))))))) rfl rfl rfl rfl)
        ·skip
         refine Sat.br (fun a26=>?_) (fun a26=>?_)
         all_goals simp only [Da] at a26
         ·skip
          exact Sat.fin (fin _ ((if_neg a1).trans ((if_neg rU).trans ((if_neg a16).trans ((if_neg a17).trans ((if_neg xG).trans ((if_neg a22).trans ((if_neg a23).trans (if_pos (.inr a26))))))))) rfl rfl rfl rfl)
         ·skip
          refine Sat.br (fun a27=>?_) (fun a27=>?_)
          all_goals simp only [Da] at a27
          ·skip
           exact Sat.fin (fin _ ((if_neg a1).trans ((if_neg rU).trans ((if_neg a16).trans ((if_neg a17).trans ((if_neg xG).trans ((if_neg a22).trans ((if_neg a23).trans ((if_neg (fun z=>z.elim a25 a26)).trans (if_pos a27))))))))) rfl rfl rfl rfl)
          ·skip
           exact Sat.fin (fin _ ((if_neg a1).trans ((if_neg rU).trans ((if_neg a16).trans ((if_neg a17).trans ((if_neg xG).trans ((if_neg a22).trans ((if_neg a23).trans ((if_neg (fun z=>z.elim a25 a26)).trans (if_neg a27))))))))) rfl rfl rfl rfl)
theorem Ws:bg Tryz.prog l5 N7 vP :=
 dA dO (E:=Wn) (cs:=[]) rfl (fun k pre post h=>by cases h) bX rfl Wo (by kernel_rfl) (fun ρ _ p hp=>by cases hp) Wp
end Go.Proofs.YthomdlajobnmnaaGreatDoor.Cq
namespace Go.Proofs.YthomdlajobnmnaaGreatDoor.Cq
open Go.Rex
def Kq (ρ:Env):Prop:=(uE ρ 0).bT
def p9 (ρ:Env):Prop:=kV ρ 4=Jb.new (uE ρ 0)
noncomputable def Dl:Ex:={sched:=sched,loops:=[],cons:=[],fin:=fO}
def Zg:Kn:=[(.aA (.var 0) (.lit 4),true),(.aA (.var 1) (.lit 0),true),(.aA (.var 3) (.lit 0),true),(.ai (.lit 0) (.var 2),true),(.ai (.var 2) (.lit 1073741824),true)]
abbrev aaM:List (Nat × IE):=yo [yz 47,yz 45,yz 44,yz 43,yz 42,yz 40,yz 39,yz 38,yz 37,yz 35,yz 34,yz 33,yz 32,yz 30,yz 29,yz 28,yz 27]<|yr 26 3 4<|[yz 22,yz 21,yz 20,yz 19,yz 17,yz 16,yz 15,yz 14,yz 12,yz 11,yz 10,yz 9,yz 8,yz 7,yz 6,yz 5,yz 4]
abbrev aaN:List (Nat × BE):=[(46,.lit false),(41,.lit false),(36,.lit false),(31,.lit false),(18,.lit false),(13,.lit false)]
def Tx:Out :=
 .fin {lo:=4,ah:=0,iv:=aaM,bv:=aaN,bk:=[(0,yb 1)]}
theorem Pf:exec tab Dl 8000 [] (fE fO.f fO.nv Zg fO.gl fO.hp fO.args)=Tx:=by kernel_rfl
def Ty (ρ:Env):Prop:=ρ.iv 0=4∧ρ.iv 1=0∧ρ.iv 3=0∧0≤ρ.iv 2∧ρ.iv 2≤1073741824
theorem Pg:bg Tryz.prog fO Ty p9 :=
 dA dO (E:=Dl) (cs:=[]) rfl (fun k pre post h=>by cases h) bX rfl Pf (by kernel_rfl) (fun ρ h p hp=>by
   obtain ⟨f0,f1,f2,f3,f4⟩:=h
   simp only [Zg,List.mem_cons,List.not_mem_nil,or_false] at hp
   rcases hp with rfl | rfl | rfl | rfl | rfl
   · exact beq_iff_eq.2 f0
   · exact beq_iff_eq.2 f1
   · exact beq_iff_eq.2 f2
   · exact decide_eq_true f3
   · exact decide_eq_true f4
   ) fun ρ h=>Sat.fin (show p9 _ from rfl)
def Zh:Kn:=[(.aA (.var 0) (.lit 4),false),(.aA (.var 0) (.lit 5),true),(.aA (.var 1) (.lit 0),true),(.aA (.var 2) (.lit 0),true),(.aA (.var 3) (.lit 0),true)]
def Tz:Out :=
 .fin {lo:=4,ah:=0,iv:=aaM,bv:=aaN,bk:=[(0,yb 1)]}
theorem Ph:exec tab Dl 8000 [] (fE fO.f fO.nv Zh fO.gl fO.hp fO.args)=Tz:=by kernel_rfl
def TA (ρ:Env):Prop:=¬ρ.iv 0=4∧ρ.iv 0=5∧ρ.iv 1=0∧ρ.iv 2=0∧ρ.iv 3=0
theorem Pj:bg Tryz.prog fO TA p9 :=
 dA dO (E:=Dl) (cs:=[]) rfl (fun k pre post h=>by cases h) bX rfl Ph (by kernel_rfl) (fun ρ h p hp=>by
   obtain ⟨f0,f1,f2,f3,f4⟩:=h
   simp only [Zh,List.mem_cons,List.not_mem_nil,or_false] at hp
   rcases hp with rfl | rfl | rfl | rfl | rfl
   · exact beq_eq_false_iff_ne.2 f0
   · exact beq_iff_eq.2 f1
   · exact beq_iff_eq.2 f2
   · exact beq_iff_eq.2 f3
   · exact beq_iff_eq.2 f4
   ) fun ρ h=>Sat.fin (show p9 _ from rfl)
theorem ab7 {P:Program} {k:dQ} {pre NG NH post:Env→Prop} (h1:bg P k NG post) (h2:bg P k NH post) (hp:∀ρ,pre ρ→NG ρ∨NH ρ):bg P k pre post :=
 ⟨h1.fn,fun ρ ν w a b c=>(hp _ c).elim (h1.run ρ ν w a b) (h2.run ρ ν w a b)⟩
theorem TB:bg Tryz.prog fO Kq p9 :=
 ab7 Pg Pj fun ρ h=>by
  unfold Kq Op.bT at h
  by_cases h1:ρ.iv 0=4
  ·rw [if_pos (show (uE ρ 0).kind=4 from h1)] at h
   obtain ⟨a,b,c,d⟩:=h
   exact .inl ⟨h1,a,b,c,d⟩
  ·rw [if_neg (show ¬(uE ρ 0).kind=4 from h1)] at h
   obtain ⟨a,b,c,d⟩:=h
   exact .inr ⟨h1,a,b,c,d⟩
end Go.Proofs.YthomdlajobnmnaaGreatDoor.Cq
namespace Go.Proofs.YthomdlajobnmnaaGreatDoor.Cq
open Go.RowKit Go.Rex
def lK:List SB:=[QH 0]
theorem Ha:nY lK=true:=by kernel_rfl
structure jU (w:World) (a:Addr) (j:Jb) (B:Nat→Prop):Prop where
 ex:∃ρ ν,ν 0=a∧aH ρ ν lK w∧kV ρ 0=j∧∀b,il ρ ν lK b→B b
section
variable {w w':World} {a:Addr} {j:Jb} {B B':Nat→Prop}
theorem jU.frame (h:jU w a j B) (hk:∀b,B b→w'.heap[b]?=w.heap[b]?):jU w' a j B:=by
 obtain ⟨ρ,ν,h1,h2,h3,h5⟩:=h.ex
 exact ⟨ρ,ν,h1,h2.BZ Ha fun b hb=>hk b (h5 b hb),h3,h5⟩
theorem jU.mono (h:jU w a j B) (hk:∀b,B b→b<w.heap.size→B' b):jU w a j B':=by
 obtain ⟨ρ,ν,h1,h2,h3,h5⟩:=h.ex
 exact ⟨ρ,ν,h1,h2,h3,fun b hb=>hk b (h5 b hb) (oF h2 hb)⟩
end
def aaO (o:Op):Value:=.agg #[.int .i64 o.kind,.int .i64 o.key,.int .i64 o.val,.int .i64 o.wh]
def aaP (o:Op):Env:=EX (fun i=>([o.kind,o.key,o.val,o.wh]:List Int).getD i 0) fun _=>false
theorem Zi {w:World} {o:Op} (h:o.bT) :
  Calls Tryz.prog 47 #[aaO o] w fun ev w'=>∃a B,ev=.returned (.tuple #[.pointer (some a),.nilIface])∧jU w' a (Jb.new o) B∧(∀b,B b→w.heap.size≤b)∧Nw w w':=by
 have hrun:=TB.run (aaP o) (fun _=>⟨0,0,none⟩) w G8 ⟨fun g k _ h=>(by cases h),fun g g' k k' _ _ h=>(by cases h)⟩ h
 refine Calls.mono hrun ?_
 rintro e w' ⟨ρ,ν,hA,rfl,iw,hwr,how,q1⟩
 have hn:∀b,¬jm (aaP o) (fun _=>(⟨0,0,none⟩:Addr)) fO.hp b:=fun b ⟨k,sb,hk,_⟩=>by
  have hk:([]:List SB)[k]?=some sb:=hk
  simp at hk
 have e0:uE ρ 0=o:=by
  unfold uE
  rw [hA.iv 0 (by decide),hA.iv 1 (by decide),hA.iv 2 (by decide),hA.iv 3 (by decide)]
  rfl
 have sub:(List.range lK.length).map (fun j=>fO.hp'[id j]?)=lK.map fun sb=>some (sb.aU (·+4) id):=by kernel_rfl
 replace q1:kV ρ 4=Jb.new (uE ρ 0):=q1
 rw [e0] at q1
 refine ⟨ν 0,_,rfl,⟨ρ.pull (·+4),fun k=>ν (id k),rfl,iw.sub sub fun i j _ _ h=>h,q1,fun _ h=>h⟩,fun b hb=>((how.sub sub).aC Ha hb).elim id fun h=>absurd h (hn b),hwr.os,hwr.tape,hwr.output,hwr.size,fun k hk _=>hwr.block k hk (hn k)⟩
theorem ab8 {w:World} {a:Addr} {j:Jb} {B:Nat→Prop} {x:Rp} (h:jU w a j B) (ht:j.tg) :
  Calls Tryz.prog 48 #[.pointer (some a),jl x] w fun ev w'=>ev=.returned (qW (j.next x).2)∧∃B',jU w' a (j.next x).1 B'∧(∀b,B' b→w.heap.size≤b∨B b)∧bA w B w':=by
 obtain ⟨ρ,ν,rfl,hh0,rfl,hB⟩:=h.ex
 have hA:dF 44 1 ρ (ρ.cat 44 (K9 x)) ν ν:=⟨fun _ h=>if_pos h,fun _ h=>if_pos h,fun _ h=>if_pos h,fun _ h=>if_pos h,fun _ h=>if_pos h,fun _ h=>if_pos h,fun _ _=>rfl⟩
 obtain ⟨q,hq⟩:∃q,q=ρ.cat 44 (K9 x):=⟨_,rfl⟩
 rw [←hq] at hA
 have hh:aH q ν lK w:=hh0.ext hA (by kernel_rfl) (by decide)
 have e1:kV q 0=kV ρ 0:=by rw [hq];rfl
 have e2:aI q 44=x:=by rw [hq];rfl
 rw [←e1] at ht
 have hrun:=Ws.run q ν w hh ⟨fun g k _ h=>(by cases h),fun g g' k k' _ _ h=>(by cases h)⟩ ht
 have hargs:(l5.args.map (·.den q ν)).toArray=#[.pointer (some (ν 0)),jl x]:=by
  rw [hq]
  rfl
 rw [hargs] at hrun
 refine Calls.mono hrun ?_
 rintro ev w' ⟨ρ',aK,hA',rfl,iw,hwr,how,q1,q2⟩
 have e0:kV ρ' 0=kV q 0:=by
  unfold kV jr uE az
  simp (disch:=decide) only [hA'.iv,hA'.bv]
 have e3:aI ρ' 44=aI q 44:=by
  unfold aI az
  simp (disch:=decide) only [hA'.iv,hA'.bv]
 replace q1:kV ρ' 50=((kV ρ' 0).next (aI ρ' 44)).1:=q1
 replace q2:jr ρ' 94=((kV ρ' 0).next (aI ρ' 44)).2:=q2
 rw [e0,e3,e1,e2] at q1 q2
 have sub:(List.range lK.length).map (fun j=>l5.hp'[id j]?)=lK.map fun sb=>some (sb.aU (·+50) id):=by kernel_rfl
 have mr:∀x,jm q ν lK x→B x:=fun x h=>hB x ((rH hA (by kernel_rfl) (by decide)).1 (ni h))
 refine ⟨?_,_,⟨ρ'.pull (·+50),fun k=>aK (id k),?_,iw.sub sub (fun i j _ _ h=>h),q1,fun _ h=>h⟩,fun b hb=>((how.sub sub).aC Ha hb).imp id (mr b),hwr.os,hwr.tape,hwr.output,hwr.size,fun b hb hn=>hwr.block b hb fun h=>hn (mr b h)⟩
 ·rw [←q2]
  rfl
 ·show aK 0=ν 0
  exact hA'.bl 0 (by decide)
end Go.Proofs.YthomdlajobnmnaaGreatDoor.Cq
namespace Go.Proofs.YthomdlajobnmnaaGreatDoor.Cq
open Go.RowKit Go.Rex
structure lZ (w:World) (A:Nat) (l:List Op):Prop where
 ex:∀(i:Nat) (o:Op),l[i]?=some o→w.cell? ⟨A,4 * i,none⟩=some (.int .i64 o.kind)∧w.cell? ⟨A,4 * i+1,none⟩=some (.int .i64 o.key)∧w.cell? ⟨A,4 * i+2,none⟩=some (.int .i64 o.val)∧w.cell? ⟨A,4 * i+3,none⟩=some (.int .i64 o.wh)
def wF (w:World) (v:Value) (j:Option Jb) (B:Nat→Prop):Prop :=
 match j with
 | none=>v=.pointer none
 | some x=>∃a,v=.pointer (some a)∧jU w a x B
def jP (l:List (Int × Int)):List Value:=l.flatMap fun x=>[.int .i64 x.1,.int .i64 x.2]
structure aQ (w:World) (b base A:Nat) (k:Wk) (B:Nat→Prop):Prop where
 ex:∃(aR:Nat) (jv sv:Value) (c:Nat) (BR BJ:Nat→Prop),
  w.heap[b]?=some (.cells #[.pointer (some ⟨aR,0,none⟩),.slice (some ⟨A,0,none⟩) k.ops.length c,jv,.bool k.aV,sv] 62 (0,0)) ∧
  lI w ⟨aR,0,none⟩ k.r BR∧wF w jv k.j BJ∧lZ w A k.ops∧w.ownsRow base 39 2 sv k.said.length (jP k.said) ∧
  (¬BR b∧¬BJ b∧∀x,BR x→¬BJ x)∧(sv.ownBlock≠some b∧∀x,BR x∨BJ x→sv.ownBlock≠some x) ∧
  (A≠b∧¬BR A∧¬BJ A∧sv.ownBlock≠some A∧A<w.heap.size)∧∀x,x=b∨BR x∨BJ x∨sv.ownBlock=some x→B x
section
variable {w w':World} {b base A:Nat} {k:Wk} {B:Nat→Prop}
theorem aQ.cells (h:aQ w b base A k B):∃(aR:Nat) (jv sv:Value) (c:Nat),w.cell? ⟨b,0,none⟩=some (.pointer (some ⟨aR,0,none⟩))∧w.cell? ⟨b,1,none⟩=some (.slice (some ⟨A,0,none⟩) k.ops.length c)∧w.cell? ⟨b,2,none⟩=some jv∧w.cell? ⟨b,3,none⟩=some (.bool k.aV)∧w.cell? ⟨b,4,none⟩=some sv∧∀i,w.frozen? ⟨b,i,none⟩=false:=by
 obtain ⟨aR,jv,sv,c,BR,BJ,h1,-⟩:=h.ex
 refine ⟨aR,jv,sv,c,?_,?_,?_,?_,?_,fun i=>?_⟩
 all_goals
  first
   | unfold World.cell?
   | unfold World.frozen?
  rw [h1]
  first
   | rfl
   | simp
theorem lZ.frame {l:List Op} (h:lZ w A l) (hk:w'.heap[A]?=w.heap[A]?):lZ w' A l:=⟨fun i o hi=>by
  have:=h.ex i o hi
  unfold World.cell? at *
  rw [hk]
  exact this⟩
theorem wF.frame {v:Value} {j:Option Jb} {BJ:Nat→Prop} (h:wF w v j BJ) (hk:∀x,x<w.heap.size→BJ x→w'.heap[x]?=w.heap[x]?):wF w' v j BJ:=by
 cases j with
 | none=>exact h
 | some x =>
  obtain ⟨a,e,hJ⟩:=h
  have:=(hJ.mono (B':=fun x=>BJ x∧x<w.heap.size) fun b p q=>⟨p,q⟩).frame fun b hb=>hk b hb.2 hb.1
  exact ⟨a,e,this.mono fun b p _=>p.1⟩
theorem fe {v:Value} {n:Nat} {e:TypeId} {size:Nat} {xs:List Value} (h:w.ownsRow base e size v n xs) (hk:∀x,x<w.heap.size→v.ownBlock=some x→w'.heap[x]?=w.heap[x]?):w'.ownsRow base e size v n xs:=by
 obtain ⟨h1,h2 | ⟨g,cap,cur,h2,h3,h4,h5⟩⟩:=h
 ·exact ⟨h1,.inl h2⟩
 ·refine ⟨h1,.inr ⟨g,cap,cur,h2,h3,?_,h5⟩⟩
  rw [hk g ?_ (by rw [h2];rfl)]
  ·exact h4
  ·rcases Nat.lt_or_ge g w.heap.size with h | h
   ·exact h
   ·rw [Array.getElem?_eq_none h] at h4;cases h4
theorem xE {v:Value} {n:Nat} {e:TypeId} {size:Nat} {xs:List Value} {x:Nat} (h:w.ownsRow base e size v n xs) (hx:v.ownBlock=some x):x<w.heap.size:=by
 obtain ⟨h1,⟨rfl,-⟩ | ⟨g,cap,cur,rfl,h3,h4,h5⟩⟩:=h
 ·cases hx
 ·obtain rfl:g=x:=Option.some.inj hx
  rcases Nat.lt_or_ge g w.heap.size with h | h
  ·exact h
  ·rw [Array.getElem?_eq_none h] at h4;cases h4
theorem aQ.rt (h:aQ w b base A k B):∃(aR:Nat) (BR:Nat→Prop),w.cell? ⟨b,0,none⟩=some (.pointer (some ⟨aR,0,none⟩))∧lI w ⟨aR,0,none⟩ k.r BR∧(∀x,BR x→(B x∧x<w.heap.size)∧x≠b) ∧
  ∀w' r' BR',lI w' ⟨aR,0,none⟩ r' BR'→(∀x,BR' x→w.heap.size≤x∨BR x)→bA w BR w'→aQ w' b base A {k with r:=r'} fun x=>B x∨w.heap.size≤x:=by
 obtain ⟨aR,jv,sv,c,BR,BJ,h1,h2,h3,h4,h5,⟨d1,d2,d3⟩,⟨e1,e2⟩,⟨f1,f2,f3,f4,f5⟩,hB⟩:=h.ex
 have hb:b<w.heap.size:=by
  rcases Nat.lt_or_ge b w.heap.size with h | h
  ·exact h
  ·rw [Array.getElem?_eq_none h] at h1;cases h1
 refine ⟨aR,fun x=>BR x∧x<w.heap.size,by unfold World.cell?;rw [h1];rfl,h2.mono fun x p q=>⟨p,q⟩,fun x hx=>⟨⟨hB x (.inr (.inl hx.1)),hx.2⟩,fun e=>d1 (e ▸ hx.1)⟩,fun w' r' BR' g1 g2 g3=>⟨aR,jv,sv,c,BR',fun x=>BJ x∧x<w.heap.size,?_,g1,?_,?_,?_,⟨?_,?_,?_⟩,⟨e1,?_⟩,⟨f1,?_,?_,f4,?_⟩,?_⟩⟩
 ·rw [g3.block b hb fun x=>d1 x.1];exact h1
 ·have:=h3.frame (w':=w') fun x hx hJ=>g3.block x hx fun y=>d3 x y.1 hJ
  cases hj:k.j with
  | none=>rw [hj] at this;exact this
  | some x =>
   rw [hj] at this h3
   obtain ⟨a,e,hJ⟩:=h3
   have hJ':=(hJ.mono (B':=fun x=>BJ x∧x<w.heap.size) fun b p q=>⟨p,q⟩).frame (w':=w') fun b hb=>g3.block b hb.2 fun y=>d3 b y.1 hb.1
   exact ⟨a,e,hJ'⟩
 ·exact h4.frame (g3.block A f5 fun x=>f2 x.1)
 ·exact fe h5 fun x hx ho=>g3.block x hx fun y=>e2 x (.inl y.1) ho
 ·exact fun x=>(g2 b x).elim (fun y=>absurd hb (Nat.not_lt.2 y)) fun y=>d1 y.1
 ·exact fun x=>d2 x.1
 ·exact fun x hx hJ=>(g2 x hx).elim (fun y=>absurd hJ.2 (Nat.not_lt.2 y)) fun y=>d3 x y.1 hJ.1
 ·rintro x (hx | hx) ho
  ·exact (g2 x hx).elim (fun y=>absurd (xE h5 ho) (Nat.not_lt.2 y)) fun y=>e2 x (.inl y.1) ho
  ·exact e2 x (.inr hx.1) ho
 ·exact fun x=>(g2 A x).elim (fun y=>absurd f5 (Nat.not_lt.2 y)) fun y=>f2 y.1
 ·exact fun x=>f3 x.1
 ·exact Nat.lt_of_lt_of_le f5 g3.size
 ·rintro x (hx | hx | hx | hx)
  ·exact .inl (hB x (.inl hx))
  ·exact (g2 x hx).elim .inr fun y=>.inl (hB x (.inr (.inl y.1)))
  ·exact .inl (hB x (.inr (.inr (.inl hx.1))))
  ·exact .inl (hB x (.inr (.inr (.inr hx))))
theorem aQ.put (h:aQ w b base A k B) (i:Nat) (x:Value) (j:Option Jb) (aV:Bool) (hj:i=2→j=none∧x=.pointer none) (hi:i=3→x=.bool aV) (hj':i≠2→j=k.j) (hi':i≠3→aV=k.aV) (h23:i=2∨i=3) :
  (w.frozen? ⟨b,i,none⟩=false)∧aQ (w.setCell ⟨b,i,none⟩ x) b base A {k with j:=j,aV:=aV} B:=by
 obtain ⟨aR,jv,sv,c,BR,BJ,h1,h2,h3,h4,h5,⟨d1,d2,d3⟩,⟨e1,e2⟩,⟨f1,f2,f3,f4,f5⟩,hB⟩:=h.ex
 have hother:∀y,y≠b→(w.setCell ⟨b,i,none⟩ x).heap[y]?=w.heap[y]?:=fun y hy=>heap_setCell_other w ⟨b,i,none⟩ y _ hy
 have hsame:=heap_setCell_same w b i _ _ x h1
 have hsz:(w.setCell ⟨b,i,none⟩ x).heap.size=w.heap.size:=by simp [World.setCell]
 have hR:=h2.frame (w':=w.setCell ⟨b,i,none⟩ x) fun y hy=>hother y fun e=>d1 (e ▸ hy)
 have hO:=h4.frame (w':=w.setCell ⟨b,i,none⟩ x) (hother A f1)
 have hS:=fe (w':=w.setCell ⟨b,i,none⟩ x) h5 fun y _ ho=>hother y fun e=>e1 (e ▸ ho)
 refine ⟨by unfold World.frozen?;rw [h1];rfl,?_⟩
 rcases h23 with rfl | rfl
 ·obtain ⟨rfl,rfl⟩:=hj rfl
  obtain rfl:=hi' (by decide)
  exact ⟨aR,.pointer none,sv,c,BR,BJ,hsame,hR,rfl,hO,hS,⟨d1,d2,d3⟩,⟨e1,e2⟩,⟨f1,f2,f3,f4,by rw [hsz];exact f5⟩,hB⟩
 ·obtain rfl:=hi rfl
  obtain rfl:=hj' (by decide)
  exact ⟨aR,jv,sv,c,BR,BJ,hsame,hR,h3.frame fun y _ hy=>hother y fun e=>d2 (e ▸ hy),hO,hS,⟨d1,d2,d3⟩,⟨e1,e2⟩,⟨f1,f2,f3,f4,by rw [hsz];exact f5⟩,hB⟩
theorem aQ.Zj (h:aQ w b base A k B) (hn:Nw w w') {aJ:Addr} {j:Jb} {Kr:Nat→Prop} (hJ:jU w' aJ j Kr) (hf:∀x,Kr x→w.heap.size≤x) :
  w'.frozen? ⟨b,2,none⟩=false∧aQ (w'.setCell ⟨b,2,none⟩ (.pointer (some aJ))) b base A {k with j:=some j} fun x=>B x∨w.heap.size≤x:=by
 obtain ⟨aR,jv,sv,c,BR,BJ,h1,h2,h3,h4,h5,⟨d1,d2,d3⟩,⟨e1,e2⟩,⟨f1,f2,f3,f4,f5⟩,hB⟩:=h.ex
 have hb:b<w.heap.size:=by
  rcases Nat.lt_or_ge b w.heap.size with h | h
  ·exact h
  ·rw [Array.getElem?_eq_none h] at h1;cases h1
 have h1':w'.heap[b]?=_:=(hn.block b hb id).trans h1
 have hother:∀y,y≠b→(w'.setCell ⟨b,2,none⟩ (.pointer (some aJ))).heap[y]?=w'.heap[y]?:=fun y hy=>heap_setCell_other w' ⟨b,2,none⟩ y _ hy
 have hsame:=heap_setCell_same w' b 2 _ _ (.pointer (some aJ)) h1'
 have hsz:(w'.setCell ⟨b,2,none⟩ (.pointer (some aJ))).heap.size=w'.heap.size:=by simp [World.setCell]
 have hR:=((h2.mono (B':=fun x=>BR x∧x<w.heap.size) fun x p q=>⟨p,q⟩).frame (w':=w') fun y hy=>hn.block y hy.2 id).frame (w':=w'.setCell ⟨b,2,none⟩ (.pointer (some aJ))) fun y hy=>hother y fun e=>d1 (e ▸ hy.1)
 have hO:=(h4.frame (w':=w') (hn.block A f5 id)).frame (w':=w'.setCell ⟨b,2,none⟩ (.pointer (some aJ))) (hother A f1)
 have hS:=fe (w':=w'.setCell ⟨b,2,none⟩ (.pointer (some aJ))) (fe (w':=w') h5 fun y hy ho=>hn.block y hy id) fun y _ ho=>hother y fun e=>e1 (e ▸ ho)
 have hJ':=hJ.frame (w':=w'.setCell ⟨b,2,none⟩ (.pointer (some aJ))) fun y hy=>hother y fun e=>absurd (hf y hy) (Nat.not_le.2 (e ▸ hb))
 refine ⟨by unfold World.frozen?;rw [h1'];rfl,aR,.pointer (some aJ),sv,c,fun x=>BR x∧x<w.heap.size,Kr,hsame,hR,⟨aJ,rfl,hJ'⟩,hO,hS,⟨fun x=>d1 x.1,fun x=>absurd (hf b x) (Nat.not_le.2 hb),fun x hx y=>absurd (hf x y) (Nat.not_le.2 hx.2)⟩,⟨e1,?_⟩,⟨f1,fun x=>f2 x.1,fun x=>absurd (hf A x) (Nat.not_le.2 f5),f4,by rw [hsz];exact Nat.lt_of_lt_of_le f5 hn.size⟩,?_⟩
 ·rintro x (hx | hx) ho
  ·exact e2 x (.inl hx.1) ho
  ·exact absurd (xE h5 ho) (Nat.not_lt.2 (hf x hx))
 ·rintro x (hx | hx | hx | hx)
  ·exact .inl (hB x (.inl hx))
  ·exact .inl (hB x (.inr (.inl hx.1)))
  ·exact .inr (hf x hx)
  ·exact .inl (hB x (.inr (.inr (.inr hx))))
theorem aQ.jb (h:aQ w b base A k B) {j:Jb} (hj:k.j=some j):∃(aJ:Addr) (BJ:Nat→Prop),w.cell? ⟨b,2,none⟩=some (.pointer (some aJ))∧jU w aJ j BJ∧(∀x,BJ x→(B x∧x<w.heap.size)∧x≠b) ∧
  ∀w' j' Kr,jU w' aJ j' Kr→(∀x,Kr x→w.heap.size≤x∨BJ x)→bA w BJ w'→aQ w' b base A {k with j:=some j'} fun x=>B x∨w.heap.size≤x:=by
 obtain ⟨aR,jv,sv,c,BR,BJ,h1,h2,h3,h4,h5,⟨d1,d2,d3⟩,⟨e1,e2⟩,⟨f1,f2,f3,f4,f5⟩,hB⟩:=h.ex
 have hb:b<w.heap.size:=by
  rcases Nat.lt_or_ge b w.heap.size with h | h
  ·exact h
  ·rw [Array.getElem?_eq_none h] at h1;cases h1
 rw [hj] at h3
 obtain ⟨aJ,rfl,hJ⟩:=h3
 refine ⟨aJ,fun x=>BJ x∧x<w.heap.size,by unfold World.cell?;rw [h1];rfl,hJ.mono fun x p q=>⟨p,q⟩,fun x hx=>⟨⟨hB x (.inr (.inr (.inl hx.1))),hx.2⟩,fun e=>d2 (e ▸ hx.1)⟩,fun w' j' Kr g1 g2 g3=>⟨aR,_,sv,c,fun x=>BR x∧x<w.heap.size,Kr,?_,?_,⟨aJ,rfl,g1⟩,?_,?_,⟨?_,?_,?_⟩,⟨e1,?_⟩,⟨f1,?_,?_,f4,?_⟩,?_⟩⟩
 ·rw [g3.block b hb fun x=>d2 x.1];exact h1
 ·exact (h2.mono (B':=fun x=>BR x∧x<w.heap.size) fun x p q=>⟨p,q⟩).frame fun y hy=>g3.block y hy.2 fun z=>d3 y hy.1 z.1
 ·exact h4.frame (g3.block A f5 fun x=>f3 x.1)
 ·exact fe h5 fun x hx ho=>g3.block x hx fun y=>e2 x (.inr y.1) ho
 ·exact fun x=>d1 x.1
 ·exact fun x=>(g2 b x).elim (fun y=>absurd hb (Nat.not_lt.2 y)) fun y=>d2 y.1
 ·exact fun x hx hJ=>(g2 x hJ).elim (fun y=>absurd hx.2 (Nat.not_lt.2 y)) fun y=>d3 x hx.1 y.1
 ·rintro x (hx | hx) ho
  ·exact e2 x (.inl hx.1) ho
  ·exact (g2 x hx).elim (fun y=>absurd (xE h5 ho) (Nat.not_lt.2 y)) fun y=>e2 x (.inr y.1) ho
 ·exact fun x=>f2 x.1
 ·exact fun x=>(g2 A x).elim (fun y=>absurd f5 (Nat.not_lt.2 y)) fun y=>f3 y.1
 ·exact Nat.lt_of_lt_of_le f5 g3.size
 ·rintro x (hx | hx | hx | hx)
  ·exact .inl (hB x (.inl hx))
  ·exact .inl (hB x (.inr (.inl hx.1)))
  ·exact (g2 x hx).elim .inr fun y=>.inl (hB x (.inr (.inr (.inl y.1))))
  ·exact .inl (hB x (.inr (.inr (.inr hx))))
end
end Go.Proofs.YthomdlajobnmnaaGreatDoor.Cq
namespace Go.Proofs.YthomdlajobnmnaaGreatDoor.Cq
open Go.RowKit Go.Rex
section
variable {w w':World} {b base A:Nat} {k:Wk} {B:Nat→Prop}
theorem aQ.N8 (h:aQ w b base A k B):∃sv:Value,w.cell? ⟨b,4,none⟩=some sv∧w.ownsRow base 39 2 sv k.said.length (jP k.said) ∧
  ∀w1 w2 v' (x:Int × Int),Nw w w1→w1.grownBy w2 sv.ownBlock→w2.ownsRow base 39 2 v' (k.said.length+1) (jP k.said ++ [.int .i64 x.1,.int .i64 x.2])→(v'.ownBlock=sv.ownBlock∨v'.ownBlock=some w1.heap.size) →
   w2.frozen? ⟨b,4,none⟩=false∧w2.cell? ⟨b,4,none⟩=some sv∧aQ (w2.setCell ⟨b,4,none⟩ v') b base A {k with said:=k.said ++ [x]} fun y=>B y∨w.heap.size≤y:=by
 obtain ⟨aR,jv,sv,c,BR,BJ,h1,h2,h3,h4,h5,⟨d1,d2,d3⟩,⟨e1,e2⟩,⟨f1,f2,f3,f4,f5⟩,hB⟩:=h.ex
 have hb:b<w.heap.size:=by
  rcases Nat.lt_or_ge b w.heap.size with h | h
  ·exact h
  ·rw [Array.getElem?_eq_none h] at h1;cases h1
 refine ⟨sv,by unfold World.cell?;rw [h1];rfl,h5,fun w1 w2 v' x hn hg ho hv=>?_⟩
 have old:∀y,y<w.heap.size→sv.ownBlock≠some y→w2.heap[y]?=w.heap[y]?:=fun y hy hne=>(hg.block y (Nat.lt_of_lt_of_le hy hn.size) fun e=>hne e.symm).trans (hn.block y hy id)
 have h1':w2.heap[b]?=_:=(old b hb e1).trans h1
 have hother:∀y,y≠b→(w2.setCell ⟨b,4,none⟩ v').heap[y]?=w2.heap[y]?:=fun y hy=>heap_setCell_other w2 ⟨b,4,none⟩ y _ hy
 have hsame:=heap_setCell_same w2 b 4 _ _ v' h1'
 have hsz:(w2.setCell ⟨b,4,none⟩ v').heap.size=w2.heap.size:=by simp [World.setCell]
 have hv':∀y,v'.ownBlock=some y→sv.ownBlock=some y∨w.heap.size≤y:=fun y hy=>by
  rcases hv with e | e
  ·exact .inl (e ▸ hy)
  ·rw [e] at hy
   cases hy
   exact .inr hn.size
 have hvb:v'.ownBlock≠some b:=fun e=>(hv' b e).elim e1 fun y=>absurd hb (Nat.not_lt.2 y)
 have hR:=((h2.mono (B':=fun x=>BR x∧x<w.heap.size) fun x p q=>⟨p,q⟩).frame (w':=w2) fun y hy=>old y hy.2 (e2 y (.inl hy.1))).frame (w':=w2.setCell ⟨b,4,none⟩ v') fun y hy=>hother y fun e=>d1 (e ▸ hy.1)
 have hO:=(h4.frame (w':=w2) (old A f5 f4)).frame (w':=w2.setCell ⟨b,4,none⟩ v') (hother A f1)
 have hS:=fe (w':=w2.setCell ⟨b,4,none⟩ v') ho fun y _ hy=>hother y fun e=>hvb (e ▸ hy)
 have hJ:wF (w2.setCell ⟨b,4,none⟩ v') jv k.j fun x=>BJ x∧x<w.heap.size:=by
  cases hj:k.j with
  | none=>rw [hj] at h3;exact h3
  | some z =>
   rw [hj] at h3
   obtain ⟨a,e,hJ⟩:=h3
   exact ⟨a,e,((hJ.mono (B':=fun x=>BJ x∧x<w.heap.size) fun x p q=>⟨p,q⟩).frame (w':=w2) fun y hy=>old y hy.2 (e2 y (.inr hy.1))).frame fun y hy=>hother y fun e=>d2 (e ▸ hy.1)⟩
 have hlen:jP (k.said ++ [x])=jP k.said ++ [.int .i64 x.1,.int .i64 x.2]:=by simp [jP]
 refine ⟨by unfold World.frozen?;rw [h1'];rfl,by unfold World.cell?;rw [h1'];rfl,aR,jv,v',c,fun x=>BR x∧x<w.heap.size,fun x=>BJ x∧x<w.heap.size,hsame,hR,hJ,hO,?_,⟨fun x=>d1 x.1,fun x=>d2 x.1,fun x hx y=>d3 x hx.1 y.1⟩,⟨hvb,?_⟩,⟨f1,fun x=>f2 x.1,fun x=>f3 x.1,?_,?_⟩,?_⟩
 ·show World.ownsRow _ base 39 2 v' (k.said ++ [x]).length (jP (k.said ++ [x]))
  rw [hlen,List.length_append,List.length_singleton]
  exact hS
 ·rintro y (hy | hy) ho
  ·exact (hv' y ho).elim (e2 y (.inl hy.1)) fun z=>absurd hy.2 (Nat.not_lt.2 z)
  ·exact (hv' y ho).elim (e2 y (.inr hy.1)) fun z=>absurd hy.2 (Nat.not_lt.2 z)
 ·exact fun e=>(hv' A e).elim f4 fun y=>absurd f5 (Nat.not_lt.2 y)
 ·rw [hsz]
  exact Nat.lt_of_lt_of_le f5 (Nat.le_trans hn.size hg.size)
 ·rintro y (hy | hy | hy | hy)
  ·exact .inl (hB y (.inl hy))
  ·exact .inl (hB y (.inr (.inl hy.1)))
  ·exact .inl (hB y (.inr (.inr (.inl hy.1))))
  ·exact (hv' y hy).elim (fun z=>.inl (hB y (.inr (.inr (.inr z))))) .inr
end
end Go.Proofs.YthomdlajobnmnaaGreatDoor.Cq
namespace Go.Proofs.YthomdlajobnmnaaGreatDoor.Cq
open Go.RowKit Go.Rex
theorem aQ.bR {w:World} {b base A:Nat} {k:Wk} {B:Nat→Prop} (hW:aQ w b base A k B) :
  ∃rb,w.cell? ⟨b,0,none⟩=some (.pointer (some ⟨rb,0,none⟩))∧Calls Tryz.prog 38 #[.pointer (some ⟨rb,0,none⟩)] w fun e w'=>e=.returned (jl k.r.bR)∧aQ w' b base A k (fun x=>B x∨w.heap.size≤x)∧bA w B w'∧w'.heap[b]?=w.heap[b]?:=by
 obtain ⟨aR,BR,hcell,hR,Kt,hnew⟩:=hW.rt
 refine ⟨aR,hcell,(Zc hR).mono ?_⟩
 rintro e w' ⟨rfl,B',g1,g2,g3⟩
 exact ⟨rfl,hnew w' _ B' g1 g2 g3,⟨g3.os,g3.tape,g3.output,g3.size,fun x hx hn=>g3.block x hx fun h=>hn (Kt x h).1.1⟩,g3.block b (World.block_lt_of_cell? _ _ hcell) fun h=>(Kt b h).2 rfl⟩
theorem aQ.af7 {w:World} {b base A:Nat} {k:Wk} {B:Nat→Prop} (hW:aQ w b base A k B) (h0:k.r.step≠0) :
  ∃rb,w.cell? ⟨b,0,none⟩=some (.pointer (some ⟨rb,0,none⟩))∧Calls Tryz.prog 39 #[.pointer (some ⟨rb,0,none⟩)] w fun e w'=>e=.returned (.tuple #[oq k.r.acc,.bool true])∧aQ w' b base A k (fun x=>B x∨w.heap.size≤x)∧bA w B w':=by
 obtain ⟨aR,BR,hcell,hR,Kt,hnew⟩:=hW.rt
 refine ⟨aR,hcell,(ab1 hR h0).mono ?_⟩
 rintro e w' ⟨rfl,B',g1,g2,g3⟩
 exact ⟨rfl,hnew w' _ B' g1 g2 g3,g3.os,g3.tape,g3.output,g3.size,fun x hx hn=>g3.block x hx fun h=>hn (Kt x h).1.1⟩
theorem aQ.af8 {w:World} {b base A:Nat} {k:Wk} {B:Nat→Prop} {x:Rp} (hW:aQ w b base A k B) (hk:oG k.r x) :
  ∃rb,w.cell? ⟨b,0,none⟩=some (.pointer (some ⟨rb,0,none⟩))∧Calls Tryz.prog 40 #[.pointer (some ⟨rb,0,none⟩),jl x] w fun e w'=>e=.returned .nilIface∧aQ w' b base A {k with r:=(k.r.aG x).1} (fun x=>B x∨w.heap.size≤x)∧bA w B w':=by
 obtain ⟨aR,BR,hcell,hR,Kt,hnew⟩:=hW.rt
 refine ⟨aR,hcell,(ab0 hR hk).mono ?_⟩
 rintro e w' ⟨rfl,B',g1,g2,g3⟩
 exact ⟨rfl,hnew w' _ B' g1 g2 g3,g3.os,g3.tape,g3.output,g3.size,fun x hx hn=>g3.block x hx fun h=>hn (Kt x h).1.1⟩
theorem aQ.af9 {w:World} {b base A:Nat} {k:Wk} {B:Nat→Prop} {j:Jb} {x:Rp} (hW:aQ w b base A k B) (hj:k.j=some j) (ht:j.tg) :
  ∃aJ,w.cell? ⟨b,2,none⟩=some (.pointer (some aJ))∧Calls Tryz.prog 48 #[.pointer (some aJ),jl x] w fun e w'=>e=.returned (qW (j.next x).2)∧aQ w' b base A {k with j:=some (j.next x).1} (fun x=>B x∨w.heap.size≤x)∧bA w B w'∧w'.heap[b]?=w.heap[b]?:=by
 obtain ⟨aJ,BJ,hcell,hJ,Wt,hnew⟩:=hW.jb hj
 refine ⟨aJ,hcell,(ab8 hJ ht).mono ?_⟩
 rintro e w' ⟨rfl,B',g1,g2,g3⟩
 exact ⟨rfl,hnew w' _ B' g1 g2 g3,⟨g3.os,g3.tape,g3.output,g3.size,fun x hx hn=>g3.block x hx fun h=>hn (Wt x h).1.1⟩,g3.block b (World.block_lt_of_cell? _ _ hcell) fun h=>(Wt b h).2 rfl⟩
end Go.Proofs.YthomdlajobnmnaaGreatDoor.Cq
namespace Go.Proofs.YthomdlajobnmnaaGreatDoor.Cq
open Go.RowKit Go.Rex
structure sH (I:Nat→Wk→Prop):Prop where
 rt:∀n k,I n k→uD k.r
 len:∀n k,I n k→k.ops.length≤100
 leave:∀n k,I (n+1) k→k.r.step=0→k.j=none→k.aV=true→(k.r.begin (Ca.of 2)).2=true∧I n {k with aV:=false,r:=(k.r.begin (Ca.of 2)).1}
 start:∀n k,I (n+1) k→k.r.step=0→k.j=none→k.aV=false→k.said.length<k.ops.length→(k.ops.getD k.said.length ⟨0,0,0,0⟩).bT∧(k.r.begin (Ca.of 1)).2=true∧I n {k with j:=some (Jb.new (k.ops.getD k.said.length ⟨0,0,0,0⟩)),aV:=true,r:=(k.r.begin (Ca.of 1)).1}
 next:∀n k j,I (n+1) k→k.r.step=0→k.j=some j→(j.tg) ∧
  (((j.next k.r.bR).2.kind=12∧k.said.length<k.ops.length∧I n {k with said:=k.said ++ [((j.next k.r.bR).2.code,(j.next k.r.bR).2.val)],j:=none}) ∨
   ((j.next k.r.bR).2.kind≠12∧(j.next k.r.bR).2.OK∧(k.r.begin (j.next k.r.bR).2).2=true∧I n {k with j:=some (j.next k.r.bR).1,r:=(k.r.begin (j.next k.r.bR).2).1}))
section
variable {w w0 w1:World} {b base A n:Nat} {k k0:Wk} {B B0 B1 F G:Nat→Prop} {I:Nat→Wk→Prop}
theorem iW (h:bA w0 F w) (h1:bA w G w1) (hG:∀x,G x→x<w.heap.size→F x∨w0.heap.size≤x):bA w0 F w1 :=
 ⟨h1.os.trans h.os,h1.tape.trans h.tape,h1.output.trans h.output,Nat.le_trans h.size h1.size,fun k hk hn=>(h1.block k (Nat.lt_of_lt_of_le hk h.size) fun h'=>(hG k h' (Nat.lt_of_lt_of_le hk h.size)).elim hn fun z=>absurd hk (Nat.not_lt.2 z)).trans (h.block k hk hn)⟩
theorem aQ.ae0 (hW:aQ w b base A k B) (hk:uD k.r) (h0:k.r.step=0) {c:Ca} (hc:c.OK) :
  ∃rb,w.cell? ⟨b,0,none⟩=some (.pointer (some ⟨rb,0,none⟩))∧Calls Tryz.prog 37 #[.pointer (some ⟨rb,0,none⟩),qW c] w fun e w'=>e=.returned .nilIface∧aQ w' b base A {k with r:=(k.r.begin c).1} (fun x=>B x∨w.heap.size≤x)∧bA w B w':=by
 obtain ⟨aR,BR,hcell,hR,Kt,hnew⟩:=hW.rt
 refine ⟨aR,hcell,(Zb hR hk h0 hc).mono ?_⟩
 rintro e w' ⟨rfl,B',g1,g2,g3⟩
 exact ⟨rfl,hnew w' _ B' g1 g2 g3,g3.os,g3.tape,g3.output,g3.size,fun x hx hn=>g3.block x hx fun h=>hn (Kt x h).1.1⟩
theorem aQ.TC (hW:aQ w b base A k B) :
  ∃rb,w.cell? ⟨b,0,none⟩=some (.pointer (some ⟨rb,0,none⟩))∧Calls Tryz.prog 36 #[.pointer (some ⟨rb,0,none⟩)] w fun e w'=>e=.returned (.bool (decide (k.r.step≠0)))∧w'=w:=by
 obtain ⟨aR,BR,hc,hR,-⟩:=hW.rt
 obtain ⟨b',e,-,h18⟩:=hR.step
 rw [Addr.mk.injEq] at e
 refine ⟨aR,hc,?_⟩
 rw [e.1]
 exact Wi h18
end
end Go.Proofs.YthomdlajobnmnaaGreatDoor.Cq
namespace Go.Proofs.YthomdlajobnmnaaGreatDoor.Cq
open Go.RowKit Go.Rex
def jN {α:Type} (f:Nat→α) (i:Nat) (x:α):Nat→α:=fun k=>if k=i then x else f k
theorem bF {α:Type} (f:Nat→α) (i:Nat) (x:α):jN f i x i=x:=if_pos rfl
theorem dR {α:Type} (f:Nat→α) {i k:Nat} (x:α) (h:k≠i):jN f i x k=f k:=if_neg h
section
variable {w w':World} {b base A:Nat} {k:Wk} {B B':Nat→Prop}
theorem aQ.frame (h:aQ w b base A k B) (hk:∀x,x<w.heap.size→B x→w'.heap[x]?=w.heap[x]?) (hA:w'.heap[A]?=w.heap[A]?) (hs:w.heap.size≤w'.heap.size):aQ w' b base A k fun x=>B x∧x<w.heap.size:=by
 obtain ⟨aR,jv,sv,c,BR,BJ,h1,h2,h3,h4,h5,⟨d1,d2,d3⟩,⟨e1,e2⟩,⟨f1,f2,f3,f4,f5⟩,hB⟩:=h.ex
 have hb:b<w.heap.size:=by
  rcases Nat.lt_or_ge b w.heap.size with h | h
  ·exact h
  ·rw [Array.getElem?_eq_none h] at h1;cases h1
 refine ⟨aR,jv,sv,c,fun x=>BR x∧x<w.heap.size,fun x=>BJ x∧x<w.heap.size,?_,?_,?_,h4.frame hA,fe h5 fun x hx ho=>hk x hx (hB x (.inr (.inr (.inr ho)))),⟨fun x=>d1 x.1,fun x=>d2 x.1,fun x hx y=>d3 x hx.1 y.1⟩,⟨e1,fun x hx=>e2 x (hx.imp And.left And.left)⟩,⟨f1,fun x=>f2 x.1,fun x=>f3 x.1,f4,Nat.lt_of_lt_of_le f5 hs⟩,?_⟩
 ·rw [hk b hb (hB b (.inl rfl))];exact h1
 ·exact (h2.mono (B':=fun x=>BR x∧x<w.heap.size) fun x p q=>⟨p,q⟩).frame fun x hx=>hk x hx.2 (hB x (.inr (.inl hx.1)))
 ·cases hj:k.j with
  | none=>rw [hj] at h3;exact h3
  | some z =>
   rw [hj] at h3
   obtain ⟨a,e,hJ⟩:=h3
   exact ⟨a,e,(hJ.mono (B':=fun x=>BJ x∧x<w.heap.size) fun x p q=>⟨p,q⟩).frame fun x hx=>hk x hx.2 (hB x (.inr (.inr (.inl hx.1))))⟩
 ·rintro x (hx | hx | hx | hx)
  ·exact ⟨hB x (.inl hx),hx ▸ hb⟩
  ·exact ⟨hB x (.inr (.inl hx.1)),hx.2⟩
  ·exact ⟨hB x (.inr (.inr (.inl hx.1))),hx.2⟩
  ·exact ⟨hB x (.inr (.inr (.inr hx))),xE h5 hx⟩
theorem aQ.mono (h:aQ w b base A k B) (hB:∀x,B x→x<w.heap.size→B' x):aQ w b base A k B':=by
 obtain ⟨aR,jv,sv,c,BR,BJ,h1,h2,h3,h4,h5,h6,h7,h8,h9⟩:=(h.frame (w':=w) (fun _ _ _=>rfl) rfl (Nat.le_refl _)).ex
 exact ⟨aR,jv,sv,c,BR,BJ,h1,h2,h3,h4,h5,h6,h7,h8,fun x hx=>hB x (h9 x hx).1 (h9 x hx).2⟩
theorem aQ.self (h:aQ w b base A k B):B b∧b<w.heap.size∧A<w.heap.size:=by
 obtain ⟨aR,jv,sv,c,BR,BJ,h1,h2,h3,h4,h5,h6,h7,h8,h9⟩:=h.ex
 refine ⟨h9 b (.inl rfl),?_,h8.2.2.2.2⟩
 rcases Nat.lt_or_ge b w.heap.size with h | h
 ·exact h
 ·rw [Array.getElem?_eq_none h] at h1;cases h1
end
structure jD (w:World) (aP:Addr) (aW A:Nat→Nat) (base n:Nat) (p:PS) (W:Nat→Wk) (F:Nat→Prop):Prop where
 ex:∃(BP:Nat→Prop) (BM:Nat→Nat→Prop),gL w aP p BP∧(∀k,k<n→aQ w (aW k) base (A k) (W k) (BM k))∧(∀k,k<n→∀b,BP b→¬BM k b)∧(∀j k,j<n→k<n→j≠k→∀b,BM j b→¬BM k b)∧(∀b,BP b→F b)∧(∀k,k<n→∀b,BM k b→F b)∧∀k,k<n→¬F (A k)
section
variable {w w':World} {aP:Addr} {aW A:Nat→Nat} {base n:Nat} {p p':PS} {W:Nat→Wk} {F F':Nat→Prop}
theorem jD.frame (h:jD w aP aW A base n p W F) (hk:∀b,b<w.heap.size→(F b∨∃k,k<n∧b=A k)→w'.heap[b]?=w.heap[b]?) (hs:w.heap.size≤w'.heap.size):jD w' aP aW A base n p W F:=by
 obtain ⟨BP,BM,h1,h2,h3,h4,h5,h6,h7⟩:=h.ex
 refine ⟨fun b=>BP b∧b<w.heap.size,fun k b=>BM k b∧b<w.heap.size,(h1.mono (B':=fun b=>BP b∧b<w.heap.size) fun b x y=>⟨x,y⟩).frame fun b hb=>hk b hb.2 (.inl (h5 b hb.1)),fun k hkn=>(h2 k hkn).frame (fun b hb x=>hk b hb (.inl (h6 k hkn b x))) (hk _ (h2 k hkn).self.2.2 (.inr ⟨k,hkn,rfl⟩)) hs,fun k hk b x y=>h3 k hk b x.1 y.1,fun j k hj hk hjk b x y=>h4 j k hj hk hjk b x.1 y.1,fun b x=>h5 b x.1,fun k hk b x=>h6 k hk b x.1,h7⟩
theorem jD.Zk (h:jD w aP aW A base n p W F) {i:Nat} (hi:i<n):∃BP B:Nat→Prop,gL w aP p BP∧aQ w (aW i) base (A i) (W i) B∧(∀x,BP x→¬B x)∧(∀x,BP x→x<w.heap.size)∧(∀x,B x→x<w.heap.size)∧(∀x,BP x∨B x→F x) ∧
  ∀w' k' p' (o5 B':Nat→Prop),gL w' aP p' o5→aQ w' (aW i) base (A i) k' B'→(∀x,o5 x→BP x∨w.heap.size≤x)→(∀x,B' x→B x∨w.heap.size≤x)→(∀x,o5 x→¬B' x)→bA w (fun x=>BP x∨B x) w' →
   jD w' aP aW A base n p' (jN W i k') fun x=>F x∨w.heap.size≤x:=by
 obtain ⟨BP,BM,h1,h2,h3,h4,h5,h6,h7⟩:=h.ex
 refine ⟨fun b=>BP b∧b<w.heap.size,fun b=>BM i b∧b<w.heap.size,h1.mono fun b x y=>⟨x,y⟩,(h2 i hi).mono fun b x y=>⟨x,y⟩,fun x a b=>h3 i hi x a.1 b.1,fun x a=>a.2,fun x a=>a.2,fun x a=>a.elim (fun a=>h5 x a.1) fun a=>h6 i hi x a.1,?_⟩
 intro w' k' p' o5 B' g1 g2 g3 g4 g5 g6
 have hfr:∀k,k<n→k≠i→aQ w' (aW k) base (A k) (W k) fun b=>BM k b∧b<w.heap.size:=fun k hk hne=>by
  refine (h2 k hk).frame (fun x hx hb=>g6.block x hx ?_) (g6.block _ (h2 k hk).self.2.2 ?_) g6.size
  ·rintro (q | q)
   ·exact h3 k hk x q.1 hb
   ·exact h4 i k hi hk (fun e=>hne e.symm) x q.1 hb
  ·rintro (q | q)
   ·exact h7 k hk (h5 _ q.1)
   ·exact h7 k hk (h6 i hi _ q.1)
 refine ⟨o5,jN (fun k b=>BM k b∧b<w.heap.size) i B',g1,fun k hk=>?_,fun k hk b x=>?_,fun j k hj hk hjk b=>?_,fun b x=>(g3 b x).imp (fun q=>h5 b q.1) id,fun k hk b=>?_,fun k hk q=>q.elim (h7 k hk) fun q=>absurd (h2 k hk).self.2.2 (Nat.not_lt.2 q)⟩
 ·by_cases hki:k=i
  ·rw [hki,bF,bF];exact g2
  ·rw [dR _ _ hki,dR _ _ hki];exact hfr k hk hki
 ·by_cases hki:k=i
  ·rw [hki,bF];exact g5 b x
  ·rw [dR _ _ hki]
   exact fun y=>(g3 b x).elim (fun q=>h3 k hk b q.1 y.1) fun q=>absurd y.2 (Nat.not_lt.2 q)
 ·by_cases q1:j=i
  ·have q2:k≠i:=fun e=>hjk (q1.trans e.symm)
   rw [q1,bF,dR _ _ q2]
   exact fun x y=>(g4 b x).elim (fun q=>h4 i k hi hk (fun e=>q2 e.symm) b q.1 y.1) fun q=>absurd y.2 (Nat.not_lt.2 q)
  ·rw [dR _ _ q1]
   by_cases q2:k=i
   ·rw [q2,bF]
    exact fun y x=>(g4 b x).elim (fun q=>h4 i j hi hj (fun e=>q1 e.symm) b q.1 y.1) fun q=>absurd y.2 (Nat.not_lt.2 q)
   ·rw [dR _ _ q2]
    exact fun x y=>h4 j k hj hk hjk b x.1 y.1
 ·by_cases hki:k=i
  ·rw [hki,bF]
   exact fun x=>(g4 b x).imp (fun q=>h6 i hi b q.1) id
  ·rw [dR _ _ hki]
   exact fun x=>.inl (h6 k hk b x.1)
theorem jD.nil {B:Nat→Prop} (h:gL w aP p B):jD w aP aW A base 0 p W B :=
 ⟨B,fun _ _=>False,h,fun k hk=>absurd hk (Nat.not_lt_zero k),fun k hk=>absurd hk (Nat.not_lt_zero k),fun j k hj=>absurd hj (Nat.not_lt_zero j),fun _ h=>h,fun k hk=>absurd hk (Nat.not_lt_zero k),fun k hk=>absurd hk (Nat.not_lt_zero k)⟩
theorem jD.add {b:Nat} {k:Wk} {B:Nat→Prop} (h:jD w aP aW A base n p W F) (hm:aQ w b base (A n) k B) (hd:∀x,B x→¬F x) (hA:∀i,i<n→¬B (A i)) (hAn:¬F (A n)) (hAB:¬B (A n)):jD w aP (jN aW n b) A base (n+1) p (jN W n k) fun x=>F x∨B x:=by
 obtain ⟨BP,BM,h1,h2,h3,h4,h5,h6,h7⟩:=h.ex
 refine ⟨BP,jN BM n B,h1,fun k hk=>?_,fun k hk x=>?_,fun j k hj hk hjk x=>?_,fun x hx=>.inl (h5 x hx),fun k hk x=>?_,fun k hk=>?_⟩
 ·by_cases hkn:k=n
  ·rw [hkn,bF,bF,bF];exact hm
  ·rw [dR _ _ hkn,dR _ _ hkn,dR _ _ hkn];exact h2 k (by omega)
 ·by_cases hkn:k=n
  ·rw [hkn,bF];exact fun a b=>hd x b (h5 x a)
  ·rw [dR _ _ hkn];exact h3 k (by omega) x
 ·by_cases q1:j=n
  ·have q2:k≠n:=fun e=>hjk (q1.trans e.symm)
   rw [q1,bF,dR _ _ q2]
   exact fun a b=>hd x a (h6 k (by omega) x b)
  ·rw [dR _ _ q1]
   by_cases q2:k=n
   ·rw [q2,bF]
    exact fun a b=>hd x b (h6 j (by omega) x a)
   ·rw [dR _ _ q2]
    exact h4 j k (by omega) (by omega) hjk x
 ·by_cases hkn:k=n
  ·rw [hkn,bF];exact .inr
  ·rw [dR _ _ hkn];exact fun a=>.inl (h6 k (by omega) x a)
 ·by_cases hkn:k=n
  ·rw [hkn];exact fun q=>q.elim hAn hAB
  ·exact fun q=>q.elim (h7 k (by omega)) (hA k (by omega))
end
theorem ab9 {w:World} {ρ:Env} {ν:Nat→Addr} {b base A c:Nat} {r:RS} {l:List Op} (h:aH ρ ν dH w) (hr:aa ρ 0 4=r) (ho:bH ρ 4) (hn:¬il ρ ν dH b) (hA:A<w.heap.size) (hAb:A≠b) (QJ:¬il ρ ν dH A)
  (hops:lZ w A l) (hb:w.heap[b]?=some (.cells #[.pointer (some (ν 0)),.slice (some ⟨A,0,none⟩) l.length c,.pointer none,.bool false,.slice none 0 0] 62 (0,0))) :
  aQ w b base A ⟨r,l,none,false,[]⟩ fun x=>x=b∨il ρ ν dH x:=by
 have h0:∃aR,ν 0=⟨aR,0,none⟩:=by
  obtain ⟨g1,-⟩:=h.aC 0 _ rfl rfl rfl
  exact ⟨_,g1⟩
 obtain ⟨aR,h0⟩:=h0
 rw [h0] at hb
 refine ⟨aR,.pointer none,.slice none 0 0,c,il ρ ν dH,fun _=>False,hb,⟨ρ,ν,h0,h,hr,ho,fun _ h=>h⟩,rfl,hops,⟨rfl,.inl ⟨rfl,rfl⟩⟩,⟨hn,id,fun _ _=>id⟩,⟨fun h=>(by cases h),fun _ _ h=>(by cases h)⟩,⟨hAb,QJ,id,fun h=>(by cases h),hA⟩,?_⟩
 rintro x (hx | hx | hx | hx)
 ·exact .inl hx
 ·exact .inr hx
 ·exact hx.elim
 ·cases hx
end Go.Proofs.YthomdlajobnmnaaGreatDoor.Cq
namespace Go.Proofs.YthomdlajobnmnaaGreatDoor.Cq
open Go.RowKit Go.Rex
section
variable {k:Wk} {n:Nat} {j:Jb}
theorem aca (h0:k.r.step≠0):k.go n=(k,none):=by
 cases n with
 | zero=>rfl
 | succ n =>
  unfold Wk.go
  rw [if_pos h0]
theorem acb (h0:k.r.step=0) (hj:k.j=none) (hi:k.aV=false) (hl:k.said.length≥k.ops.length):k.go (n+1)=(k,some false):=by
 rw [Wk.go,if_neg (fun h=>h h0),hj]
 simp only
 rw [if_neg (by rw [hi];decide),if_pos hl]
theorem Zl (h0:k.r.step=0) (hj:k.j=none) (hi:k.aV=true) (hb:(k.r.begin (Ca.of 2)).2=true):Wk.go n {k with aV:=false,r:=(k.r.begin (Ca.of 2)).1}=k.go (n+1):=by
 rw [Wk.go,if_neg (fun h=>h h0),hj]
 simp only
 rw [if_pos hi,if_neg (by rw [hb];decide)]
theorem Zm (h0:k.r.step=0) (hj:k.j=none) (hi:k.aV=false) (hl:k.said.length<k.ops.length) (hg:(k.ops.getD k.said.length ⟨0,0,0,0⟩).bT) (hb:(k.r.begin (Ca.of 1)).2=true) :
  Wk.go n {k with j:=some (Jb.new (k.ops.getD k.said.length ⟨0,0,0,0⟩)),aV:=true,r:=(k.r.begin (Ca.of 1)).1}=k.go (n+1):=by
 rw [Wk.go,if_neg (fun h=>h h0),hj]
 simp only
 rw [if_neg (by rw [hi];decide),if_neg (by omega),if_neg (fun h=>h hg),if_neg (by rw [hb];decide)]
theorem Wu (h0:k.r.step=0) (hj:k.j=some j) (hk:(j.next k.r.bR).2.kind=12):Wk.go n {k with said:=k.said ++ [((j.next k.r.bR).2.code,(j.next k.r.bR).2.val)],j:=none}=k.go (n+1):=by
 rw [Wk.go,if_neg (fun h=>h h0),hj]
 simp only
 rw [if_pos hk]
theorem acd (h0:k.r.step=0) (hj:k.j=some j) (hk:(j.next k.r.bR).2.kind≠12) (hb:(k.r.begin (j.next k.r.bR).2).2=true):Wk.go n {k with j:=some (j.next k.r.bR).1,r:=(k.r.begin (j.next k.r.bR).2).1}=k.go (n+1):=by
 rw [Wk.go,if_neg (fun h=>h h0),hj]
 simp only
 rw [if_neg hk,if_neg (by rw [hb];decide)]
end
section
variable {w w' w0 w1:World} {b base A:Nat} {k:Wk} {B F G:Nat→Prop}
theorem Nw.drewN {w w':World} (h:Nw w w') (n:Nat):Nw w (w'.drewN n):=⟨h.os,h.tape,h.output,h.size,h.block⟩
theorem Nw.drew {w w':World} (h:Nw w w'):Nw w w'.drew:=⟨h.os,h.tape,h.output,h.size,h.block⟩
theorem aQ.nw (h:aQ w b base A k B) (hn:Nw w w'):aQ w' b base A k fun x=>B x∧x<w.heap.size :=
 h.frame (fun x hx _=>hn.block x hx id) (hn.block _ h.self.2.2 id) hn.size
theorem aQ.N9 (h:aQ w b base A k B) (hj:k.j=none):w.cell? ⟨b,2,none⟩=some (.pointer none):=by
 obtain ⟨aR,jv,sv,c,BR,BJ,h1,h2,h3,-⟩:=h.ex
 rw [hj] at h3
 obtain rfl:jv=.pointer none:=h3
 unfold World.cell?
 rw [h1]
 rfl
theorem aQ.said (h:aQ w b base A k B):∃a c,w.cell? ⟨b,4,none⟩=some (.slice a k.said.length c):=by
 obtain ⟨aR,jv,sv,c,BR,BJ,h1,h2,h3,h4,⟨h5,h6⟩,-⟩:=h.ex
 have NZ:w.cell? ⟨b,4,none⟩=some sv:=by
  unfold World.cell?
  rw [h1]
  rfl
 rcases h6 with ⟨rfl,e⟩ | ⟨g,cap,cur,rfl,-⟩
 ·exact ⟨none,0,by rw [NZ,e]⟩
 ·exact ⟨_,_,NZ⟩
theorem aQ.Zn (h:aQ w b base A k B):lZ w A k.ops:=by
 obtain ⟨aR,jv,sv,c,BR,BJ,h1,h2,h3,h4,-⟩:=h.ex
 exact h4
theorem aQ.setW (h:aQ w b base A k B) (i:Nat) (x:Value):bA w B (w.setCell ⟨b,i,none⟩ x) :=
 ⟨rfl,rfl,rfl,by simp [World.setCell],fun y hy hn=>heap_setCell_other w ⟨b,i,none⟩ y _ fun e=>hn (e ▸ h.self.1)⟩
theorem He (h:bA w F w') (hn:Nw w' w1):bA w F w1:=iW h hn fun x hx _=>hx.elim
end
end Go.Proofs.YthomdlajobnmnaaGreatDoor.Cq
namespace Go.Proofs.YthomdlajobnmnaaGreatDoor.Cq
open Go.Rex
structure Vk where
 l:Lo
 t:RT
 ops:List Op
 j:Option Jb
 aV:Bool
 said:List (Int × Int)
structure VW (v:Vk) (w:Wk):Prop where
 rep:iG v.l v.t w.r
 ops:w.ops=v.ops
 j:w.j=v.j
 aV:w.aV=v.aV
 said:w.said=v.said
def Vk.with (v:Vk) (q:LR):Vk:={v with l:=q.1,t:=q.2}
def Vk.op (v:Vk):Op:=v.ops.getD v.said.length ⟨0,0,0,0⟩
def Vk.bZ (v:Vk) (x:Rp):Vk :=
 match v.j with
 | none=>if v.aV=true then ({v with aV:=false}:Vk).with (RT.begin v.l (Ca.of 2)) else ({v with j:=some (Jb.new v.op),aV:=true}:Vk).with (RT.begin v.l (Ca.of 1))
 | some j=>if (j.next x).2.kind=12 then {v with said:=v.said ++ [((j.next x).2.code,(j.next x).2.val)],j:=none} else ({v with j:=some (j.next x).1}:Vk).with (RT.begin v.l (j.next x).2)
def Vk.done (v:Vk):Prop:=v.t.dB=0∧v.j=none∧v.aV=false∧v.said.length≥v.ops.length
def Vk.may (v:Vk) (x:Rp):Prop :=
 match v.j with
 | none=>v.aV=true∨(v.aV=false∧v.said.length<v.ops.length∧v.op.bT)
 | some j=>((j.next x).2.kind=12→v.said.length<v.ops.length)∧((j.next x).2.kind≠12→(j.next x).2.OK)
def Fin (Q:Vk→PS→Prop):Nat→Nat→Vk→PS→Prop
 | _,0,v,p=>v.done∧Q v p
 | c,n+1,v,p=>(v.done∧Q v p)∨(∃x,v.t=.idle x∧v.may x∧∃c',c=c'+1∧Fin Q c' n (v.bZ x) p)∨(v.t.dB≠0∧∃p' x,p.act (v.t.acc v.l)=(p',some x)∧Fin Q 150 n (v.with (RT.aG v.l v.t x)) p')
section
variable {Q:Vk→PS→Prop}
theorem Fin.bZ {c n:Nat} {v:Vk} {p:PS} {x:Rp} (ht:v.t=.idle x) (hm:v.may x) (h:Fin Q c n (v.bZ x) p):Fin Q (c+1) (n+1) v p:=.inr (.inl ⟨x,ht,hm,c,rfl,h⟩)
end
structure AV (k:Int) (v:Vk) (p:PS):Prop where
 gJ:uh k v.l v.t p
 ui:∀j,v.j=some j→(Wb k j.node∧Wb k j.h∧Wb k j.t∧Wb k j.n∧j.last.new=Wd.zero∧j.last.old=Wd.zero)∧0≤j.op.val∧j.op.val≤3000
 ops:v.ops.length≤100∧∀o∈v.ops,0≤o.val∧o.val≤3000
theorem AV.mono {k k':Int} {v:Vk} {p:PS} (h:AV k v p) (hk:k≤k'):AV k' v p:=⟨h.gJ.mono hk,fun j hj=>⟨⟨(h.ui j hj).1.1.mono hk,(h.ui j hj).1.2.1.mono hk,(h.ui j hj).1.2.2.1.mono hk,(h.ui j hj).1.2.2.2.1.mono hk,(h.ui j hj).1.2.2.2.2⟩,(h.ui j hj).2⟩,h.ops⟩
theorem RP {k:Int} {j:Jb} {x:Rp} (h0:0≤k) (hn:Wb k j.node) (hh:Wb k j.h) (ht:Wb k j.t) (hm:Wb k j.n) (hl:j.last.new=Wd.zero∧j.last.old=Wd.zero) (hv:0≤j.op.val∧j.op.val≤3000) (hx:Wb k x.word) :
  ((Wb k (j.next x).1.node∧Wb k (j.next x).1.h∧Wb k (j.next x).1.t∧Wb k (j.next x).1.n∧(j.next x).1.last.new=Wd.zero∧(j.next x).1.last.old=Wd.zero)∧(j.next x).1.op=j.op)∧Wb (k+1) (j.next x).2.new∧Wb k (j.next x).2.old:=by
 have hz:Wb k Wd.zero:=Wb.zero h0
 have hz1:Wb (k+1) Wd.zero:=Wb.zero (by omega)
 have hval:Wb (k+1) (Wd.dM j.op.val):=Wb.num (by omega) (by omega)
 have hsw:∀{o r:Wd},Wb k o→Wb k r→Wb (k+1) (qf o r):=fun {o r} a b=>by
  obtain ⟨a1,a2,a3,a4⟩:=a
  obtain ⟨b1,b2,b3,b4⟩:=b
  refine ⟨b1,?_,?_,?_⟩
  ·show -(k+1)≤r.gen∧r.gen≤k+1
   omega
  ·show -(2000 * (k+1)+3000)≤o.tag+1∧o.tag+1≤2000 * (k+1)+3000
   omega
  ·show -(2000 * (k+1)+3000)≤0∧0≤2000 * (k+1)+3000
   omega
 have hl1:Wb (k+1) j.last.new:=by rw [hl.1];exact hz1
 have hl2:Wb k j.last.old:=by rw [hl.2];exact hz
 unfold Jb.next
 split
 ·unfold Jb.mQ
  repeat' split
  all_goals
   refine ⟨⟨⟨?_,?_,?_,?_,?_⟩,rfl⟩,?_,?_⟩
   ·first | exact hn | exact hx
   ·first | exact hh | exact hx
   ·first | exact ht | exact hx
   ·first | exact hm | exact hx
   ·first | exact hl | exact ⟨rfl,rfl⟩
   ·first | exact hz1 | exact hval | exact hl1 | exact hsw ht hm | exact hsw hm hn | exact hsw ht hn
   ·first | exact hz | exact ht | exact hm | exact hl2
 ·unfold Jb.jK
  repeat' split
  all_goals
   refine ⟨⟨⟨?_,?_,?_,?_,?_⟩,rfl⟩,?_,?_⟩
   ·first | exact hn | exact hx
   ·first | exact hh | exact hx
   ·first | exact ht | exact hx
   ·first | exact hm | exact hx
   ·first | exact hl | exact ⟨rfl,rfl⟩
   ·first | exact hz1 | exact hl1 | exact hsw ht hm | exact hsw hh hm
   ·first | exact hz | exact ht | exact hh | exact hl2
theorem AV.bZ {k:Int} {v:Vk} {p:PS} {x:Rp} (h:AV k v p) (ht:v.t=.idle x) (hm:v.may x):AV (k+1) (v.bZ x) p:=by
 have ha:=h.gJ
 have h0:=ha.k0
 rw [ht] at ha
 have hz:Wb k Wd.zero:=Wb.zero h0
 have hz1:Wb (k+1) Wd.zero:=Wb.zero (by omega)
 have hxw:Wb k x.word:=ha.tw
 unfold Vk.bZ
 unfold Vk.may at hm
 cases hj:v.j with
 | none =>
  rw [hj] at hm
  simp only at hm ⊢
  split
  ·exact ⟨ha.begin (c:=Ca.of 2) (wB (by decide)) hz1 hz,fun j hj'=>(by cases hj'),h.ops⟩
  ·rename_i hi
   obtain ⟨-,hl,-⟩:=hm.resolve_left hi
   have ho:v.op∈v.ops:=by
    unfold Vk.op
    rw [List.getD_eq_getElem?_getD,List.getElem?_eq_getElem hl]
    exact List.getElem_mem _
   refine ⟨ha.begin (c:=Ca.of 1) (wB (by decide)) hz1 hz,fun j hj'=>?_,h.ops⟩
   obtain rfl:Jb.new v.op=j:=Option.some.inj hj'
   exact ⟨⟨hz1,hz1,hz1,hz1,rfl,rfl⟩,h.ops.2 _ ho⟩
 | some j =>
  rw [hj] at hm
  simp only at hm ⊢
  obtain ⟨⟨q1,q2,q5,q6,q3⟩,q4⟩:=h.ui j hj
  obtain ⟨⟨⟨a1,a2,a5,a6,a3⟩,a4⟩,b,c⟩:=RP (x:=x) h0 q1 q2 q5 q6 q3 q4 hxw
  split
  ·refine ⟨?_,fun j' hj'=>(by cases hj'),h.ops⟩
   have:=ha.mono (k':=k+1) (by omega)
   show uh (k+1) v.l v.t p
   rw [ht]
   exact this
  ·rename_i hk
   refine ⟨ha.begin (hm.2 hk) b c,fun j' hj'=>?_,h.ops⟩
   obtain rfl:(j.next x).1=j':=Option.some.inj hj'
   exact ⟨⟨a1.mono (by omega),a2.mono (by omega),a5.mono (by omega),a6.mono (by omega),a3⟩,by rw [a4];exact q4⟩
theorem AV.aG {k:Int} {v:Vk} {p p':PS} {x:Rp} (h:AV k v p) (hx:p.act (v.t.acc v.l)=(p',some x)):AV (k+1) (v.with (RT.aG v.l v.t x)) p'∧Wb (k+1) x.word:=by
 obtain ⟨h1,h2⟩:=h.gJ.aG hx
 exact ⟨⟨h1,(h.mono (show k≤k+1 by omega)).ui,h.ops⟩,h2⟩
section
variable {Q:Vk→PS→Prop} {c n:Nat} {l:Lo} {ops:List Op} {j j':Jb} {aV:Bool} {said:List (Int × Int)} {p p':PS} {x x':Rp} {ca:Ca} {a:Ac}
end
end Go.Proofs.YthomdlajobnmnaaGreatDoor.Cq
namespace Go.Proofs.YthomdlajobnmnaaGreatDoor.Cq
open Go.Rex
section
variable {Q:Vk→PS→Prop} {v:Vk} {w:Wk} {p:PS} {x:Rp}
theorem VW.idle (h:VW v w) (ht:v.t=.idle x):iG v.l (.idle x) w.r∧w.r.step=0∧w.r.bR=x:=by
 have hr:=h.rep
 rw [ht] at hr
 exact ⟨hr,hr.step,hr.more⟩
theorem VW.leave (h:VW v w) (ho:v.l.OK) (ht:v.t=.idle x) (hj:v.j=none) (hi:v.aV=true):(w.r.begin (Ca.of 2)).2=true∧VW (v.bZ x) {w with aV:=false,r:=(w.r.begin (Ca.of 2)).1}:=by
 obtain ⟨hr,-,-⟩:=h.idle ht
 have hb:=hr.begin ho (wB (k:=2) (by decide))
 have e:v.bZ x=({v with aV:=false}:Vk).with (RT.begin v.l (Ca.of 2)):=by
  unfold Vk.bZ
  rw [hj]
  simp only
  rw [if_pos hi]
 rw [e]
 exact ⟨hb.2,hb.1,h.ops,h.j,rfl,h.said⟩
theorem VW.start (h:VW v w) (ho:v.l.OK) (ht:v.t=.idle x) (hj:v.j=none) (hi:v.aV=false):(w.r.begin (Ca.of 1)).2=true∧VW (v.bZ x) {w with j:=some (Jb.new (w.ops.getD w.said.length ⟨0,0,0,0⟩)),aV:=true,r:=(w.r.begin (Ca.of 1)).1}:=by
 obtain ⟨hr,-,-⟩:=h.idle ht
 have hb:=hr.begin ho (wB (k:=1) (by decide))
 have e:v.bZ x=({v with j:=some (Jb.new v.op),aV:=true}:Vk).with (RT.begin v.l (Ca.of 1)):=by
  unfold Vk.bZ
  rw [hj]
  simp only
  rw [if_neg (by rw [hi];decide)]
 rw [e]
 refine ⟨hb.2,hb.1,h.ops,?_,rfl,h.said⟩
 show some (Jb.new (w.ops.getD w.said.length ⟨0,0,0,0⟩))=some (Jb.new v.op)
 rw [h.ops,h.said]
 rfl
theorem VW.next (h:VW v w) (ho:v.l.OK) (ht:v.t=.idle x) {j:Jb} (hj:v.j=some j) (hm:v.may x) :
  ((j.next w.r.bR).2.kind=12∧w.said.length<w.ops.length∧VW (v.bZ x) {w with said:=w.said ++ [((j.next w.r.bR).2.code,(j.next w.r.bR).2.val)],j:=none}) ∨
  ((j.next w.r.bR).2.kind≠12∧(j.next w.r.bR).2.OK∧(w.r.begin (j.next w.r.bR).2).2=true∧VW (v.bZ x) {w with j:=some (j.next w.r.bR).1,r:=(w.r.begin (j.next w.r.bR).2).1}):=by
 obtain ⟨hr,-,hx⟩:=h.idle ht
 rw [hx]
 unfold Vk.may at hm
 rw [hj] at hm
 simp only at hm
 by_cases h12:(j.next x).2.kind=12
 ·have e:v.bZ x={v with said:=v.said ++ [((j.next x).2.code,(j.next x).2.val)],j:=none}:=by
   unfold Vk.bZ
   rw [hj]
   simp only
   rw [if_pos h12]
  rw [e]
  refine .inl ⟨h12,by rw [h.ops,h.said];exact hm.1 h12,h.rep,h.ops,rfl,h.aV,?_⟩
  show w.said ++ _=v.said ++ _
  rw [h.said]
 ·have hok:=hm.2 h12
  have hb:=hr.begin ho hok
  have e:v.bZ x=({v with j:=some (j.next x).1}:Vk).with (RT.begin v.l (j.next x).2):=by
   unfold Vk.bZ
   rw [hj]
   simp only
   rw [if_neg h12]
  rw [e]
  exact .inr ⟨h12,hok,hb.2,hb.1,h.ops,rfl,h.aV,h.said⟩
theorem VW.aG (h:VW v w) (ho:v.l.OK) (hs:v.t.fF v.l) (h0:v.t.dB≠0) (x:Rp):(w.r.aG x).2=true∧VW (v.with (RT.aG v.l v.t x)) {w with r:=(w.r.aG x).1}:=by
 have hk:=h.rep.aG ho hs.fits h0 x
 exact ⟨hk.2,hk.1,h.ops,h.j,h.aV,h.said⟩
structure TJ (T:Int) (Q:Vk→PS→Prop) (m:Nat) (w:Wk) (p:PS):Prop where
 ex:∃v c K,Fin Q c m v p∧VW v w∧AV K v p∧c≤150∧K+201 * m≤T
structure TE (T:Int) (Q:Vk→PS→Prop) (w:Wk) (p:PS):Prop where
 ex:∃v K,v.done∧Q v p∧VW v w∧AV K v p∧K≤T+200
theorem TE.idle {T:Int} (h:TE T Q w p):w.idle:=by
 obtain ⟨v,K,⟨d1,d2,d3,d4⟩,-,hV,-⟩:=h.ex
 exact ⟨hV.rep.step.trans d1,hV.j.trans d2,hV.aV.trans d3,by rw [hV.ops,hV.said];exact d4⟩
end
end Go.Proofs.YthomdlajobnmnaaGreatDoor.Cq
namespace Go.Proofs.YthomdlajobnmnaaGreatDoor.Cq
open Go.RowKit Go.Rex
section
variable {Q:Vk→PS→Prop} {T:Int} {w:Wk} {p:PS} {m:Nat}
theorem TJ.idle (h:TJ T Q m w p) (hi:w.idle):TE T Q w p:=by
 obtain ⟨v,c,K,hF,hV,hA,hc,hK⟩:=h.ex
 obtain ⟨i1,i2,i3,i4⟩:=hi
 have hd:v.done:=⟨hV.rep.step.symm.trans i1,hV.j.symm.trans i2,hV.aV.symm.trans i3,by rw [←hV.ops,←hV.said];exact i4⟩
 refine ⟨v,K,hd,?_,hV,hA,by omega⟩
 cases m with
 | zero=>exact hF.2
 | succ m =>
  rcases hF with hF | ⟨x,ht,hm,-⟩ | ⟨h0,-⟩
  ·exact hF.2
  ·unfold Vk.may at hm
   rw [hd.2.1] at hm
   simp only at hm
   rcases hm with hm | ⟨-,hm,-⟩
   ·rw [hd.2.2.1] at hm;cases hm
   ·exact absurd hd.2.2.2 (Nat.not_le.2 hm)
  ·exact absurd hd.1 h0
end
end Go.Proofs.YthomdlajobnmnaaGreatDoor.Cq
namespace Go.Proofs.YthomdlajobnmnaaGreatDoor
open Go.RowKit Go.Rex
structure bu (w w':World) (b base A:Nat) (aP:Addr) (B BP:Nat→Prop) (k':Wk) (p':PS):Prop where
 ex:∃B' o5:Nat→Prop,gL w' aP p' o5∧aQ w' b base A k' B'∧(∀x,o5 x→BP x∨w.heap.size≤x)∧(∀x,B' x→B x∨w.heap.size≤x)∧(∀x,o5 x→¬B' x)∧bA w (fun x=>BP x∨B x) w'
section
variable {w wa wb:World} {b base A:Nat} {k k':Wk} {aP:Addr} {p p':PS} {B BP:Nat→Prop} {dC:Nat→Addr} {rb:Nat}
theorem bu.wk (h:bu w wa b base A aP B BP k p):∃Ba,aQ wa b base A k Ba∧(∀x,Ba x→x<wa.heap.size)∧∀wb k' B',aQ wb b base A k' B'→(∀x,B' x→Ba x∨wa.heap.size≤x)→bA wa Ba wb→bu w wb b base A aP B BP k' p:=by
 obtain ⟨B1,zZ,h1,h2,h3,h4,h5,h6⟩:=h.ex
 refine ⟨fun x=>B1 x∧x<wa.heap.size,h2.mono fun x p q=>⟨p,q⟩,fun x hx=>hx.2,fun wb k' B' g1 g2 g3=>⟨B',fun x=>zZ x∧x<wa.heap.size,?_,g1,fun x hx=>h3 x hx.1,fun x hx=>?_,fun x hx hy=>?_,iW h6 g3 fun x hx _=>(h4 x hx.1).imp .inr id⟩⟩
 ·exact (h1.mono (B':=fun x=>zZ x∧x<wa.heap.size) fun x p q=>⟨p,q⟩).frame fun x hx=>g3.block x hx.2 fun hy=>h5 x hx.1 hy.1
 ·rcases g2 x hx with g | g
  ·exact h4 x g.1
  ·exact .inr (Nat.le_trans h6.size g)
 ·rcases g2 x hy with g | g
  ·exact h5 x hx.1 g.1
  ·exact absurd hx.2 (Nat.not_lt.2 g)
theorem bu.cells (h:bu w wa b base A aP B BP k p):∃(aR:Nat) (jv sv:Value) (c:Nat),wa.cell? ⟨b,0,none⟩=some (.pointer (some ⟨aR,0,none⟩))∧wa.cell? ⟨b,1,none⟩=some (.slice (some ⟨A,0,none⟩) k.ops.length c)∧wa.cell? ⟨b,2,none⟩=some jv∧wa.cell? ⟨b,3,none⟩=some (.bool k.aV)∧wa.cell? ⟨b,4,none⟩=some sv∧∀i,wa.frozen? ⟨b,i,none⟩=false:=by
 obtain ⟨Ba,h1,-⟩:=h.wk
 exact h1.cells
theorem bu.said (h:bu w wa b base A aP B BP k p):∃a c,wa.cell? ⟨b,4,none⟩=some (.slice a k.said.length c):=by
 obtain ⟨Ba,h1,-⟩:=h.wk
 exact h1.said
theorem bu.lt (h:bu w wa b base A aP B BP k p):b<wa.heap.size∧A<wa.heap.size:=by
 obtain ⟨Ba,h1,-⟩:=h.wk
 exact h1.self.2
theorem bu.put (h:bu w wa b base A aP B BP k p) (i:Nat) (x:Value) (j:Option Jb) (aV:Bool) (hj:i=2→j=none∧x=.pointer none) (hi:i=3→x=.bool aV) (hj':i≠2→j=k.j) (hi':i≠3→aV=k.aV) (h23:i=2∨i=3) :
  bu w (wa.setCell ⟨b,i,none⟩ x) b base A aP B BP {k with j:=j,aV:=aV} p:=by
 obtain ⟨Ba,h1,h2,h3⟩:=h.wk
 exact h3 _ _ _ (h1.put i x j aV hj hi hj' hi' h23).2 (fun x hx=>.inl hx) (h1.setW i x)
end
end Go.Proofs.YthomdlajobnmnaaGreatDoor
