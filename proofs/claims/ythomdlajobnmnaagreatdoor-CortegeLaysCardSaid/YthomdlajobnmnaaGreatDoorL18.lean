/- part 18 of the proof -/
import Derived.Tactics
import Derived.Maps.AppendAt
import Derived.Deep.RegionLaw
import Derived.Test.YthomdlajobnmnaaGreatDoorL17
set_option linter.unusedSimpArgs false
set_option linter.unusedVariables false
namespace Go.Proofs.YthomdlajobnmnaaGreatDoor
open Go.RowKit Go.Rex
structure lq (w:World) (A:Nat) (l:List Op):Prop where
 ex:∀(i:Nat) (o:Op),l[i]?=some o→w.cell? ⟨A,4 * i,none⟩=some (.int .i64 o.kind)∧w.cell? ⟨A,4 * i+1,none⟩=some (.int .i64 o.key)∧w.cell? ⟨A,4 * i+2,none⟩=some (.int .i64 o.val)∧w.cell? ⟨A,4 * i+3,none⟩=some (.int .i64 o.xO)
def uM (w:World) (v:Value) (j:Option Jb) (B:Nat→Prop):Prop :=
 match j with
 | none=>v=.pointer none
 | some x=>∃a,v=.pointer (some a)∧jB w a x B
def lQ (l:List (Int × Int)):List Value:=l.flatMap fun x=>[.int .i64 x.1,.int .i64 x.2]
structure aO (w:World) (b base A:Nat) (k:Wk) (B:Nat→Prop):Prop where
 ex:∃(aR:Nat) (jv sv:Value) (c:Nat) (BR BJ:Nat→Prop),
  w.heap[b]?=some (.cells #[.pointer (some ⟨aR,0,none⟩),.slice (some ⟨A,0,none⟩) k.ops.length c,jv,.bool k.bu,sv] 44 (0,0)) ∧
  kH w ⟨aR,0,none⟩ k.r BR∧uM w jv k.j BJ∧lq w A k.ops∧w.ownsRow base 39 2 sv k.said.length (lQ k.said) ∧
  (¬BR b∧¬BJ b∧∀x,BR x→¬BJ x)∧(sv.ownBlock≠some b∧∀x,BR x∨BJ x→sv.ownBlock≠some x) ∧
  (A≠b∧¬BR A∧¬BJ A∧sv.ownBlock≠some A∧A<w.heap.size)∧∀x,x=b∨BR x∨BJ x∨sv.ownBlock=some x→B x
section
variable {w w':World} {b base A:Nat} {k:Wk} {B:Nat→Prop}
theorem aO.cells (h:aO w b base A k B):∃(aR:Nat) (jv sv:Value) (c:Nat),w.cell? ⟨b,0,none⟩=some (.pointer (some ⟨aR,0,none⟩))∧w.cell? ⟨b,1,none⟩=some (.slice (some ⟨A,0,none⟩) k.ops.length c)∧w.cell? ⟨b,2,none⟩=some jv∧w.cell? ⟨b,3,none⟩=some (.bool k.bu)∧w.cell? ⟨b,4,none⟩=some sv∧∀i,w.frozen? ⟨b,i,none⟩=false:=by
 obtain ⟨aR,jv,sv,c,BR,BJ,h1,-⟩:=h.ex
 refine ⟨aR,jv,sv,c,?_,?_,?_,?_,?_,fun i=>?_⟩
 all_goals
  first
   | unfold World.cell?
   | unfold World.frozen?
  rw [h1]
  first
   | rfl
   | simp
theorem lq.frame {l:List Op} (h:lq w A l) (hk:w'.heap[A]?=w.heap[A]?):lq w' A l:=⟨fun i o hi=>by
  have:=h.ex i o hi
  unfold World.cell? at *
  rw [hk]
  exact this⟩
theorem uM.frame {v:Value} {j:Option Jb} {BJ:Nat→Prop} (h:uM w v j BJ) (hk:∀x,x<w.heap.size→BJ x→w'.heap[x]?=w.heap[x]?):uM w' v j BJ:=by
 cases j with
 | none=>exact h
 | some x =>
  obtain ⟨a,e,hJ⟩:=h
  have:=(hJ.mono (B':=fun x=>BJ x∧x<w.heap.size) fun b p q=>⟨p,q⟩).frame fun b hb=>hk b hb.2 hb.1
  exact ⟨a,e,this.mono fun b p _=>p.1⟩
theorem iO {v:Value} {n:Nat} {e:TypeId} {size:Nat} {xs:List Value} (h:w.ownsRow base e size v n xs) (hk:∀x,x<w.heap.size→v.ownBlock=some x→w'.heap[x]?=w.heap[x]?):w'.ownsRow base e size v n xs:=by
 obtain ⟨h1,h2 | ⟨g,cap,cur,h2,h3,h4,h5⟩⟩:=h
 ·exact ⟨h1,.inl h2⟩
 ·refine ⟨h1,.inr ⟨g,cap,cur,h2,h3,?_,h5⟩⟩
  rw [hk g ?_ (by rw [h2];rfl)]
  ·exact h4
  ·rcases Nat.lt_or_ge g w.heap.size with h | h
   ·exact h
   ·rw [Array.getElem?_eq_none h] at h4;cases h4
theorem vR {v:Value} {n:Nat} {e:TypeId} {size:Nat} {xs:List Value} {x:Nat} (h:w.ownsRow base e size v n xs) (hx:v.ownBlock=some x):x<w.heap.size:=by
 obtain ⟨h1,⟨rfl,-⟩ | ⟨g,cap,cur,rfl,h3,h4,h5⟩⟩:=h
 ·cases hx
 ·obtain rfl:g=x:=Option.some.inj hx
  rcases Nat.lt_or_ge g w.heap.size with h | h
  ·exact h
  ·rw [Array.getElem?_eq_none h] at h4;cases h4
theorem aO.put (h:aO w b base A k B) (i:Nat) (x:Value) (j:Option Jb) (bu:Bool) (hj:i=2→j=none∧x=.pointer none) (hi:i=3→x=.bool bu) (hj':i≠2→j=k.j) (hi':i≠3→bu=k.bu) (h23:i=2∨i=3) :
  (w.frozen? ⟨b,i,none⟩=false)∧aO (w.setCell ⟨b,i,none⟩ x) b base A {k with j:=j,bu:=bu} B:=by
 obtain ⟨aR,jv,sv,c,BR,BJ,h1,h2,h3,h4,h5,⟨d1,d2,d3⟩,⟨e1,e2⟩,⟨f1,f2,f3,f4,f5⟩,hB⟩:=h.ex
 have hother:∀y,y≠b→(w.setCell ⟨b,i,none⟩ x).heap[y]?=w.heap[y]?:=fun y hy=>heap_setCell_other w ⟨b,i,none⟩ y _ hy
 have hsame:=heap_setCell_same w b i _ _ x h1
 have hsz:(w.setCell ⟨b,i,none⟩ x).heap.size=w.heap.size:=by simp [World.setCell]
 have hR:=h2.frame (w':=w.setCell ⟨b,i,none⟩ x) fun y hy=>hother y fun e=>d1 (e ▸ hy)
 have hO:=h4.frame (w':=w.setCell ⟨b,i,none⟩ x) (hother A f1)
 have hS:=iO (w':=w.setCell ⟨b,i,none⟩ x) h5 fun y _ ho=>hother y fun e=>e1 (e ▸ ho)
 refine ⟨by unfold World.frozen?;rw [h1];rfl,?_⟩
 rcases h23 with rfl | rfl
 ·obtain ⟨rfl,rfl⟩:=hj rfl
  obtain rfl:=hi' (by decide)
  exact ⟨aR,.pointer none,sv,c,BR,BJ,hsame,hR,rfl,hO,hS,⟨d1,d2,d3⟩,⟨e1,e2⟩,⟨f1,f2,f3,f4,by rw [hsz];exact f5⟩,hB⟩
 ·obtain rfl:=hi rfl
  obtain rfl:=hj' (by decide)
  exact ⟨aR,jv,sv,c,BR,BJ,hsame,hR,h3.frame fun y _ hy=>hother y fun e=>d2 (e ▸ hy),hO,hS,⟨d1,d2,d3⟩,⟨e1,e2⟩,⟨f1,f2,f3,f4,by rw [hsz];exact f5⟩,hB⟩
end
section
variable {w w':World} {b base A:Nat} {k:Wk} {B:Nat→Prop}
end
section
variable {w w0 w1:World} {b base A n:Nat} {k k0:Wk} {B B0 B1 F G:Nat→Prop} {I:Nat→Wk→Prop}
theorem il (h:bC w0 F w) (h1:bC w G w1) (hG:∀x,G x→x<w.heap.size→F x∨w0.heap.size≤x):bC w0 F w1 :=
 ⟨h1.os.trans h.os,h1.tape.trans h.tape,h1.output.trans h.output,Nat.le_trans h.size h1.size,fun k hk hn=>(h1.block k (Nat.lt_of_lt_of_le hk h.size) fun h'=>(hG k h' (Nat.lt_of_lt_of_le hk h.size)).elim hn fun z=>absurd hk (Nat.not_lt.2 z)).trans (h.block k hk hn)⟩
end
def lS {α:Type} (f:Nat→α) (i:Nat) (x:α):Nat→α:=fun k=>if k=i then x else f k
theorem df {α:Type} (f:Nat→α) (i:Nat) (x:α):lS f i x i=x:=if_pos rfl
theorem eY {α:Type} (f:Nat→α) {i k:Nat} (x:α) (h:k≠i):lS f i x k=f k:=if_neg h
section
variable {w w':World} {b base A:Nat} {k:Wk} {B B':Nat→Prop}
theorem aO.frame (h:aO w b base A k B) (hk:∀x,x<w.heap.size→B x→w'.heap[x]?=w.heap[x]?) (hA:w'.heap[A]?=w.heap[A]?) (hs:w.heap.size≤w'.heap.size):aO w' b base A k fun x=>B x∧x<w.heap.size:=by
 obtain ⟨aR,jv,sv,c,BR,BJ,h1,h2,h3,h4,h5,⟨d1,d2,d3⟩,⟨e1,e2⟩,⟨f1,f2,f3,f4,f5⟩,hB⟩:=h.ex
 have hb:b<w.heap.size:=by
  rcases Nat.lt_or_ge b w.heap.size with h | h
  ·exact h
  ·rw [Array.getElem?_eq_none h] at h1;cases h1
 refine ⟨aR,jv,sv,c,fun x=>BR x∧x<w.heap.size,fun x=>BJ x∧x<w.heap.size,?_,?_,?_,h4.frame hA,iO h5 fun x hx ho=>hk x hx (hB x (.inr (.inr (.inr ho)))),⟨fun x=>d1 x.1,fun x=>d2 x.1,fun x hx y=>d3 x hx.1 y.1⟩,⟨e1,fun x hx=>e2 x (hx.imp And.left And.left)⟩,⟨f1,fun x=>f2 x.1,fun x=>f3 x.1,f4,Nat.lt_of_lt_of_le f5 hs⟩,?_⟩
 ·rw [hk b hb (hB b (.inl rfl))];exact h1
 ·exact (h2.mono (B':=fun x=>BR x∧x<w.heap.size) fun x p q=>⟨p,q⟩).frame fun x hx=>hk x hx.2 (hB x (.inr (.inl hx.1)))
 ·cases hj:k.j with
  | none=>rw [hj] at h3;exact h3
  | some z =>
   rw [hj] at h3
   obtain ⟨a,e,hJ⟩:=h3
   exact ⟨a,e,(hJ.mono (B':=fun x=>BJ x∧x<w.heap.size) fun x p q=>⟨p,q⟩).frame fun x hx=>hk x hx.2 (hB x (.inr (.inr (.inl hx.1))))⟩
 ·rintro x (hx | hx | hx | hx)
  ·exact ⟨hB x (.inl hx),hx ▸ hb⟩
  ·exact ⟨hB x (.inr (.inl hx.1)),hx.2⟩
  ·exact ⟨hB x (.inr (.inr (.inl hx.1))),hx.2⟩
  ·exact ⟨hB x (.inr (.inr (.inr hx))),vR h5 hx⟩
theorem aO.mono (h:aO w b base A k B) (hB:∀x,B x→x<w.heap.size→B' x):aO w b base A k B':=by
 obtain ⟨aR,jv,sv,c,BR,BJ,h1,h2,h3,h4,h5,h6,h7,h8,h9⟩:=(h.frame (w':=w) (fun _ _ _=>rfl) rfl (Nat.le_refl _)).ex
 exact ⟨aR,jv,sv,c,BR,BJ,h1,h2,h3,h4,h5,h6,h7,h8,fun x hx=>hB x (h9 x hx).1 (h9 x hx).2⟩
theorem aO.self (h:aO w b base A k B):B b∧b<w.heap.size∧A<w.heap.size:=by
 obtain ⟨aR,jv,sv,c,BR,BJ,h1,h2,h3,h4,h5,h6,h7,h8,h9⟩:=h.ex
 refine ⟨h9 b (.inl rfl),?_,h8.2.2.2.2⟩
 rcases Nat.lt_or_ge b w.heap.size with h | h
 ·exact h
 ·rw [Array.getElem?_eq_none h] at h1;cases h1
end
structure jf (w:World) (aP:Addr) (aW A:Nat→Nat) (base n:Nat) (p:PS) (W:Nat→Wk) (F:Nat→Prop):Prop where
 ex:∃(BP:Nat→Prop) (BM:Nat→Nat→Prop),fu w aP p BP∧(∀k,k<n→aO w (aW k) base (A k) (W k) (BM k))∧(∀k,k<n→∀b,BP b→¬BM k b)∧(∀j k,j<n→k<n→j≠k→∀b,BM j b→¬BM k b)∧(∀b,BP b→F b)∧(∀k,k<n→∀b,BM k b→F b)∧∀k,k<n→¬F (A k)
section
variable {w w':World} {aP:Addr} {aW A:Nat→Nat} {base n:Nat} {p p':PS} {W:Nat→Wk} {F F':Nat→Prop}
theorem jf.nil {B:Nat→Prop} (h:fu w aP p B):jf w aP aW A base 0 p W B :=
 ⟨B,fun _ _=>False,h,fun k hk=>absurd hk (Nat.not_lt_zero k),fun k hk=>absurd hk (Nat.not_lt_zero k),fun j k hj=>absurd hj (Nat.not_lt_zero j),fun _ h=>h,fun k hk=>absurd hk (Nat.not_lt_zero k),fun k hk=>absurd hk (Nat.not_lt_zero k)⟩
theorem jf.add {b:Nat} {k:Wk} {B:Nat→Prop} (h:jf w aP aW A base n p W F) (hm:aO w b base (A n) k B) (hd:∀x,B x→¬F x) (hA:∀i,i<n→¬B (A i)) (hAn:¬F (A n)) (Y7:¬B (A n)):jf w aP (lS aW n b) A base (n+1) p (lS W n k) fun x=>F x∨B x:=by
 obtain ⟨BP,BM,h1,h2,h3,h4,h5,h6,h7⟩:=h.ex
 refine ⟨BP,lS BM n B,h1,fun k hk=>?_,fun k hk x=>?_,fun j k hj hk hjk x=>?_,fun x hx=>.inl (h5 x hx),fun k hk x=>?_,fun k hk=>?_⟩
 ·by_cases hkn:k=n
  ·rw [hkn,df,df,df];exact hm
  ·rw [eY _ _ hkn,eY _ _ hkn,eY _ _ hkn];exact h2 k (by omega)
 ·by_cases hkn:k=n
  ·rw [hkn,df];exact fun a b=>hd x b (h5 x a)
  ·rw [eY _ _ hkn];exact h3 k (by omega) x
 ·by_cases q1:j=n
  ·have q2:k≠n:=fun e=>hjk (q1.trans e.symm)
   rw [q1,df,eY _ _ q2]
   exact fun a b=>hd x a (h6 k (by omega) x b)
  ·rw [eY _ _ q1]
   by_cases q2:k=n
   ·rw [q2,df]
    exact fun a b=>hd x b (h6 j (by omega) x a)
   ·rw [eY _ _ q2]
    exact h4 j k (by omega) (by omega) hjk x
 ·by_cases hkn:k=n
  ·rw [hkn,df];exact .inr
  ·rw [eY _ _ hkn];exact fun a=>.inl (h6 k (by omega) x a)
 ·by_cases hkn:k=n
  ·rw [hkn];exact fun q=>q.elim hAn Y7
  ·exact fun q=>q.elim (h7 k (by omega)) (hA k (by omega))
end
section
variable {k:Wk} {n:Nat} {j:Jb}
end
section
variable {w w' w0 w1:World} {b base A:Nat} {k:Wk} {B F G:Nat→Prop}
theorem aO.nw (h:aO w b base A k B) (hn:Nw w w'):aO w' b base A k fun x=>B x∧x<w.heap.size :=
 h.frame (fun x hx _=>hn.block x hx id) (hn.block _ h.self.2.2 id) hn.size
theorem aO.said (h:aO w b base A k B):∃a c,w.cell? ⟨b,4,none⟩=some (.slice a k.said.length c):=by
 obtain ⟨aR,jv,sv,c,BR,BJ,h1,h2,h3,h4,⟨h5,h6⟩,-⟩:=h.ex
 have KU:w.cell? ⟨b,4,none⟩=some sv:=by
  unfold World.cell?
  rw [h1]
  rfl
 rcases h6 with ⟨rfl,e⟩ | ⟨g,cap,cur,rfl,-⟩
 ·exact ⟨none,0,by rw [KU,e]⟩
 ·exact ⟨_,_,KU⟩
theorem aO.setW (h:aO w b base A k B) (i:Nat) (x:Value):bC w B (w.setCell ⟨b,i,none⟩ x) :=
 ⟨rfl,rfl,rfl,by simp [World.setCell],fun y hy hn=>heap_setCell_other w ⟨b,i,none⟩ y _ fun e=>hn (e ▸ h.self.1)⟩
theorem EM (h:bC w F w') (hn:Nw w' w1):bC w F w1:=il h hn fun x hx _=>hx.elim
theorem Xm (h:bC w F w') (h1:bC w' F w1):bC w F w1:=il h h1 fun x hx _=>.inl hx
end
structure bz (w w':World) (b base A:Nat) (aP:Addr) (B BP:Nat→Prop) (k':Wk) (p':PS):Prop where
 ex:∃B' oq:Nat→Prop,fu w' aP p' oq∧aO w' b base A k' B'∧(∀x,oq x→BP x∨w.heap.size≤x)∧(∀x,B' x→B x∨w.heap.size≤x)∧(∀x,oq x→¬B' x)∧bC w (fun x=>BP x∨B x) w'
section
variable {w wa wb:World} {b base A:Nat} {k k':Wk} {aP:Addr} {p p':PS} {B BP:Nat→Prop} {cZ:Nat→Addr} {rb:Nat}
theorem bz.wk (h:bz w wa b base A aP B BP k p):∃Ba,aO wa b base A k Ba∧(∀x,Ba x→x<wa.heap.size)∧∀wb k' B',aO wb b base A k' B'→(∀x,B' x→Ba x∨wa.heap.size≤x)→bC wa Ba wb→bz w wb b base A aP B BP k' p:=by
 obtain ⟨B1,yn,h1,h2,h3,h4,h5,h6⟩:=h.ex
 refine ⟨fun x=>B1 x∧x<wa.heap.size,h2.mono fun x p q=>⟨p,q⟩,fun x hx=>hx.2,fun wb k' B' g1 g2 g3=>⟨B',fun x=>yn x∧x<wa.heap.size,?_,g1,fun x hx=>h3 x hx.1,fun x hx=>?_,fun x hx hy=>?_,il h6 g3 fun x hx _=>(h4 x hx.1).imp .inr id⟩⟩
 ·exact (h1.mono (B':=fun x=>yn x∧x<wa.heap.size) fun x p q=>⟨p,q⟩).frame fun x hx=>g3.block x hx.2 fun hy=>h5 x hx.1 hy.1
 ·rcases g2 x hx with g | g
  ·exact h4 x g.1
  ·exact .inr (Nat.le_trans h6.size g)
 ·rcases g2 x hy with g | g
  ·exact h5 x hx.1 g.1
  ·exact absurd hx.2 (Nat.not_lt.2 g)
theorem bz.cells (h:bz w wa b base A aP B BP k p):∃(aR:Nat) (jv sv:Value) (c:Nat),wa.cell? ⟨b,0,none⟩=some (.pointer (some ⟨aR,0,none⟩))∧wa.cell? ⟨b,1,none⟩=some (.slice (some ⟨A,0,none⟩) k.ops.length c)∧wa.cell? ⟨b,2,none⟩=some jv∧wa.cell? ⟨b,3,none⟩=some (.bool k.bu)∧wa.cell? ⟨b,4,none⟩=some sv∧∀i,wa.frozen? ⟨b,i,none⟩=false:=by
 obtain ⟨Ba,h1,-⟩:=h.wk
 exact h1.cells
theorem bz.said (h:bz w wa b base A aP B BP k p):∃a c,wa.cell? ⟨b,4,none⟩=some (.slice a k.said.length c):=by
 obtain ⟨Ba,h1,-⟩:=h.wk
 exact h1.said
theorem bz.lt (h:bz w wa b base A aP B BP k p):b<wa.heap.size∧A<wa.heap.size:=by
 obtain ⟨Ba,h1,-⟩:=h.wk
 exact h1.self.2
theorem bz.put (h:bz w wa b base A aP B BP k p) (i:Nat) (x:Value) (j:Option Jb) (bu:Bool) (hj:i=2→j=none∧x=.pointer none) (hi:i=3→x=.bool bu) (hj':i≠2→j=k.j) (hi':i≠3→bu=k.bu) (h23:i=2∨i=3) :
  bz w (wa.setCell ⟨b,i,none⟩ x) b base A aP B BP {k with j:=j,bu:=bu} p:=by
 obtain ⟨Ba,h1,h2,h3⟩:=h.wk
 exact h3 _ _ _ (h1.put i x j bu hj hi hj' hi' h23).2 (fun x hx=>.inl hx) (h1.setW i x)
end
structure Wx (wr wx:World) (X:Nat→Prop) (b base A:Nat) (Ba:Nat→Prop) (k:Wk):Prop where
 ex:∃B':Nat→Prop,aO wx b base A k B'∧∀x,B' x→(Ba x∨wr.heap.size≤x)∧¬X x∧x<wx.heap.size
 zS:bC wr Ba wx
 nx:∀x,X x→wr.heap.size≤x∧x<wx.heap.size
 a:A<wr.heap.size
section
variable {w wr wx w':World} {X:Nat→Prop} {b base A rb:Nat} {Ba B BP:Nat→Prop} {k k':Wk} {aP:Addr} {p:PS}
theorem Wx.alloc (h:Wx wr wx X b base A Ba k) (o:Obj):Wx wr (wx.alloc o) (fun x=>X x∨x=wx.heap.size) b base A Ba k:=by
 obtain ⟨B',h1,h2⟩:=h.ex
 have hn:Nw wx (wx.alloc o):=(bC.refl _ _).alloc o
 have hs:(wx.alloc o).heap.size=wx.heap.size+1:=by simp
 refine ⟨⟨_,h1.nw hn,fun x hx=>⟨(h2 x hx.1).1,fun q=>q.elim (h2 x hx.1).2.1 fun e=>by have:=hx.2;omega,by rw [hs];have:=hx.2;omega⟩⟩,EM h.zS hn,fun x hx=>?_,h.a⟩
 rw [hs]
 rcases hx with hx | rfl
 ·have:=h.nx x hx
  omega
 ·have:=h.zS.size
  omega
end
noncomputable def VV (P:Program) (x:Nat) (w:World) (i:Nat) (v:Value):Result Unit :=
 match w.cell? ⟨x,i,none⟩ with
 | some val=>if w.frozen? ⟨x,i,none⟩=true then Result.halt (Halt.unsupported (Unsupported.unsafePointer "a write to bytes that a string shares")) w else Result.ok () (w.setCell ⟨x,i,none⟩ v)
 | none=>match World.farStore P w ⟨x,i,none⟩ v (Mode.plain == Mode.atomic) with
  | Except.ok (w',snd)=>Result.ok () w'
  | Except.error h=>Result.halt h w
noncomputable def VX (P:Program) (x:Nat):List Value→Nat→World→Result Unit
 | [],_,w=>.ok () w
 | [v],i,w=>VV P x w i v
 | v :: u :: vs,i,w=>(VV P x w i v).andThen fun _ w'=>VX P x (u :: vs) (i+1) w'
section
variable {P:Program} {x:Nat} {ty:TypeId}
theorem Rq {w:World} {cs:Array Value} {i:Nat} {v:Value} (h:w.heap[x]?=some (.cells cs ty (0,0))) (hi:i<cs.size):VV P x w i v=.ok () (w.setCell ⟨x,i,none⟩ v)∧bC w (·=x) (w.setCell ⟨x,i,none⟩ v)∧(w.setCell ⟨x,i,none⟩ v).heap[x]?=some (.cells (cs.setIfInBounds i v) ty (0,0)):=by
 have hc:w.cell? ⟨x,i,none⟩=some cs[i]:=by
  unfold World.cell?
  rw [h]
  exact Array.getElem?_eq_getElem hi
 have hf:w.frozen? ⟨x,i,none⟩=false:=by
  unfold World.frozen?
  rw [h]
  simp
 refine ⟨?_,⟨rfl,rfl,rfl,by simp [World.setCell],fun y hy hn=>heap_setCell_other w ⟨x,i,none⟩ y _ hn⟩,heap_setCell_same w x i _ _ v h⟩
 unfold VV
 rw [hc]
 simp only
 rw [if_neg (by rw [hf];decide)]
theorem Rs:∀(vs:List Value) (i:Nat) {w:World} {cs:Array Value},w.heap[x]?=some (.cells cs ty (0,0))→i+vs.length≤cs.size →
  ∃w' cs',VX P x vs i w=.ok () w'∧bC w (·=x) w'∧w'.heap[x]?=some (.cells cs' ty (0,0))∧cs'.size=cs.size∧(∀j,j<i→cs'[j]?=cs[j]?)∧∀j,j<vs.length→cs'[i+j]?=vs[j]?
 | [],i,w,cs,h,hl=>⟨w,cs,rfl,bC.refl _ _,h,rfl,fun _ _=>rfl,fun j hj=>absurd hj (Nat.not_lt_zero _)⟩
 | [v],i,w,cs,h,hl=>by
  have hi:i<cs.size:=hl
  obtain ⟨a,b,c⟩:=Rq (P:=P) (v:=v) h hi
  refine ⟨_,_,a,b,c,by simp,fun j hj=>by simp [Array.getElem?_setIfInBounds,Nat.ne_of_gt hj],fun j hj=>?_⟩
  obtain rfl:j=0:=by simpa using hj
  simp [hi]
 | v :: u :: vs,i,w,cs,h,hl=>by
  have hl':i+(vs.length+1+1)≤cs.size:=hl
  have hi:i<cs.size:=by omega
  obtain ⟨a,b,c⟩:=Rq (P:=P) (v:=v) h hi
  obtain ⟨w',cs',d1,d2,d3,d4,d5,d6⟩:=Rs (u :: vs) (i+1) c (by simp;omega)
  refine ⟨w',cs',?_,Xm b d2,d3,by rw [d4];simp,fun j hj=>?_,fun j hj=>?_⟩
  ·unfold VX
   rw [a]
   exact d1
  ·rw [d5 j (by omega)]
   simp [Array.getElem?_setIfInBounds,Nat.ne_of_gt hj]
  ·cases j with
   | zero =>
    rw [d5 (i+0) (by omega)]
    simp [hi]
   | succ j =>
    have:=d6 j (by simpa using hj)
    rw [show i+(j+1)=i+1+j by omega,this]
    rfl
theorem xP {o:Oper} {a:Act} {K:Act→World→Prop} {Q:Exit→Act→World→Prop} {w:World} {cs:Array Value} (vs:List Value) (h:w.heap[x]?=some (.cells cs ty (0,0))) (hl:vs.length=cs.size)
  (hk:∀w',bC w (·=x) w'→w'.heap[x]?=some (.cells vs.toArray ty (0,0))→K (a.put o.dst undef) w'):Oper.upon P o a K Q ((VX P x vs 0 w).andThen fun _ w'=>.ok .skip w'):=by
 obtain ⟨w',cs',d1,d2,d3,d4,d5,d6⟩:=Rs (P:=P) vs 0 h (by omega)
 rw [d1]
 have e:cs'=vs.toArray:=by
  refine Array.ext_getElem? fun j=>?_
  rcases Nat.lt_or_ge j vs.length with hj | hj
  ·have:=d6 j hj
   rw [Nat.zero_add] at this
   rw [this]
   simp
  ·rw [Array.getElem?_eq_none (by omega),Array.getElem?_eq_none (by simpa using hj)]
 subst e
 exact hk w' d2 d3
end
theorem mr {w w':World} {b:Nat} (h:w'.heap[b]?=w.heap[b]?) (i:Nat):w'.cell? ⟨b,i,none⟩=w.cell? ⟨b,i,none⟩:=by
 unfold World.cell?
 rw [h]
def OX (c:Ca):List Value:=[.int .i64 c.kind,.int .i64 c.slot,.int .i64 c.gen,.int .i64 c.field,.int .i64 c.old.slot,.int .i64 c.old.gen,.int .i64 c.old.tag,.int .i64 c.old.num,.bool c.old.mark,.int .i64 c.new.slot,.int .i64 c.new.gen,.int .i64 c.new.tag,.int .i64 c.new.num,.bool c.new.mark,.int .i64 c.i,.int .i64 c.j,.int .i64 c.code,.int .i64 c.val]
theorem UE {w:World} {x:Nat} {c:Ca} (h:w.heap[x]?=some (.cells (OX c).toArray 83 (0,0))):(w.cell? ⟨x,0,none⟩=some (.int .i64 c.kind)∧w.cell? ⟨x,1,none⟩=some (.int .i64 c.slot)∧w.cell? ⟨x,2,none⟩=some (.int .i64 c.gen)∧w.cell? ⟨x,3,none⟩=some (.int .i64 c.field)∧w.cell? ⟨x,4,none⟩=some (.int .i64 c.old.slot)∧w.cell? ⟨x,5,none⟩=some (.int .i64 c.old.gen)∧w.cell? ⟨x,6,none⟩=some (.int .i64 c.old.tag)∧w.cell? ⟨x,7,none⟩=some (.int .i64 c.old.num)∧w.cell? ⟨x,8,none⟩=some (.bool c.old.mark)) ∧
  (w.cell? ⟨x,9,none⟩=some (.int .i64 c.new.slot)∧w.cell? ⟨x,10,none⟩=some (.int .i64 c.new.gen)∧w.cell? ⟨x,11,none⟩=some (.int .i64 c.new.tag)∧w.cell? ⟨x,12,none⟩=some (.int .i64 c.new.num)∧w.cell? ⟨x,13,none⟩=some (.bool c.new.mark)∧w.cell? ⟨x,14,none⟩=some (.int .i64 c.i)∧w.cell? ⟨x,15,none⟩=some (.int .i64 c.j)∧w.cell? ⟨x,16,none⟩=some (.int .i64 c.code)∧w.cell? ⟨x,17,none⟩=some (.int .i64 c.val)):=by
 have hc:∀i,w.cell? ⟨x,i,none⟩=(OX c).toArray[i]?:=fun i=>by
  unfold World.cell?
  rw [h]
  rfl
 simp only [hc]
 exact ⟨⟨rfl,rfl,rfl,rfl,rfl,rfl,rfl,rfl,rfl⟩,rfl,rfl,rfl,rfl,rfl,rfl,rfl,rfl,rfl⟩
theorem EN {P:Program} {ops:Array Oper} {o:Oper} {a:Act} {w:World} {K:Act→World→Prop} {Q:Exit→Act→World→Prop} {E:Prop} (hgd:o.guard=none) (s x:Operand) (t:TypeId)
  (ho:o.op=.call {callee:=.builtin .append,args:=#[s,x],argTypes:=#[t,t]})
  (base:Nat) (e:TypeId) (i:TypeInfo) (z:Value) (size bytes:Nat) (ht:P.underlying t=some (.slice e)) (hi:P.info? e=some i) (hz:i.zero=some z)
  (hsize:i.size=size) (hby:i.bytes=bytes) (hzs:z.cells.size=size) (hsz:0<size)
  (v:Value) (n:Nat) (xs:List Value) (hs:a.eval s=v) (hown:w.ownsRow base e size v n xs)
  (ad:Addr) (m c:Nat) (news:List Value) (hx:a.eval x=.slice (some ad) m c) (hl:news.length=m * size) (hnews:∀j u,news[j]?=some u→w.cell? (ad.add j)=some u) (h1:∀u∈news,u.oneCell'=true)
  (h63:n+m≤maxLen) (hbytes:(n+m) * bytes≤140737488355328) (hbase:base≤w.heap.size)
  (h:∀v' w',w'.ownsRow base e size v' (n+m) (xs ++ news)→w.grownBy w' v.ownBlock→(v'.ownBlock=v.ownBlock∨v'.ownBlock=some w.heap.size)→K (a.put o.dst v') w') :
  if Region.wanted o (yielded ops a.tmps)=true then Oper.wp P o a w K Q else E:=by
 have hw:Region.wanted o (yielded ops a.tmps)=true:=by simp [Region.wanted,hgd]
 rw [if_pos hw]
 obtain ⟨v',w',hr,h2,h3,h4,h5⟩:=run_append_own_at (P:=P) w base t o.type e i z size bytes ht hi hz hsize hby hzs hsz v n xs hown ad m c news hl hnews h1 h63 hbytes hbase
 unfold Oper.wp execOp
 simp only [ho,resolve,invoke,builtin,Sem.run_bind,Sem.run_pure,Result.andThen_ok,List.map_toArray,List.map_cons,List.map_nil,hs,hx,hr]
 exact h v' w' h2 h3 h5
theorem Hz {w:World} {base n size:Nat} {e:TypeId} {v:Value} {xs:List Value} (h:w.ownsRow base e size v (n+1) xs):∃g c,v=.slice (some ⟨g,0,none⟩) (n+1) c:=by
 obtain ⟨-,⟨-,h⟩ | ⟨g,cap,cur,h,-⟩⟩:=h
 ·cases h
 ·exact ⟨g,cap,h⟩
theorem Xn (w:World) (x y:Value) (t:TypeId):∀j u,[x,y][j]?=some u→((w.alloc (.cells #[x,y] t)).drew).cell? ((⟨w.heap.size,0,none⟩:Addr).add j)=some u:=by
 intro j u hj
 match j,hj with
 | 0,hj =>
  simp at hj
  subst hj
  simp [Addr.add]
 | 1,hj =>
  simp at hj
  subst hj
  simp [Addr.add]
 | j+2,hj=>simp at hj
theorem Xo (x y:Int):∀u∈[Value.int .i64 x,.int .i64 y],u.oneCell'=true:=by
 intro u hu
 simp at hu
 rcases hu with rfl | rfl <;> rfl
end Go.Proofs.YthomdlajobnmnaaGreatDoor
