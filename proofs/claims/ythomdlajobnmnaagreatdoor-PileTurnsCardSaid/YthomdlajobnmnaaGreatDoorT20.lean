/- part 20 of the proof -/
import Derived.Tactics
import Derived.Maps.AppendAt
import Derived.Deep.RegionLaw
import Derived.Test.YthomdlajobnmnaaGreatDoorT18
import Derived.Test.YthomdlajobnmnaaGreatDoorT19
set_option linter.unusedSimpArgs false
set_option linter.unusedVariables false
namespace Go.Proofs.YthomdlajobnmnaaGreatDoor
open Go.RowKit Go.Rex
structure mX (w:World) (A:Nat) (l:List Op):Prop where
 ex:∀(i:Nat) (o:Op),l[i]?=some o→w.cell? ⟨A,4 * i,none⟩=some (.int .i64 o.kind)∧w.cell? ⟨A,4 * i+1,none⟩=some (.int .i64 o.key)∧w.cell? ⟨A,4 * i+2,none⟩=some (.int .i64 o.val)∧w.cell? ⟨A,4 * i+3,none⟩=some (.int .i64 o.Fz)
def Kk (w:World) (v:Value) (j:Option Jb) (B:Nat→Prop):Prop :=
 match j with
 | none=>v=.pointer none
 | some x=>∃a,v=.pointer (some a)∧oH w a x B
def jU (l:List (Int × Int)):List Value:=l.flatMap fun x=>[.int .i64 x.1,.int .i64 x.2]
structure bF (w:World) (b base A:Nat) (k:Wk) (B:Nat→Prop):Prop where
 ex:∃(aR:Nat) (jv sv:Value) (c:Nat) (BR BJ:Nat→Prop),
  w.heap[b]?=some (.cells #[.pointer (some ⟨aR,0,none⟩),.slice (some ⟨A,0,none⟩) k.ops.length c,jv,.bool k.bV,sv] 44 (0,0)) ∧
  kH w ⟨aR,0,none⟩ k.r BR∧Kk w jv k.j BJ∧mX w A k.ops∧w.ownsRow base 39 2 sv k.said.length (jU k.said) ∧
  (¬BR b∧¬BJ b∧∀x,BR x→¬BJ x)∧(sv.ownBlock≠some b∧∀x,BR x∨BJ x→sv.ownBlock≠some x) ∧
  (A≠b∧¬BR A∧¬BJ A∧sv.ownBlock≠some A∧A<w.heap.size)∧∀x,x=b∨BR x∨BJ x∨sv.ownBlock=some x→B x
section
variable {w w':World} {b base A:Nat} {k:Wk} {B:Nat→Prop}
theorem bF.cells (h:bF w b base A k B):∃(aR:Nat) (jv sv:Value) (c:Nat),w.cell? ⟨b,0,none⟩=some (.pointer (some ⟨aR,0,none⟩))∧w.cell? ⟨b,1,none⟩=some (.slice (some ⟨A,0,none⟩) k.ops.length c)∧w.cell? ⟨b,2,none⟩=some jv∧w.cell? ⟨b,3,none⟩=some (.bool k.bV)∧w.cell? ⟨b,4,none⟩=some sv∧∀i,w.frozen? ⟨b,i,none⟩=false:=by
 obtain ⟨aR,jv,sv,c,BR,BJ,h1,-⟩:=h.ex
 refine ⟨aR,jv,sv,c,?_,?_,?_,?_,?_,fun i=>?_⟩
 all_goals
  first
   | unfold World.cell?
   | unfold World.frozen?
  rw [h1]
  first
   | rfl
   | simp
theorem mX.frame {l:List Op} (h:mX w A l) (hk:w'.heap[A]?=w.heap[A]?):mX w' A l:=⟨fun i o hi=>by
  have:=h.ex i o hi
  unfold World.cell? at *
  rw [hk]
  exact this⟩
theorem Kk.frame {v:Value} {j:Option Jb} {BJ:Nat→Prop} (h:Kk w v j BJ) (hk:∀x,x<w.heap.size→BJ x→w'.heap[x]?=w.heap[x]?):Kk w' v j BJ:=by
 cases j with
 | none=>exact h
 | some x =>
  obtain ⟨a,e,hJ⟩:=h
  have:=(hJ.mono (B':=fun x=>BJ x∧x<w.heap.size) fun b p q=>⟨p,q⟩).frame fun b hb=>hk b hb.2 hb.1
  exact ⟨a,e,this.mono fun b p _=>p.1⟩
theorem iH {v:Value} {n:Nat} {e:TypeId} {size:Nat} {xs:List Value} (h:w.ownsRow base e size v n xs) (hk:∀x,x<w.heap.size→v.ownBlock=some x→w'.heap[x]?=w.heap[x]?):w'.ownsRow base e size v n xs:=by
 obtain ⟨h1,h2 | ⟨g,cap,cur,h2,h3,h4,h5⟩⟩:=h
 ·exact ⟨h1,.inl h2⟩
 ·refine ⟨h1,.inr ⟨g,cap,cur,h2,h3,?_,h5⟩⟩
  rw [hk g ?_ (by rw [h2];rfl)]
  ·exact h4
  ·rcases Nat.lt_or_ge g w.heap.size with h | h
   ·exact h
   ·rw [Array.getElem?_eq_none h] at h4;cases h4
theorem Ej {v:Value} {n:Nat} {e:TypeId} {size:Nat} {xs:List Value} {x:Nat} (h:w.ownsRow base e size v n xs) (hx:v.ownBlock=some x):x<w.heap.size:=by
 obtain ⟨h1,⟨rfl,-⟩ | ⟨g,cap,cur,rfl,h3,h4,h5⟩⟩:=h
 ·cases hx
 ·obtain rfl:g=x:=Option.some.inj hx
  rcases Nat.lt_or_ge g w.heap.size with h | h
  ·exact h
  ·rw [Array.getElem?_eq_none h] at h4;cases h4
theorem bF.rt (h:bF w b base A k B):∃(aR:Nat) (BR:Nat→Prop),w.cell? ⟨b,0,none⟩=some (.pointer (some ⟨aR,0,none⟩))∧kH w ⟨aR,0,none⟩ k.r BR∧(∀x,BR x→(B x∧x<w.heap.size)∧x≠b) ∧
  ∀w' r' Vt,kH w' ⟨aR,0,none⟩ r' Vt→(∀x,Vt x→w.heap.size≤x∨BR x)→bU w BR w'→bF w' b base A {k with r:=r'} fun x=>B x∨w.heap.size≤x:=by
 obtain ⟨aR,jv,sv,c,BR,BJ,h1,h2,h3,h4,h5,⟨d1,d2,d3⟩,⟨e1,e2⟩,⟨f1,f2,f3,f4,f5⟩,hB⟩:=h.ex
 have hb:b<w.heap.size:=by
  rcases Nat.lt_or_ge b w.heap.size with h | h
  ·exact h
  ·rw [Array.getElem?_eq_none h] at h1;cases h1
 refine ⟨aR,fun x=>BR x∧x<w.heap.size,by unfold World.cell?;rw [h1];rfl,h2.mono fun x p q=>⟨p,q⟩,fun x hx=>⟨⟨hB x (.inr (.inl hx.1)),hx.2⟩,fun e=>d1 (e ▸ hx.1)⟩,fun w' r' Vt g1 g2 g3=>⟨aR,jv,sv,c,Vt,fun x=>BJ x∧x<w.heap.size,?_,g1,?_,?_,?_,⟨?_,?_,?_⟩,⟨e1,?_⟩,⟨f1,?_,?_,f4,?_⟩,?_⟩⟩
 ·rw [g3.block b hb fun x=>d1 x.1];exact h1
 ·have:=h3.frame (w':=w') fun x hx hJ=>g3.block x hx fun y=>d3 x y.1 hJ
  cases hj:k.j with
  | none=>rw [hj] at this;exact this
  | some x =>
   rw [hj] at this h3
   obtain ⟨a,e,hJ⟩:=h3
   have hJ':=(hJ.mono (B':=fun x=>BJ x∧x<w.heap.size) fun b p q=>⟨p,q⟩).frame (w':=w') fun b hb=>g3.block b hb.2 fun y=>d3 b y.1 hb.1
   exact ⟨a,e,hJ'⟩
 ·exact h4.frame (g3.block A f5 fun x=>f2 x.1)
 ·exact iH h5 fun x hx ho=>g3.block x hx fun y=>e2 x (.inl y.1) ho
 ·exact fun x=>(g2 b x).elim (fun y=>absurd hb (Nat.not_lt.2 y)) fun y=>d1 y.1
 ·exact fun x=>d2 x.1
 ·exact fun x hx hJ=>(g2 x hx).elim (fun y=>absurd hJ.2 (Nat.not_lt.2 y)) fun y=>d3 x y.1 hJ.1
 ·rintro x (hx | hx) ho
  ·exact (g2 x hx).elim (fun y=>absurd (Ej h5 ho) (Nat.not_lt.2 y)) fun y=>e2 x (.inl y.1) ho
  ·exact e2 x (.inr hx.1) ho
 ·exact fun x=>(g2 A x).elim (fun y=>absurd f5 (Nat.not_lt.2 y)) fun y=>f2 y.1
 ·exact fun x=>f3 x.1
 ·exact Nat.lt_of_lt_of_le f5 g3.size
 ·rintro x (hx | hx | hx | hx)
  ·exact .inl (hB x (.inl hx))
  ·exact (g2 x hx).elim .inr fun y=>.inl (hB x (.inr (.inl y.1)))
  ·exact .inl (hB x (.inr (.inr (.inl hx.1))))
  ·exact .inl (hB x (.inr (.inr (.inr hx))))
theorem bF.put (h:bF w b base A k B) (i:Nat) (x:Value) (j:Option Jb) (bV:Bool) (hj:i=2→j=none∧x=.pointer none) (hi:i=3→x=.bool bV) (hj':i≠2→j=k.j) (hi':i≠3→bV=k.bV) (h23:i=2∨i=3) :
  (w.frozen? ⟨b,i,none⟩=false)∧bF (w.setCell ⟨b,i,none⟩ x) b base A {k with j:=j,bV:=bV} B:=by
 obtain ⟨aR,jv,sv,c,BR,BJ,h1,h2,h3,h4,h5,⟨d1,d2,d3⟩,⟨e1,e2⟩,⟨f1,f2,f3,f4,f5⟩,hB⟩:=h.ex
 have hother:∀y,y≠b→(w.setCell ⟨b,i,none⟩ x).heap[y]?=w.heap[y]?:=fun y hy=>heap_setCell_other w ⟨b,i,none⟩ y _ hy
 have hsame:=heap_setCell_same w b i _ _ x h1
 have hsz:(w.setCell ⟨b,i,none⟩ x).heap.size=w.heap.size:=by simp [World.setCell]
 have hR:=h2.frame (w':=w.setCell ⟨b,i,none⟩ x) fun y hy=>hother y fun e=>d1 (e ▸ hy)
 have hO:=h4.frame (w':=w.setCell ⟨b,i,none⟩ x) (hother A f1)
 have hS:=iH (w':=w.setCell ⟨b,i,none⟩ x) h5 fun y _ ho=>hother y fun e=>e1 (e ▸ ho)
 refine ⟨by unfold World.frozen?;rw [h1];rfl,?_⟩
 rcases h23 with rfl | rfl
 ·obtain ⟨rfl,rfl⟩:=hj rfl
  obtain rfl:=hi' (by decide)
  exact ⟨aR,.pointer none,sv,c,BR,BJ,hsame,hR,rfl,hO,hS,⟨d1,d2,d3⟩,⟨e1,e2⟩,⟨f1,f2,f3,f4,by rw [hsz];exact f5⟩,hB⟩
 ·obtain rfl:=hi rfl
  obtain rfl:=hj' (by decide)
  exact ⟨aR,jv,sv,c,BR,BJ,hsame,hR,h3.frame fun y _ hy=>hother y fun e=>d2 (e ▸ hy),hO,hS,⟨d1,d2,d3⟩,⟨e1,e2⟩,⟨f1,f2,f3,f4,by rw [hsz];exact f5⟩,hB⟩
theorem bF.TP (h:bF w b base A k B) (hn:Nw w w') {aJ:Addr} {j:Jb} {GQ:Nat→Prop} (hJ:oH w' aJ j GQ) (hf:∀x,GQ x→w.heap.size≤x) :
  w'.frozen? ⟨b,2,none⟩=false∧bF (w'.setCell ⟨b,2,none⟩ (.pointer (some aJ))) b base A {k with j:=some j} fun x=>B x∨w.heap.size≤x:=by
 obtain ⟨aR,jv,sv,c,BR,BJ,h1,h2,h3,h4,h5,⟨d1,d2,d3⟩,⟨e1,e2⟩,⟨f1,f2,f3,f4,f5⟩,hB⟩:=h.ex
 have hb:b<w.heap.size:=by
  rcases Nat.lt_or_ge b w.heap.size with h | h
  ·exact h
  ·rw [Array.getElem?_eq_none h] at h1;cases h1
 have h1':w'.heap[b]?=_:=(hn.block b hb id).trans h1
 have hother:∀y,y≠b→(w'.setCell ⟨b,2,none⟩ (.pointer (some aJ))).heap[y]?=w'.heap[y]?:=fun y hy=>heap_setCell_other w' ⟨b,2,none⟩ y _ hy
 have hsame:=heap_setCell_same w' b 2 _ _ (.pointer (some aJ)) h1'
 have hsz:(w'.setCell ⟨b,2,none⟩ (.pointer (some aJ))).heap.size=w'.heap.size:=by simp [World.setCell]
 have hR:=((h2.mono (B':=fun x=>BR x∧x<w.heap.size) fun x p q=>⟨p,q⟩).frame (w':=w') fun y hy=>hn.block y hy.2 id).frame (w':=w'.setCell ⟨b,2,none⟩ (.pointer (some aJ))) fun y hy=>hother y fun e=>d1 (e ▸ hy.1)
 have hO:=(h4.frame (w':=w') (hn.block A f5 id)).frame (w':=w'.setCell ⟨b,2,none⟩ (.pointer (some aJ))) (hother A f1)
 have hS:=iH (w':=w'.setCell ⟨b,2,none⟩ (.pointer (some aJ))) (iH (w':=w') h5 fun y hy ho=>hn.block y hy id) fun y _ ho=>hother y fun e=>e1 (e ▸ ho)
 have hJ':=hJ.frame (w':=w'.setCell ⟨b,2,none⟩ (.pointer (some aJ))) fun y hy=>hother y fun e=>absurd (hf y hy) (Nat.not_le.2 (e ▸ hb))
 refine ⟨by unfold World.frozen?;rw [h1'];rfl,aR,.pointer (some aJ),sv,c,fun x=>BR x∧x<w.heap.size,GQ,hsame,hR,⟨aJ,rfl,hJ'⟩,hO,hS,⟨fun x=>d1 x.1,fun x=>absurd (hf b x) (Nat.not_le.2 hb),fun x hx y=>absurd (hf x y) (Nat.not_le.2 hx.2)⟩,⟨e1,?_⟩,⟨f1,fun x=>f2 x.1,fun x=>absurd (hf A x) (Nat.not_le.2 f5),f4,by rw [hsz];exact Nat.lt_of_lt_of_le f5 hn.size⟩,?_⟩
 ·rintro x (hx | hx) ho
  ·exact e2 x (.inl hx.1) ho
  ·exact absurd (Ej h5 ho) (Nat.not_lt.2 (hf x hx))
 ·rintro x (hx | hx | hx | hx)
  ·exact .inl (hB x (.inl hx))
  ·exact .inl (hB x (.inr (.inl hx.1)))
  ·exact .inr (hf x hx)
  ·exact .inl (hB x (.inr (.inr (.inr hx))))
theorem bF.jb (h:bF w b base A k B) {j:Jb} (hj:k.j=some j):∃(aJ:Addr) (BJ:Nat→Prop),w.cell? ⟨b,2,none⟩=some (.pointer (some aJ))∧oH w aJ j BJ∧(∀x,BJ x→(B x∧x<w.heap.size)∧x≠b) ∧
  ∀w' j' GQ,oH w' aJ j' GQ→(∀x,GQ x→w.heap.size≤x∨BJ x)→bU w BJ w'→bF w' b base A {k with j:=some j'} fun x=>B x∨w.heap.size≤x:=by
 obtain ⟨aR,jv,sv,c,BR,BJ,h1,h2,h3,h4,h5,⟨d1,d2,d3⟩,⟨e1,e2⟩,⟨f1,f2,f3,f4,f5⟩,hB⟩:=h.ex
 have hb:b<w.heap.size:=by
  rcases Nat.lt_or_ge b w.heap.size with h | h
  ·exact h
  ·rw [Array.getElem?_eq_none h] at h1;cases h1
 rw [hj] at h3
 obtain ⟨aJ,rfl,hJ⟩:=h3
 refine ⟨aJ,fun x=>BJ x∧x<w.heap.size,by unfold World.cell?;rw [h1];rfl,hJ.mono fun x p q=>⟨p,q⟩,fun x hx=>⟨⟨hB x (.inr (.inr (.inl hx.1))),hx.2⟩,fun e=>d2 (e ▸ hx.1)⟩,fun w' j' GQ g1 g2 g3=>⟨aR,_,sv,c,fun x=>BR x∧x<w.heap.size,GQ,?_,?_,⟨aJ,rfl,g1⟩,?_,?_,⟨?_,?_,?_⟩,⟨e1,?_⟩,⟨f1,?_,?_,f4,?_⟩,?_⟩⟩
 ·rw [g3.block b hb fun x=>d2 x.1];exact h1
 ·exact (h2.mono (B':=fun x=>BR x∧x<w.heap.size) fun x p q=>⟨p,q⟩).frame fun y hy=>g3.block y hy.2 fun z=>d3 y hy.1 z.1
 ·exact h4.frame (g3.block A f5 fun x=>f3 x.1)
 ·exact iH h5 fun x hx ho=>g3.block x hx fun y=>e2 x (.inr y.1) ho
 ·exact fun x=>d1 x.1
 ·exact fun x=>(g2 b x).elim (fun y=>absurd hb (Nat.not_lt.2 y)) fun y=>d2 y.1
 ·exact fun x hx hJ=>(g2 x hJ).elim (fun y=>absurd hx.2 (Nat.not_lt.2 y)) fun y=>d3 x hx.1 y.1
 ·rintro x (hx | hx) ho
  ·exact e2 x (.inl hx.1) ho
  ·exact (g2 x hx).elim (fun y=>absurd (Ej h5 ho) (Nat.not_lt.2 y)) fun y=>e2 x (.inr y.1) ho
 ·exact fun x=>f2 x.1
 ·exact fun x=>(g2 A x).elim (fun y=>absurd f5 (Nat.not_lt.2 y)) fun y=>f3 y.1
 ·exact Nat.lt_of_lt_of_le f5 g3.size
 ·rintro x (hx | hx | hx | hx)
  ·exact .inl (hB x (.inl hx))
  ·exact .inl (hB x (.inr (.inl hx.1)))
  ·exact (g2 x hx).elim .inr fun y=>.inl (hB x (.inr (.inr (.inl y.1))))
  ·exact .inl (hB x (.inr (.inr (.inr hx))))
end
section
variable {w w':World} {b base A:Nat} {k:Wk} {B:Nat→Prop}
theorem bF.Kl (h:bF w b base A k B):∃sv:Value,w.cell? ⟨b,4,none⟩=some sv∧w.ownsRow base 39 2 sv k.said.length (jU k.said) ∧
  ∀w1 w2 v' (x:Int × Int),Nw w w1→w1.grownBy w2 sv.ownBlock→w2.ownsRow base 39 2 v' (k.said.length+1) (jU k.said ++ [.int .i64 x.1,.int .i64 x.2])→(v'.ownBlock=sv.ownBlock∨v'.ownBlock=some w1.heap.size) →
   w2.frozen? ⟨b,4,none⟩=false∧w2.cell? ⟨b,4,none⟩=some sv∧bF (w2.setCell ⟨b,4,none⟩ v') b base A {k with said:=k.said ++ [x]} fun y=>B y∨w.heap.size≤y:=by
 obtain ⟨aR,jv,sv,c,BR,BJ,h1,h2,h3,h4,h5,⟨d1,d2,d3⟩,⟨e1,e2⟩,⟨f1,f2,f3,f4,f5⟩,hB⟩:=h.ex
 have hb:b<w.heap.size:=by
  rcases Nat.lt_or_ge b w.heap.size with h | h
  ·exact h
  ·rw [Array.getElem?_eq_none h] at h1;cases h1
 refine ⟨sv,by unfold World.cell?;rw [h1];rfl,h5,fun w1 w2 v' x hn hg ho hv=>?_⟩
 have old:∀y,y<w.heap.size→sv.ownBlock≠some y→w2.heap[y]?=w.heap[y]?:=fun y hy hne=>(hg.block y (Nat.lt_of_lt_of_le hy hn.size) fun e=>hne e.symm).trans (hn.block y hy id)
 have h1':w2.heap[b]?=_:=(old b hb e1).trans h1
 have hother:∀y,y≠b→(w2.setCell ⟨b,4,none⟩ v').heap[y]?=w2.heap[y]?:=fun y hy=>heap_setCell_other w2 ⟨b,4,none⟩ y _ hy
 have hsame:=heap_setCell_same w2 b 4 _ _ v' h1'
 have hsz:(w2.setCell ⟨b,4,none⟩ v').heap.size=w2.heap.size:=by simp [World.setCell]
 have hv':∀y,v'.ownBlock=some y→sv.ownBlock=some y∨w.heap.size≤y:=fun y hy=>by
  rcases hv with e | e
  ·exact .inl (e ▸ hy)
  ·rw [e] at hy
   cases hy
   exact .inr hn.size
 have hvb:v'.ownBlock≠some b:=fun e=>(hv' b e).elim e1 fun y=>absurd hb (Nat.not_lt.2 y)
 have hR:=((h2.mono (B':=fun x=>BR x∧x<w.heap.size) fun x p q=>⟨p,q⟩).frame (w':=w2) fun y hy=>old y hy.2 (e2 y (.inl hy.1))).frame (w':=w2.setCell ⟨b,4,none⟩ v') fun y hy=>hother y fun e=>d1 (e ▸ hy.1)
 have hO:=(h4.frame (w':=w2) (old A f5 f4)).frame (w':=w2.setCell ⟨b,4,none⟩ v') (hother A f1)
 have hS:=iH (w':=w2.setCell ⟨b,4,none⟩ v') ho fun y _ hy=>hother y fun e=>hvb (e ▸ hy)
 have hJ:Kk (w2.setCell ⟨b,4,none⟩ v') jv k.j fun x=>BJ x∧x<w.heap.size:=by
  cases hj:k.j with
  | none=>rw [hj] at h3;exact h3
  | some z =>
   rw [hj] at h3
   obtain ⟨a,e,hJ⟩:=h3
   exact ⟨a,e,((hJ.mono (B':=fun x=>BJ x∧x<w.heap.size) fun x p q=>⟨p,q⟩).frame (w':=w2) fun y hy=>old y hy.2 (e2 y (.inr hy.1))).frame fun y hy=>hother y fun e=>d2 (e ▸ hy.1)⟩
 have hlen:jU (k.said ++ [x])=jU k.said ++ [.int .i64 x.1,.int .i64 x.2]:=by simp [jU]
 refine ⟨by unfold World.frozen?;rw [h1'];rfl,by unfold World.cell?;rw [h1'];rfl,aR,jv,v',c,fun x=>BR x∧x<w.heap.size,fun x=>BJ x∧x<w.heap.size,hsame,hR,hJ,hO,?_,⟨fun x=>d1 x.1,fun x=>d2 x.1,fun x hx y=>d3 x hx.1 y.1⟩,⟨hvb,?_⟩,⟨f1,fun x=>f2 x.1,fun x=>f3 x.1,?_,?_⟩,?_⟩
 ·show World.ownsRow _ base 39 2 v' (k.said ++ [x]).length (jU (k.said ++ [x]))
  rw [hlen,List.length_append,List.length_singleton]
  exact hS
 ·rintro y (hy | hy) ho
  ·exact (hv' y ho).elim (e2 y (.inl hy.1)) fun z=>absurd hy.2 (Nat.not_lt.2 z)
  ·exact (hv' y ho).elim (e2 y (.inr hy.1)) fun z=>absurd hy.2 (Nat.not_lt.2 z)
 ·exact fun e=>(hv' A e).elim f4 fun y=>absurd f5 (Nat.not_lt.2 y)
 ·rw [hsz]
  exact Nat.lt_of_lt_of_le f5 (Nat.le_trans hn.size hg.size)
 ·rintro y (hy | hy | hy | hy)
  ·exact .inl (hB y (.inl hy))
  ·exact .inl (hB y (.inr (.inl hy.1)))
  ·exact .inl (hB y (.inr (.inr (.inl hy.1))))
  ·exact (hv' y hy).elim (fun z=>.inl (hB y (.inr (.inr (.inr z))))) .inr
end
theorem bF.bT {w:World} {b base A:Nat} {k:Wk} {B:Nat→Prop} (hW:bF w b base A k B) :
  ∃rb,w.cell? ⟨b,0,none⟩=some (.pointer (some ⟨rb,0,none⟩))∧Calls Tryz.prog 38 #[.pointer (some ⟨rb,0,none⟩)] w fun e w'=>e=.returned (iX k.r.bT)∧bF w' b base A k (fun x=>B x∨w.heap.size≤x)∧bU w B w'∧w'.heap[b]?=w.heap[b]?:=by
 obtain ⟨aR,BR,hcell,hR,GR,hnew⟩:=hW.rt
 refine ⟨aR,hcell,(TH hR).mono ?_⟩
 rintro e w' ⟨rfl,B',g1,g2,g3⟩
 exact ⟨rfl,hnew w' _ B' g1 g2 g3,⟨g3.os,g3.tape,g3.output,g3.size,fun x hx hn=>g3.block x hx fun h=>hn (GR x h).1.1⟩,g3.block b (World.block_lt_of_cell? _ _ hcell) fun h=>(GR b h).2 rfl⟩
theorem bF.Zf {w:World} {b base A:Nat} {k:Wk} {B:Nat→Prop} (hW:bF w b base A k B) (h0:k.r.step≠0) :
  ∃rb,w.cell? ⟨b,0,none⟩=some (.pointer (some ⟨rb,0,none⟩))∧Calls Tryz.prog 39 #[.pointer (some ⟨rb,0,none⟩)] w fun e w'=>e=.returned (.tuple #[oD k.r.acc,.bool true])∧bF w' b base A k (fun x=>B x∨w.heap.size≤x)∧bU w B w':=by
 obtain ⟨aR,BR,hcell,hR,GR,hnew⟩:=hW.rt
 refine ⟨aR,hcell,(WE hR h0).mono ?_⟩
 rintro e w' ⟨rfl,B',g1,g2,g3⟩
 exact ⟨rfl,hnew w' _ B' g1 g2 g3,g3.os,g3.tape,g3.output,g3.size,fun x hx hn=>g3.block x hx fun h=>hn (GR x h).1.1⟩
theorem bF.Zg {w:World} {b base A:Nat} {k:Wk} {B:Nat→Prop} {x:Rp} (hW:bF w b base A k B) (hk:oF k.r x) :
  ∃rb,w.cell? ⟨b,0,none⟩=some (.pointer (some ⟨rb,0,none⟩))∧Calls Tryz.prog 40 #[.pointer (some ⟨rb,0,none⟩),iX x] w fun e w'=>e=.returned .nilIface∧bF w' b base A {k with r:=(k.r.bL x).1} (fun x=>B x∨w.heap.size≤x)∧bU w B w':=by
 obtain ⟨aR,BR,hcell,hR,GR,hnew⟩:=hW.rt
 refine ⟨aR,hcell,(WC hR hk).mono ?_⟩
 rintro e w' ⟨rfl,B',g1,g2,g3⟩
 exact ⟨rfl,hnew w' _ B' g1 g2 g3,g3.os,g3.tape,g3.output,g3.size,fun x hx hn=>g3.block x hx fun h=>hn (GR x h).1.1⟩
theorem bF.Zh {w:World} {b base A:Nat} {k:Wk} {B:Nat→Prop} {j:Jb} {x:Rp} (hW:bF w b base A k B) (hj:k.j=some j) (ht:-1000000000000≤j.top.tag∧j.top.tag≤1000000000000) :
  ∃aJ,w.cell? ⟨b,2,none⟩=some (.pointer (some aJ))∧Calls Tryz.prog 30 #[.pointer (some aJ),iX x] w fun e w'=>e=.returned (pU (j.next x).2)∧bF w' b base A {k with j:=some (j.next x).1} (fun x=>B x∨w.heap.size≤x)∧bU w B w'∧w'.heap[b]?=w.heap[b]?:=by
 obtain ⟨aJ,BJ,hcell,hJ,QY,hnew⟩:=hW.jb hj
 refine ⟨aJ,hcell,(WI hJ ht).mono ?_⟩
 rintro e w' ⟨rfl,B',g1,g2,g3⟩
 exact ⟨rfl,hnew w' _ B' g1 g2 g3,⟨g3.os,g3.tape,g3.output,g3.size,fun x hx hn=>g3.block x hx fun h=>hn (QY x h).1.1⟩,g3.block b (World.block_lt_of_cell? _ _ hcell) fun h=>(QY b h).2 rfl⟩
structure Ai (I:Nat→Wk→Prop):Prop where
 rt:∀n k,I n k→sH k.r
 len:∀n k,I n k→k.ops.length≤100
 leave:∀n k,I (n+1) k→k.r.step=0→k.j=none→k.bV=true→(k.r.begin (Ca.of 2)).2=true∧I n {k with bV:=false,r:=(k.r.begin (Ca.of 2)).1}
 start:∀n k,I (n+1) k→k.r.step=0→k.j=none→k.bV=false→k.said.length<k.ops.length→(k.ops.getD k.said.length ⟨0,0,0,0⟩).dF∧(k.r.begin (Ca.of 1)).2=true∧I n {k with j:=some (Jb.new (k.ops.getD k.said.length ⟨0,0,0,0⟩)),bV:=true,r:=(k.r.begin (Ca.of 1)).1}
 next:∀n k j,I (n+1) k→k.r.step=0→k.j=some j→(-1000000000000≤j.top.tag∧j.top.tag≤1000000000000) ∧
  (((j.next k.r.bT).2.kind=12∧k.said.length<k.ops.length∧I n {k with said:=k.said ++ [((j.next k.r.bT).2.code,(j.next k.r.bT).2.val)],j:=none}) ∨
   ((j.next k.r.bT).2.kind≠12∧(j.next k.r.bT).2.OK∧(k.r.begin (j.next k.r.bT).2).2=true∧I n {k with j:=some (j.next k.r.bT).1,r:=(k.r.begin (j.next k.r.bT).2).1}))
section
variable {w w0 w1:World} {b base A n:Nat} {k k0:Wk} {B B0 B1 F G:Nat→Prop} {I:Nat→Wk→Prop}
theorem pq (h:bU w0 F w) (h1:bU w G w1) (hG:∀x,G x→x<w.heap.size→F x∨w0.heap.size≤x):bU w0 F w1 :=
 ⟨h1.os.trans h.os,h1.tape.trans h.tape,h1.output.trans h.output,Nat.le_trans h.size h1.size,fun k hk hn=>(h1.block k (Nat.lt_of_lt_of_le hk h.size) fun h'=>(hG k h' (Nat.lt_of_lt_of_le hk h.size)).elim hn fun z=>absurd hk (Nat.not_lt.2 z)).trans (h.block k hk hn)⟩
theorem bF.Yz (hW:bF w b base A k B) (hk:sH k.r) (h0:k.r.step=0) {c:Ca} (hc:c.OK) :
  ∃rb,w.cell? ⟨b,0,none⟩=some (.pointer (some ⟨rb,0,none⟩))∧Calls Tryz.prog 37 #[.pointer (some ⟨rb,0,none⟩),pU c] w fun e w'=>e=.returned .nilIface∧bF w' b base A {k with r:=(k.r.begin c).1} (fun x=>B x∨w.heap.size≤x)∧bU w B w':=by
 obtain ⟨aR,BR,hcell,hR,GR,hnew⟩:=hW.rt
 refine ⟨aR,hcell,(TG hR hk h0 hc).mono ?_⟩
 rintro e w' ⟨rfl,B',g1,g2,g3⟩
 exact ⟨rfl,hnew w' _ B' g1 g2 g3,g3.os,g3.tape,g3.output,g3.size,fun x hx hn=>g3.block x hx fun h=>hn (GR x h).1.1⟩
theorem bF.Ov (hW:bF w b base A k B) :
  ∃rb,w.cell? ⟨b,0,none⟩=some (.pointer (some ⟨rb,0,none⟩))∧Calls Tryz.prog 36 #[.pointer (some ⟨rb,0,none⟩)] w fun e w'=>e=.returned (.bool (decide (k.r.step≠0)))∧w'=w:=by
 obtain ⟨aR,BR,hc,hR,-⟩:=hW.rt
 obtain ⟨b',e,-,h18⟩:=hR.step
 rw [Addr.mk.injEq] at e
 refine ⟨aR,hc,?_⟩
 rw [e.1]
 exact QQ h18
end
def oI {α:Type} (f:Nat→α) (i:Nat) (x:α):Nat→α:=fun k=>if k=i then x else f k
theorem dJ {α:Type} (f:Nat→α) (i:Nat) (x:α):oI f i x i=x:=if_pos rfl
theorem ig {α:Type} (f:Nat→α) {i k:Nat} (x:α) (h:k≠i):oI f i x k=f k:=if_neg h
section
variable {w w':World} {b base A:Nat} {k:Wk} {B B':Nat→Prop}
theorem bF.frame (h:bF w b base A k B) (hk:∀x,x<w.heap.size→B x→w'.heap[x]?=w.heap[x]?) (hA:w'.heap[A]?=w.heap[A]?) (hs:w.heap.size≤w'.heap.size):bF w' b base A k fun x=>B x∧x<w.heap.size:=by
 obtain ⟨aR,jv,sv,c,BR,BJ,h1,h2,h3,h4,h5,⟨d1,d2,d3⟩,⟨e1,e2⟩,⟨f1,f2,f3,f4,f5⟩,hB⟩:=h.ex
 have hb:b<w.heap.size:=by
  rcases Nat.lt_or_ge b w.heap.size with h | h
  ·exact h
  ·rw [Array.getElem?_eq_none h] at h1;cases h1
 refine ⟨aR,jv,sv,c,fun x=>BR x∧x<w.heap.size,fun x=>BJ x∧x<w.heap.size,?_,?_,?_,h4.frame hA,iH h5 fun x hx ho=>hk x hx (hB x (.inr (.inr (.inr ho)))),⟨fun x=>d1 x.1,fun x=>d2 x.1,fun x hx y=>d3 x hx.1 y.1⟩,⟨e1,fun x hx=>e2 x (hx.imp And.left And.left)⟩,⟨f1,fun x=>f2 x.1,fun x=>f3 x.1,f4,Nat.lt_of_lt_of_le f5 hs⟩,?_⟩
 ·rw [hk b hb (hB b (.inl rfl))];exact h1
 ·exact (h2.mono (B':=fun x=>BR x∧x<w.heap.size) fun x p q=>⟨p,q⟩).frame fun x hx=>hk x hx.2 (hB x (.inr (.inl hx.1)))
 ·cases hj:k.j with
  | none=>rw [hj] at h3;exact h3
  | some z =>
   rw [hj] at h3
   obtain ⟨a,e,hJ⟩:=h3
   exact ⟨a,e,(hJ.mono (B':=fun x=>BJ x∧x<w.heap.size) fun x p q=>⟨p,q⟩).frame fun x hx=>hk x hx.2 (hB x (.inr (.inr (.inl hx.1))))⟩
 ·rintro x (hx | hx | hx | hx)
  ·exact ⟨hB x (.inl hx),hx ▸ hb⟩
  ·exact ⟨hB x (.inr (.inl hx.1)),hx.2⟩
  ·exact ⟨hB x (.inr (.inr (.inl hx.1))),hx.2⟩
  ·exact ⟨hB x (.inr (.inr (.inr hx))),Ej h5 hx⟩
theorem bF.mono (h:bF w b base A k B) (hB:∀x,B x→x<w.heap.size→B' x):bF w b base A k B':=by
 obtain ⟨aR,jv,sv,c,BR,BJ,h1,h2,h3,h4,h5,h6,h7,h8,h9⟩:=(h.frame (w':=w) (fun _ _ _=>rfl) rfl (Nat.le_refl _)).ex
 exact ⟨aR,jv,sv,c,BR,BJ,h1,h2,h3,h4,h5,h6,h7,h8,fun x hx=>hB x (h9 x hx).1 (h9 x hx).2⟩
theorem bF.self (h:bF w b base A k B):B b∧b<w.heap.size∧A<w.heap.size:=by
 obtain ⟨aR,jv,sv,c,BR,BJ,h1,h2,h3,h4,h5,h6,h7,h8,h9⟩:=h.ex
 refine ⟨h9 b (.inl rfl),?_,h8.2.2.2.2⟩
 rcases Nat.lt_or_ge b w.heap.size with h | h
 ·exact h
 ·rw [Array.getElem?_eq_none h] at h1;cases h1
end
structure lW (w:World) (aP:Addr) (aW A:Nat→Nat) (base n:Nat) (p:PS) (W:Nat→Wk) (F:Nat→Prop):Prop where
 ex:∃(BP:Nat→Prop) (BM:Nat→Nat→Prop),jf w aP p BP∧(∀k,k<n→bF w (aW k) base (A k) (W k) (BM k))∧(∀k,k<n→∀b,BP b→¬BM k b)∧(∀j k,j<n→k<n→j≠k→∀b,BM j b→¬BM k b)∧(∀b,BP b→F b)∧(∀k,k<n→∀b,BM k b→F b)∧∀k,k<n→¬F (A k)
section
variable {w w':World} {aP:Addr} {aW A:Nat→Nat} {base n:Nat} {p p':PS} {W:Nat→Wk} {F F':Nat→Prop}
theorem lW.frame (h:lW w aP aW A base n p W F) (hk:∀b,b<w.heap.size→(F b∨∃k,k<n∧b=A k)→w'.heap[b]?=w.heap[b]?) (hs:w.heap.size≤w'.heap.size):lW w' aP aW A base n p W F:=by
 obtain ⟨BP,BM,h1,h2,h3,h4,h5,h6,h7⟩:=h.ex
 refine ⟨fun b=>BP b∧b<w.heap.size,fun k b=>BM k b∧b<w.heap.size,(h1.mono (B':=fun b=>BP b∧b<w.heap.size) fun b x y=>⟨x,y⟩).frame fun b hb=>hk b hb.2 (.inl (h5 b hb.1)),fun k hkn=>(h2 k hkn).frame (fun b hb x=>hk b hb (.inl (h6 k hkn b x))) (hk _ (h2 k hkn).self.2.2 (.inr ⟨k,hkn,rfl⟩)) hs,fun k hk b x y=>h3 k hk b x.1 y.1,fun j k hj hk hjk b x y=>h4 j k hj hk hjk b x.1 y.1,fun b x=>h5 b x.1,fun k hk b x=>h6 k hk b x.1,h7⟩
theorem lW.aaM (h:lW w aP aW A base n p W F) {i:Nat} (hi:i<n):∃BP B:Nat→Prop,jf w aP p BP∧bF w (aW i) base (A i) (W i) B∧(∀x,BP x→¬B x)∧(∀x,BP x→x<w.heap.size)∧(∀x,B x→x<w.heap.size)∧(∀x,BP x∨B x→F x) ∧
  ∀w' k' p' (qE B':Nat→Prop),jf w' aP p' qE→bF w' (aW i) base (A i) k' B'→(∀x,qE x→BP x∨w.heap.size≤x)→(∀x,B' x→B x∨w.heap.size≤x)→(∀x,qE x→¬B' x)→bU w (fun x=>BP x∨B x) w' →
   lW w' aP aW A base n p' (oI W i k') fun x=>F x∨w.heap.size≤x:=by
 obtain ⟨BP,BM,h1,h2,h3,h4,h5,h6,h7⟩:=h.ex
 refine ⟨fun b=>BP b∧b<w.heap.size,fun b=>BM i b∧b<w.heap.size,h1.mono fun b x y=>⟨x,y⟩,(h2 i hi).mono fun b x y=>⟨x,y⟩,fun x a b=>h3 i hi x a.1 b.1,fun x a=>a.2,fun x a=>a.2,fun x a=>a.elim (fun a=>h5 x a.1) fun a=>h6 i hi x a.1,?_⟩
 intro w' k' p' qE B' g1 g2 g3 g4 g5 g6
 have hfr:∀k,k<n→k≠i→bF w' (aW k) base (A k) (W k) fun b=>BM k b∧b<w.heap.size:=fun k hk hne=>by
  refine (h2 k hk).frame (fun x hx hb=>g6.block x hx ?_) (g6.block _ (h2 k hk).self.2.2 ?_) g6.size
  ·rintro (q | q)
   ·exact h3 k hk x q.1 hb
   ·exact h4 i k hi hk (fun e=>hne e.symm) x q.1 hb
  ·rintro (q | q)
   ·exact h7 k hk (h5 _ q.1)
   ·exact h7 k hk (h6 i hi _ q.1)
 refine ⟨qE,oI (fun k b=>BM k b∧b<w.heap.size) i B',g1,fun k hk=>?_,fun k hk b x=>?_,fun j k hj hk hjk b=>?_,fun b x=>(g3 b x).imp (fun q=>h5 b q.1) id,fun k hk b=>?_,fun k hk q=>q.elim (h7 k hk) fun q=>absurd (h2 k hk).self.2.2 (Nat.not_lt.2 q)⟩
 ·by_cases hki:k=i
  ·rw [hki,dJ,dJ];exact g2
  ·rw [ig _ _ hki,ig _ _ hki];exact hfr k hk hki
 ·by_cases hki:k=i
  ·rw [hki,dJ];exact g5 b x
  ·rw [ig _ _ hki]
   exact fun y=>(g3 b x).elim (fun q=>h3 k hk b q.1 y.1) fun q=>absurd y.2 (Nat.not_lt.2 q)
 ·by_cases q1:j=i
  ·have q2:k≠i:=fun e=>hjk (q1.trans e.symm)
   rw [q1,dJ,ig _ _ q2]
   exact fun x y=>(g4 b x).elim (fun q=>h4 i k hi hk (fun e=>q2 e.symm) b q.1 y.1) fun q=>absurd y.2 (Nat.not_lt.2 q)
  ·rw [ig _ _ q1]
   by_cases q2:k=i
   ·rw [q2,dJ]
    exact fun y x=>(g4 b x).elim (fun q=>h4 i j hi hj (fun e=>q1 e.symm) b q.1 y.1) fun q=>absurd y.2 (Nat.not_lt.2 q)
   ·rw [ig _ _ q2]
    exact fun x y=>h4 j k hj hk hjk b x.1 y.1
 ·by_cases hki:k=i
  ·rw [hki,dJ]
   exact fun x=>(g4 b x).imp (fun q=>h6 i hi b q.1) id
  ·rw [ig _ _ hki]
   exact fun x=>.inl (h6 k hk b x.1)
theorem lW.nil {B:Nat→Prop} (h:jf w aP p B):lW w aP aW A base 0 p W B :=
 ⟨B,fun _ _=>False,h,fun k hk=>absurd hk (Nat.not_lt_zero k),fun k hk=>absurd hk (Nat.not_lt_zero k),fun j k hj=>absurd hj (Nat.not_lt_zero j),fun _ h=>h,fun k hk=>absurd hk (Nat.not_lt_zero k),fun k hk=>absurd hk (Nat.not_lt_zero k)⟩
theorem lW.add {b:Nat} {k:Wk} {B:Nat→Prop} (h:lW w aP aW A base n p W F) (hm:bF w b base (A n) k B) (hd:∀x,B x→¬F x) (hA:∀i,i<n→¬B (A i)) (hAn:¬F (A n)) (hAB:¬B (A n)):lW w aP (oI aW n b) A base (n+1) p (oI W n k) fun x=>F x∨B x:=by
 obtain ⟨BP,BM,h1,h2,h3,h4,h5,h6,h7⟩:=h.ex
 refine ⟨BP,oI BM n B,h1,fun k hk=>?_,fun k hk x=>?_,fun j k hj hk hjk x=>?_,fun x hx=>.inl (h5 x hx),fun k hk x=>?_,fun k hk=>?_⟩
 ·by_cases hkn:k=n
  ·rw [hkn,dJ,dJ,dJ];exact hm
  ·rw [ig _ _ hkn,ig _ _ hkn,ig _ _ hkn];exact h2 k (by omega)
 ·by_cases hkn:k=n
  ·rw [hkn,dJ];exact fun a b=>hd x b (h5 x a)
  ·rw [ig _ _ hkn];exact h3 k (by omega) x
 ·by_cases q1:j=n
  ·have q2:k≠n:=fun e=>hjk (q1.trans e.symm)
   rw [q1,dJ,ig _ _ q2]
   exact fun a b=>hd x a (h6 k (by omega) x b)
  ·rw [ig _ _ q1]
   by_cases q2:k=n
   ·rw [q2,dJ]
    exact fun a b=>hd x b (h6 j (by omega) x a)
   ·rw [ig _ _ q2]
    exact h4 j k (by omega) (by omega) hjk x
 ·by_cases hkn:k=n
  ·rw [hkn,dJ];exact .inr
  ·rw [ig _ _ hkn];exact fun a=>.inl (h6 k (by omega) x a)
 ·by_cases hkn:k=n
  ·rw [hkn];exact fun q=>q.elim hAn hAB
  ·exact fun q=>q.elim (h7 k (by omega)) (hA k (by omega))
end
theorem WJ {w:World} {ρ:Env} {ν:Nat→Addr} {b base A c:Nat} {r:RS} {l:List Op} (h:aK ρ ν dB w) (hr:aa ρ 0 4=r) (ho:bE ρ 4) (hn:¬fZ ρ ν dB b) (hA:A<w.heap.size) (hAb:A≠b) (Ml:¬fZ ρ ν dB A)
  (hops:mX w A l) (hb:w.heap[b]?=some (.cells #[.pointer (some (ν 0)),.slice (some ⟨A,0,none⟩) l.length c,.pointer none,.bool false,.slice none 0 0] 44 (0,0))) :
  bF w b base A ⟨r,l,none,false,[]⟩ fun x=>x=b∨fZ ρ ν dB x:=by
 have h0:∃aR,ν 0=⟨aR,0,none⟩:=by
  obtain ⟨g1,-⟩:=h.aD 0 _ rfl rfl rfl
  exact ⟨_,g1⟩
 obtain ⟨aR,h0⟩:=h0
 rw [h0] at hb
 refine ⟨aR,.pointer none,.slice none 0 0,c,fZ ρ ν dB,fun _=>False,hb,⟨ρ,ν,h0,h,hr,ho,fun _ h=>h⟩,rfl,hops,⟨rfl,.inl ⟨rfl,rfl⟩⟩,⟨hn,id,fun _ _=>id⟩,⟨fun h=>(by cases h),fun _ _ h=>(by cases h)⟩,⟨hAb,Ml,id,fun h=>(by cases h),hA⟩,?_⟩
 rintro x (hx | hx | hx | hx)
 ·exact .inl hx
 ·exact .inr hx
 ·exact hx.elim
 ·cases hx
section
variable {k:Wk} {n:Nat} {j:Jb}
theorem WK (h0:k.r.step≠0):k.go n=(k,none):=by
 cases n with
 | zero=>rfl
 | succ n =>
  unfold Wk.go
  rw [if_pos h0]
theorem Mm (h0:k.r.step=0) (hj:k.j=none) (hi:k.bV=false) (hl:k.said.length≥k.ops.length):k.go (n+1)=(k,some false):=by
 rw [Wk.go,if_neg (fun h=>h h0),hj]
 simp only
 rw [if_neg (by rw [hi];decide),if_pos hl]
theorem TQ (h0:k.r.step=0) (hj:k.j=none) (hi:k.bV=true) (hb:(k.r.begin (Ca.of 2)).2=true):Wk.go n {k with bV:=false,r:=(k.r.begin (Ca.of 2)).1}=k.go (n+1):=by
 rw [Wk.go,if_neg (fun h=>h h0),hj]
 simp only
 rw [if_pos hi,if_neg (by rw [hb];decide)]
theorem TR (h0:k.r.step=0) (hj:k.j=none) (hi:k.bV=false) (hl:k.said.length<k.ops.length) (hg:(k.ops.getD k.said.length ⟨0,0,0,0⟩).dF) (hb:(k.r.begin (Ca.of 1)).2=true) :
  Wk.go n {k with j:=some (Jb.new (k.ops.getD k.said.length ⟨0,0,0,0⟩)),bV:=true,r:=(k.r.begin (Ca.of 1)).1}=k.go (n+1):=by
 rw [Wk.go,if_neg (fun h=>h h0),hj]
 simp only
 rw [if_neg (by rw [hi];decide),if_neg (by omega),if_neg (fun h=>h hg),if_neg (by rw [hb];decide)]
theorem QZ (h0:k.r.step=0) (hj:k.j=some j) (hk:(j.next k.r.bT).2.kind=12):Wk.go n {k with said:=k.said ++ [((j.next k.r.bT).2.code,(j.next k.r.bT).2.val)],j:=none}=k.go (n+1):=by
 rw [Wk.go,if_neg (fun h=>h h0),hj]
 simp only
 rw [if_pos hk]
theorem WL (h0:k.r.step=0) (hj:k.j=some j) (hk:(j.next k.r.bT).2.kind≠12) (hb:(k.r.begin (j.next k.r.bT).2).2=true):Wk.go n {k with j:=some (j.next k.r.bT).1,r:=(k.r.begin (j.next k.r.bT).2).1}=k.go (n+1):=by
 rw [Wk.go,if_neg (fun h=>h h0),hj]
 simp only
 rw [if_neg hk,if_neg (by rw [hb];decide)]
end
section
variable {w w' w0 w1:World} {b base A:Nat} {k:Wk} {B F G:Nat→Prop}
theorem Nw.drewN {w w':World} (h:Nw w w') (n:Nat):Nw w (w'.drewN n):=⟨h.os,h.tape,h.output,h.size,h.block⟩
theorem Nw.drew {w w':World} (h:Nw w w'):Nw w w'.drew:=⟨h.os,h.tape,h.output,h.size,h.block⟩
theorem bF.nw (h:bF w b base A k B) (hn:Nw w w'):bF w' b base A k fun x=>B x∧x<w.heap.size :=
 h.frame (fun x hx _=>hn.block x hx id) (hn.block _ h.self.2.2 id) hn.size
theorem bF.Km (h:bF w b base A k B) (hj:k.j=none):w.cell? ⟨b,2,none⟩=some (.pointer none):=by
 obtain ⟨aR,jv,sv,c,BR,BJ,h1,h2,h3,-⟩:=h.ex
 rw [hj] at h3
 obtain rfl:jv=.pointer none:=h3
 unfold World.cell?
 rw [h1]
 rfl
theorem bF.said (h:bF w b base A k B):∃a c,w.cell? ⟨b,4,none⟩=some (.slice a k.said.length c):=by
 obtain ⟨aR,jv,sv,c,BR,BJ,h1,h2,h3,h4,⟨h5,h6⟩,-⟩:=h.ex
 have Vu:w.cell? ⟨b,4,none⟩=some sv:=by
  unfold World.cell?
  rw [h1]
  rfl
 rcases h6 with ⟨rfl,e⟩ | ⟨g,cap,cur,rfl,-⟩
 ·exact ⟨none,0,by rw [Vu,e]⟩
 ·exact ⟨_,_,Vu⟩
theorem bF.TS (h:bF w b base A k B):mX w A k.ops:=by
 obtain ⟨aR,jv,sv,c,BR,BJ,h1,h2,h3,h4,-⟩:=h.ex
 exact h4
theorem bF.setW (h:bF w b base A k B) (i:Nat) (x:Value):bU w B (w.setCell ⟨b,i,none⟩ x) :=
 ⟨rfl,rfl,rfl,by simp [World.setCell],fun y hy hn=>heap_setCell_other w ⟨b,i,none⟩ y _ fun e=>hn (e ▸ h.self.1)⟩
theorem Q3 (h:bU w F w') (hn:Nw w' w1):bU w F w1:=pq h hn fun x hx _=>hx.elim
theorem WM (h:bU w F w') (h1:bU w' F w1):bU w F w1:=pq h h1 fun x hx _=>.inl hx
end
structure zu (w:World) (A:Nat) (B BP:Nat→Prop) (fA:Nat→Addr):Prop where
 d:∀x,BP x→¬B x
 bl:∀x,B x→x<w.heap.size
 pl:∀x,BP x→x<w.heap.size
 a:¬BP A∧A<w.heap.size
 sn:nu w fA
 z:∀k,k<8→¬B (fA k).block∧¬BP (fA k).block∧(fA k).block<w.heap.size
structure bH (w w':World) (b base A:Nat) (aP:Addr) (B BP:Nat→Prop) (k':Wk) (p':PS):Prop where
 ex:∃B' qE:Nat→Prop,jf w' aP p' qE∧bF w' b base A k' B'∧(∀x,qE x→BP x∨w.heap.size≤x)∧(∀x,B' x→B x∨w.heap.size≤x)∧(∀x,qE x→¬B' x)∧bU w (fun x=>BP x∨B x) w'
section
variable {w wa wb:World} {b base A:Nat} {k k':Wk} {aP:Addr} {p p':PS} {B BP:Nat→Prop} {fA:Nat→Addr} {rb:Nat}
theorem bH.of (hW:bF w b base A k B) (hP:jf w aP p BP) (hd:∀x,BP x→¬B x):bH w w b base A aP B BP k p :=
 ⟨B,BP,hP,hW,fun _ h=>.inl h,fun _ h=>.inl h,hd,bU.refl _ _⟩
theorem bH.wk (h:bH w wa b base A aP B BP k p):∃Ba,bF wa b base A k Ba∧(∀x,Ba x→x<wa.heap.size)∧∀wb k' B',bF wb b base A k' B'→(∀x,B' x→Ba x∨wa.heap.size≤x)→bU wa Ba wb→bH w wb b base A aP B BP k' p:=by
 obtain ⟨B1,El,h1,h2,h3,h4,h5,h6⟩:=h.ex
 refine ⟨fun x=>B1 x∧x<wa.heap.size,h2.mono fun x p q=>⟨p,q⟩,fun x hx=>hx.2,fun wb k' B' g1 g2 g3=>⟨B',fun x=>El x∧x<wa.heap.size,?_,g1,fun x hx=>h3 x hx.1,fun x hx=>?_,fun x hx hy=>?_,pq h6 g3 fun x hx _=>(h4 x hx.1).imp .inr id⟩⟩
 ·exact (h1.mono (B':=fun x=>El x∧x<wa.heap.size) fun x p q=>⟨p,q⟩).frame fun x hx=>g3.block x hx.2 fun hy=>h5 x hx.1 hy.1
 ·rcases g2 x hx with g | g
  ·exact h4 x g.1
  ·exact .inr (Nat.le_trans h6.size g)
 ·rcases g2 x hy with g | g
  ·exact h5 x hx.1 g.1
  ·exact absurd hx.2 (Nat.not_lt.2 g)
theorem bH.pl (h:bH w wa b base A aP B BP k p) (hb:zu w A B BP fA):∃Q4,jf wa aP p Q4∧(∀x,Q4 x→BP x∨w.heap.size≤x)∧∀wb p' qE,jf wb aP p' qE→(∀x,qE x→wa.heap.size≤x∨Q4 x)→bU wa Q4 wb→bH w wb b base A aP B BP k p':=by
 obtain ⟨B1,El,h1,h2,h3,h4,h5,h6⟩:=h.ex
 refine ⟨fun x=>El x∧x<wa.heap.size,h1.mono fun x p q=>⟨p,q⟩,fun x hx=>h3 x hx.1,fun wb p' qE g1 g2 g3=>⟨fun x=>B1 x∧x<wa.heap.size,qE,g1,h2.frame (fun x hx hy=>g3.block x hx fun hz=>h5 x hz.1 hy) (g3.block _ h2.self.2.2 fun hz=>?_) g3.size,fun x hx=>?_,fun x hx=>h4 x hx.1,fun x hx hy=>?_,pq h6 g3 fun x hx _=>(h3 x hx.1).imp .inl id⟩⟩
 ·exact (h3 _ hz.1).elim hb.a.1 fun q=>absurd hb.a.2 (Nat.not_lt.2 q)
 ·rcases g2 x hx with g | g
  ·exact .inr (Nat.le_trans h6.size g)
  ·exact h3 x g.1
 ·rcases g2 x hx with g | g
  ·exact absurd hy.2 (Nat.not_lt.2 g)
  ·exact h5 x g.1 hy.1
theorem bH.nw (h:bH w wa b base A aP B BP k p) (hn:Nw wa wb):bH w wb b base A aP B BP k p:=by
 obtain ⟨Ba,h1,h2,h3⟩:=h.wk
 exact h3 wb k _ (h1.nw hn) (fun x hx=>.inl hx.1) ⟨hn.os,hn.tape,hn.output,hn.size,fun x hx _=>hn.block x hx id⟩
theorem bH.cells (h:bH w wa b base A aP B BP k p):∃(aR:Nat) (jv sv:Value) (c:Nat),wa.cell? ⟨b,0,none⟩=some (.pointer (some ⟨aR,0,none⟩))∧wa.cell? ⟨b,1,none⟩=some (.slice (some ⟨A,0,none⟩) k.ops.length c)∧wa.cell? ⟨b,2,none⟩=some jv∧wa.cell? ⟨b,3,none⟩=some (.bool k.bV)∧wa.cell? ⟨b,4,none⟩=some sv∧∀i,wa.frozen? ⟨b,i,none⟩=false:=by
 obtain ⟨Ba,h1,-⟩:=h.wk
 exact h1.cells
theorem bH.Km (h:bH w wa b base A aP B BP k p) (hj:k.j=none):wa.cell? ⟨b,2,none⟩=some (.pointer none):=by
 obtain ⟨Ba,h1,-⟩:=h.wk
 exact h1.Km hj
theorem bH.said (h:bH w wa b base A aP B BP k p):∃a c,wa.cell? ⟨b,4,none⟩=some (.slice a k.said.length c):=by
 obtain ⟨Ba,h1,-⟩:=h.wk
 exact h1.said
theorem bH.TS (h:bH w wa b base A aP B BP k p):mX wa A k.ops:=by
 obtain ⟨Ba,h1,-⟩:=h.wk
 exact h1.TS
theorem bH.lt (h:bH w wa b base A aP B BP k p):b<wa.heap.size∧A<wa.heap.size:=by
 obtain ⟨Ba,h1,-⟩:=h.wk
 exact h1.self.2
theorem bH.ge (h:bH w wa b base A aP B BP k p):w.heap.size≤wa.heap.size:=by
 obtain ⟨B1,El,-,-,-,-,-,h6⟩:=h.ex
 exact h6.size
theorem pz {w:World} {a:Addr} {x y:Nat} (h:w.cell? a=some (.pointer (some ⟨x,0,none⟩))) (h':w.cell? a=some (.pointer (some ⟨y,0,none⟩))):x=y:=by
 have:=h.symm.trans h'
 simpa using this
theorem bH.busy (h:bH w wa b base A aP B BP k p) (hc:wa.cell? ⟨b,0,none⟩=some (.pointer (some ⟨rb,0,none⟩))) :
  Calls Tryz.prog 36 #[.pointer (some ⟨rb,0,none⟩)] wa fun e w'=>e=.returned (.bool (decide (k.r.step≠0)))∧w'=wa:=by
 obtain ⟨Ba,h1,-⟩:=h.wk
 obtain ⟨Q5,hc',hb⟩:=h1.Ov
 obtain rfl:=pz hc hc'
 exact hb
theorem bH.begin (h:bH w wa b base A aP B BP k p) (hc:wa.cell? ⟨b,0,none⟩=some (.pointer (some ⟨rb,0,none⟩))) (hk:sH k.r) (h0:k.r.step=0) {c:Ca} (ho:c.OK) :
  Calls Tryz.prog 37 #[.pointer (some ⟨rb,0,none⟩),pU c] wa fun e w'=>e=.returned .nilIface∧bH w w' b base A aP B BP {k with r:=(k.r.begin c).1} p:=by
 obtain ⟨Ba,h1,h2,h3⟩:=h.wk
 obtain ⟨Q5,hc',hb⟩:=h1.Yz hk h0 ho
 obtain rfl:=pz hc hc'
 exact hb.mono fun e w' ⟨he,hW,hw⟩=>⟨he,h3 _ _ _ hW (fun x hx=>hx) hw⟩
theorem bH.next (h:bH w wa b base A aP B BP k p) (hc:wa.cell? ⟨b,0,none⟩=some (.pointer (some ⟨rb,0,none⟩))) (h0:k.r.step≠0) :
  Calls Tryz.prog 39 #[.pointer (some ⟨rb,0,none⟩)] wa fun e w'=>e=.returned (.tuple #[oD k.r.acc,.bool true])∧bH w w' b base A aP B BP k p:=by
 obtain ⟨Ba,h1,h2,h3⟩:=h.wk
 obtain ⟨Q5,hc',hb⟩:=h1.Zf h0
 obtain rfl:=pz hc hc'
 exact hb.mono fun e w' ⟨he,hW,hw⟩=>⟨he,h3 _ _ _ hW (fun x hx=>hx) hw⟩
theorem bH.bL (h:bH w wa b base A aP B BP k p) (hc:wa.cell? ⟨b,0,none⟩=some (.pointer (some ⟨rb,0,none⟩))) {x:Rp} (hk:oF k.r x) :
  Calls Tryz.prog 40 #[.pointer (some ⟨rb,0,none⟩),iX x] wa fun e w'=>e=.returned .nilIface∧bH w w' b base A aP B BP {k with r:=(k.r.bL x).1} p:=by
 obtain ⟨Ba,h1,h2,h3⟩:=h.wk
 obtain ⟨Q5,hc',hb⟩:=h1.Zg hk
 obtain rfl:=pz hc hc'
 exact hb.mono fun e w' ⟨he,hW,hw⟩=>⟨he,h3 _ _ _ hW (fun x hx=>hx) hw⟩
theorem bH.AL (h:bH w wa b base A aP B BP k p) {j:Jb} (hj:k.j=some j):∃aJ,wa.cell? ⟨b,2,none⟩=some (.pointer (some aJ)):=by
 obtain ⟨Ba,h1,-⟩:=h.wk
 obtain ⟨aJ,BJ,hc,-⟩:=h1.jb hj
 exact ⟨aJ,hc⟩
theorem bH.ZR (h:bH w wa b base A aP B BP k p) (hb:zu w A B BP fA) (hok:p.OK) (hst:p.steps≤1000000) {a:Ac} {x:Rp} (hx:p.act a=(p',some x)) :
  Calls Tryz.prog 32 #[.pointer (some aP),oD a] wa fun e w'=>e=.returned (.tuple #[iX x,.nilIface])∧bH w w' b base A aP B BP k p':=by
 obtain ⟨Q4,h1,h2,h3⟩:=h.pl hb
 obtain ⟨B1,El,-,-,-,-,-,h6⟩:=h.ex
 have hsn:nu wa fA:=hb.sn.frame h6.size fun j hj=>h6.block _ (hb.z j hj).2.2 fun q=>q.elim (hb.z j hj).2.1 (hb.z j hj).1
 refine (Vl hsn h1 (fun j hj q=>(h2 _ q).elim (hb.z j hj).2.1 fun q=>absurd (hb.z j hj).2.2 (Nat.not_lt.2 q)) hok hst hx).mono ?_
 rintro e w' ⟨he,B',g1,g2,g3⟩
 exact ⟨he,h3 _ _ _ g1 g2 g3⟩
theorem bH.put (h:bH w wa b base A aP B BP k p) (i:Nat) (x:Value) (j:Option Jb) (bV:Bool) (hj:i=2→j=none∧x=.pointer none) (hi:i=3→x=.bool bV) (hj':i≠2→j=k.j) (hi':i≠3→bV=k.bV) (h23:i=2∨i=3) :
  bH w (wa.setCell ⟨b,i,none⟩ x) b base A aP B BP {k with j:=j,bV:=bV} p:=by
 obtain ⟨Ba,h1,h2,h3⟩:=h.wk
 exact h3 _ _ _ (h1.put i x j bV hj hi hj' hi' h23).2 (fun x hx=>.inl hx) (h1.setW i x)
theorem bH.TP (h:bH w wa b base A aP B BP k p) (hn:Nw wa wb) {aJ:Addr} {j:Jb} {BJ:Nat→Prop} (hJ:oH wb aJ j BJ) (hf:∀x,BJ x→wa.heap.size≤x) :
  bH w (wb.setCell ⟨b,2,none⟩ (.pointer (some aJ))) b base A aP B BP {k with j:=some j} p:=by
 obtain ⟨Ba,h1,h2,h3⟩:=h.wk
 have hs:=(h1.nw hn).setW 2 (.pointer (some aJ))
 refine h3 _ _ _ (h1.TP hn hJ hf).2 (fun x hx=>hx) ⟨hs.os.trans hn.os,hs.tape.trans hn.tape,hs.output.trans hn.output,Nat.le_trans hn.size hs.size,fun x hx hb=>(hs.block x (Nat.lt_of_lt_of_le hx hn.size) fun q=>hb q.1).trans (hn.block x hx id)⟩
theorem bH.Kl (h:bH w wa b base A aP B BP k p):∃sv:Value,wa.cell? ⟨b,4,none⟩=some sv∧wa.ownsRow base 39 2 sv k.said.length (jU k.said) ∧
  ∀w1 w2 v' (x:Int × Int),Nw wa w1→w1.grownBy w2 sv.ownBlock→w2.ownsRow base 39 2 v' (k.said.length+1) (jU k.said ++ [.int .i64 x.1,.int .i64 x.2])→(v'.ownBlock=sv.ownBlock∨v'.ownBlock=some w1.heap.size) →
   w2.frozen? ⟨b,4,none⟩=false∧w2.cell? ⟨b,4,none⟩=some sv∧bH w (w2.setCell ⟨b,4,none⟩ v') b base A aP B BP {k with said:=k.said ++ [x]} p:=by
 obtain ⟨B1,El,h1,h2,h3,h4,h5,h6⟩:=h.ex
 obtain ⟨aR,jv,ZT,c,BR,BJ,k1,-,-,-,k5,-,-,-,hB⟩:=h2.ex
 obtain ⟨sv,s1,s2,s3⟩:=h2.Kl
 have hsv:sv=ZT:=by
  have:wa.cell? ⟨b,4,none⟩=some ZT:=by
   unfold World.cell?
   rw [k1]
   rfl
  exact Option.some.inj (s1.symm.trans this)
 refine ⟨sv,s1,s2,fun w1 w2 v' x hn hg ho hv=>?_⟩
 obtain ⟨a1,a2,a3⟩:=s3 w1 w2 v' x hn hg ho hv
 refine ⟨a1,a2,fun y=>B1 y∨wa.heap.size≤y,fun y=>El y∧y<wa.heap.size,?_,a3,fun y hy=>h3 y hy.1,fun y hy=>?_,fun y hy hz=>?_,?_⟩
 ·refine (h1.mono (B':=fun x=>El x∧x<wa.heap.size) fun x p q=>⟨p,q⟩).frame fun y hy=>?_
  have hyb:y≠b:=fun e=>h5 y hy.1 (e ▸ h2.self.1)
  have YA:sv.ownBlock≠some y:=fun e=>h5 y hy.1 (hB y (.inr (.inr (.inr (hsv ▸ e)))))
  exact (heap_setCell_other w2 ⟨b,4,none⟩ y _ hyb).trans ((hg.block y (Nat.lt_of_lt_of_le hy.2 hn.size) fun e=>YA e.symm).trans (hn.block y hy.2 id))
 ·rcases hy with hy | hy
  ·exact h4 y hy
  ·exact .inr (Nat.le_trans h6.size hy)
 ·rcases hz with hz | hz
  ·exact h5 y hy.1 hz
  ·exact absurd hy.2 (Nat.not_lt.2 hz)
 ·have e:(w2.setCell ⟨b,4,none⟩ v').heap.size=w2.heap.size:=by simp [World.setCell]
  refine ⟨hg.os.trans (hn.os.trans h6.os),hg.tape.trans (hn.tape.trans h6.tape),hg.output.trans (hn.output.trans h6.output),by rw [e];exact Nat.le_trans h6.size (Nat.le_trans hn.size hg.size),fun y hy hno=>?_⟩
  have hya:y<wa.heap.size:=Nat.lt_of_lt_of_le hy h6.size
  have nB:¬B1 y:=fun q=>(h4 y q).elim (fun q=>hno (.inr q)) fun q=>absurd hy (Nat.not_lt.2 q)
  have hyb:y≠b:=fun e=>nB (e ▸ h2.self.1)
  have YA:sv.ownBlock≠some y:=fun e=>nB (hB y (.inr (.inr (.inr (hsv ▸ e)))))
  exact (heap_setCell_other w2 ⟨b,4,none⟩ y _ hyb).trans ((hg.block y (Nat.lt_of_lt_of_le hya hn.size) fun e=>YA e.symm).trans ((hn.block y hya id).trans (h6.block y hy hno)))
end
structure Wx (wr wx:World) (X:Nat→Prop) (b base A:Nat) (Ba:Nat→Prop) (k:Wk):Prop where
 ex:∃B':Nat→Prop,bF wx b base A k B'∧∀x,B' x→(Ba x∨wr.heap.size≤x)∧¬X x∧x<wx.heap.size
 Ko:bU wr Ba wx
 nx:∀x,X x→wr.heap.size≤x∧x<wx.heap.size
 a:A<wr.heap.size
section
variable {w wr wx w':World} {X:Nat→Prop} {b base A rb:Nat} {Ba B BP:Nat→Prop} {k k':Wk} {aP:Addr} {p:PS}
theorem Wx.of (h:bF wr b base A k Ba) (hl:∀x,Ba x→x<wr.heap.size):Wx wr wr (fun _=>False) b base A Ba k :=
 ⟨⟨Ba,h,fun x hx=>⟨.inl hx,id,hl x hx⟩⟩,bU.refl _ _,fun _ h=>h.elim,h.self.2.2⟩
theorem Wx.alloc (h:Wx wr wx X b base A Ba k) (o:Obj):Wx wr (wx.alloc o) (fun x=>X x∨x=wx.heap.size) b base A Ba k:=by
 obtain ⟨B',h1,h2⟩:=h.ex
 have hn:Nw wx (wx.alloc o):=(bU.refl _ _).alloc o
 have hs:(wx.alloc o).heap.size=wx.heap.size+1:=by simp
 refine ⟨⟨_,h1.nw hn,fun x hx=>⟨(h2 x hx.1).1,fun q=>q.elim (h2 x hx.1).2.1 fun e=>by have:=hx.2;omega,by rw [hs];have:=hx.2;omega⟩⟩,Q3 h.Ko hn,fun x hx=>?_,h.a⟩
 rw [hs]
 rcases hx with hx | rfl
 ·have:=h.nx x hx
  omega
 ·have:=h.Ko.size
  omega
theorem Wx.drew (h:Wx wr wx X b base A Ba k):Wx wr wx.drew X b base A Ba k:=by
 obtain ⟨B',h1,h2⟩:=h.ex
 have hn:Nw wx wx.drew:=Nw.drew (bU.refl _ _)
 exact ⟨⟨_,h1.nw hn,fun x hx=>h2 x hx.1⟩,Q3 h.Ko hn,h.nx,h.a⟩
theorem Wx.BB {B':Nat→Prop} (h:Wx wr wx X b base A Ba k) (hB:∀x,B' x→(Ba x∨wr.heap.size≤x)∧¬X x∧x<wx.heap.size) (hW:bF w' b base A k' (fun x=>B' x∨wx.heap.size≤x)) (hw:bU wx B' w') :
  Wx wr w' X b base A Ba k'∧∀x,X x→w'.heap[x]?=wx.heap[x]?:=by
 refine ⟨⟨⟨fun x=>(B' x∨wx.heap.size≤x)∧x<w'.heap.size,hW.mono fun x p q=>⟨p,q⟩,fun x hx=>?_⟩,pq h.Ko hw fun x hx _=>(hB x hx).1,fun x hx=>⟨(h.nx x hx).1,Nat.lt_of_lt_of_le (h.nx x hx).2 hw.size⟩,h.a⟩,fun x hx=>hw.block x (h.nx x hx).2 fun q=>(hB x q).2.1 hx⟩
 rcases hx.1 with g | g
 ·exact ⟨(hB x g).1,(hB x g).2.1,hx.2⟩
 ·exact ⟨.inr (Nat.le_trans h.Ko.size g),fun q=>absurd (h.nx x q).2 (Nat.not_lt.2 g),hx.2⟩
theorem Wx.bT (h:Wx wr wx X b base A Ba k) (hc:wx.cell? ⟨b,0,none⟩=some (.pointer (some ⟨rb,0,none⟩))) :
  Calls Tryz.prog 38 #[.pointer (some ⟨rb,0,none⟩)] wx fun e w'=>e=.returned (iX k.r.bT)∧Wx wr w' X b base A Ba k∧(∀x,X x→w'.heap[x]?=wx.heap[x]?)∧∀i,w'.cell? ⟨b,i,none⟩=wx.cell? ⟨b,i,none⟩:=by
 obtain ⟨B',h1,h2⟩:=h.ex
 obtain ⟨Q5,hc',hb⟩:=h1.bT
 obtain rfl:=pz hc hc'
 refine hb.mono fun e w' ⟨he,hW,hw,hcc⟩=>?_
 obtain ⟨g1,g2⟩:=h.BB h2 hW hw
 exact ⟨he,g1,g2,fun i=>by unfold World.cell?;rw [hcc]⟩
theorem Wx.next (h:Wx wr wx X b base A Ba k) {aJ:Addr} {j j':Jb} {c:Ca} {x:Rp} (hc:wx.cell? ⟨b,2,none⟩=some (.pointer (some aJ))) (hj:k.j=some j) (ht:-1000000000000≤j.top.tag∧j.top.tag≤1000000000000) (hn:j.next x=(j',c)) :
  Calls Tryz.prog 30 #[.pointer (some aJ),iX x] wx fun e w'=>e=.returned (pU c)∧Wx wr w' X b base A Ba {k with j:=some j'}∧(∀x,X x→w'.heap[x]?=wx.heap[x]?)∧∀i,w'.cell? ⟨b,i,none⟩=wx.cell? ⟨b,i,none⟩:=by
 obtain ⟨B',h1,h2⟩:=h.ex
 obtain ⟨ZU,hc',hb⟩:=h1.Zh (x:=x) hj ht
 obtain rfl:aJ=ZU:=by
  have:=hc.symm.trans hc'
  simpa using this
 refine hb.mono fun e w' ⟨he,hW,hw,hcc⟩=>?_
 obtain ⟨g1,g2⟩:=h.BB h2 hW hw
 rw [hn] at he g1
 exact ⟨he,g1,g2,fun i=>by unfold World.cell?;rw [hcc]⟩
theorem Wx.WN (h:Wx wr wx X b base A Ba k) (hw:bU wx X w'):Wx wr w' X b base A Ba k:=by
 obtain ⟨B',h1,h2⟩:=h.ex
 refine ⟨⟨_,h1.frame (fun x hx hb=>hw.block x hx (h2 x hb).2.1) (hw.block _ h1.self.2.2 fun q=>?_) hw.size,fun x hx=>⟨(h2 x hx.1).1,(h2 x hx.1).2.1,Nat.lt_of_lt_of_le hx.2 hw.size⟩⟩,pq h.Ko hw fun x hx _=>.inr (h.nx x hx).1,fun x hx=>⟨(h.nx x hx).1,Nat.lt_of_lt_of_le (h.nx x hx).2 hw.size⟩,h.a⟩
 exact absurd h.a (Nat.not_lt.2 (h.nx _ q).1)
theorem Wx.out (h:Wx wr wx X b base A Ba k') (hk:∀wb k' B',bF wb b base A k' B'→(∀x,B' x→Ba x∨wr.heap.size≤x)→bU wr Ba wb→bH w wb b base A aP B BP k' p):bH w wx b base A aP B BP k' p:=by
 obtain ⟨B',h1,h2⟩:=h.ex
 exact hk _ _ _ h1 (fun x hx=>(h2 x hx).1) h.Ko
end
noncomputable def Vv (P:Program) (x:Nat) (w:World) (i:Nat) (v:Value):Result Unit :=
 match w.cell? ⟨x,i,none⟩ with
 | some val=>if w.frozen? ⟨x,i,none⟩=true then Result.halt (Halt.unsupported (Unsupported.unsafePointer "a write to bytes that a string shares")) w else Result.ok () (w.setCell ⟨x,i,none⟩ v)
 | none=>match World.farStore P w ⟨x,i,none⟩ v (Mode.plain == Mode.atomic) with
  | Except.ok (w',snd)=>Result.ok () w'
  | Except.error h=>Result.halt h w
noncomputable def Vw (P:Program) (x:Nat):List Value→Nat→World→Result Unit
 | [],_,w=>.ok () w
 | [v],i,w=>Vv P x w i v
 | v :: u :: vs,i,w=>(Vv P x w i v).andThen fun _ w'=>Vw P x (u :: vs) (i+1) w'
section
variable {P:Program} {x:Nat} {ty:TypeId}
theorem Q6 {w:World} {cs:Array Value} {i:Nat} {v:Value} (h:w.heap[x]?=some (.cells cs ty (0,0))) (hi:i<cs.size):Vv P x w i v=.ok () (w.setCell ⟨x,i,none⟩ v)∧bU w (·=x) (w.setCell ⟨x,i,none⟩ v)∧(w.setCell ⟨x,i,none⟩ v).heap[x]?=some (.cells (cs.setIfInBounds i v) ty (0,0)):=by
 have hc:w.cell? ⟨x,i,none⟩=some cs[i]:=by
  unfold World.cell?
  rw [h]
  exact Array.getElem?_eq_getElem hi
 have hf:w.frozen? ⟨x,i,none⟩=false:=by
  unfold World.frozen?
  rw [h]
  simp
 refine ⟨?_,⟨rfl,rfl,rfl,by simp [World.setCell],fun y hy hn=>heap_setCell_other w ⟨x,i,none⟩ y _ hn⟩,heap_setCell_same w x i _ _ v h⟩
 unfold Vv
 rw [hc]
 simp only
 rw [if_neg (by rw [hf];decide)]
theorem Q7:∀(vs:List Value) (i:Nat) {w:World} {cs:Array Value},w.heap[x]?=some (.cells cs ty (0,0))→i+vs.length≤cs.size →
  ∃w' cs',Vw P x vs i w=.ok () w'∧bU w (·=x) w'∧w'.heap[x]?=some (.cells cs' ty (0,0))∧cs'.size=cs.size∧(∀j,j<i→cs'[j]?=cs[j]?)∧∀j,j<vs.length→cs'[i+j]?=vs[j]?
 | [],i,w,cs,h,hl=>⟨w,cs,rfl,bU.refl _ _,h,rfl,fun _ _=>rfl,fun j hj=>absurd hj (Nat.not_lt_zero _)⟩
 | [v],i,w,cs,h,hl=>by
  have hi:i<cs.size:=hl
  obtain ⟨a,b,c⟩:=Q6 (P:=P) (v:=v) h hi
  refine ⟨_,_,a,b,c,by simp,fun j hj=>by simp [Array.getElem?_setIfInBounds,Nat.ne_of_gt hj],fun j hj=>?_⟩
  obtain rfl:j=0:=by simpa using hj
  simp [hi]
 | v :: u :: vs,i,w,cs,h,hl=>by
  have hl':i+(vs.length+1+1)≤cs.size:=hl
  have hi:i<cs.size:=by omega
  obtain ⟨a,b,c⟩:=Q6 (P:=P) (v:=v) h hi
  obtain ⟨w',cs',d1,d2,d3,d4,d5,d6⟩:=Q7 (u :: vs) (i+1) c (by simp;omega)
  refine ⟨w',cs',?_,WM b d2,d3,by rw [d4];simp,fun j hj=>?_,fun j hj=>?_⟩
  ·unfold Vw
   rw [a]
   exact d1
  ·rw [d5 j (by omega)]
   simp [Array.getElem?_setIfInBounds,Nat.ne_of_gt hj]
  ·cases j with
   | zero =>
    rw [d5 (i+0) (by omega)]
    simp [hi]
   | succ j =>
    have:=d6 j (by simpa using hj)
    rw [show i+(j+1)=i+1+j by omega,this]
    rfl
theorem TT {o:Oper} {a:Act} {K:Act→World→Prop} {Q:Exit→Act→World→Prop} {w:World} {cs:Array Value} (vs:List Value) (h:w.heap[x]?=some (.cells cs ty (0,0))) (hl:vs.length=cs.size)
  (hk:∀w',bU w (·=x) w'→w'.heap[x]?=some (.cells vs.toArray ty (0,0))→K (a.put o.dst undef) w'):Oper.upon P o a K Q ((Vw P x vs 0 w).andThen fun _ w'=>.ok .skip w'):=by
 obtain ⟨w',cs',d1,d2,d3,d4,d5,d6⟩:=Q7 (P:=P) vs 0 h (by omega)
 rw [d1]
 have e:cs'=vs.toArray:=by
  refine Array.ext_getElem? fun j=>?_
  rcases Nat.lt_or_ge j vs.length with hj | hj
  ·have:=d6 j hj
   rw [Nat.zero_add] at this
   rw [this]
   simp
  ·rw [Array.getElem?_eq_none (by omega),Array.getElem?_eq_none (by simpa using hj)]
 subst e
 exact hk w' d2 d3
end
theorem xm {w w':World} {b:Nat} (h:w'.heap[b]?=w.heap[b]?) (i:Nat):w'.cell? ⟨b,i,none⟩=w.cell? ⟨b,i,none⟩:=by
 unfold World.cell?
 rw [h]
def Ow (c:Ca):List Value:=[.int .i64 c.kind,.int .i64 c.slot,.int .i64 c.gen,.int .i64 c.field,.int .i64 c.old.slot,.int .i64 c.old.gen,.int .i64 c.old.tag,.int .i64 c.old.num,.bool c.old.mark,.int .i64 c.new.slot,.int .i64 c.new.gen,.int .i64 c.new.tag,.int .i64 c.new.num,.bool c.new.mark,.int .i64 c.i,.int .i64 c.j,.int .i64 c.code,.int .i64 c.val]
theorem TU {w:World} {x:Nat} {c:Ca} (h:w.heap[x]?=some (.cells (Ow c).toArray 83 (0,0))):(w.cell? ⟨x,0,none⟩=some (.int .i64 c.kind)∧w.cell? ⟨x,1,none⟩=some (.int .i64 c.slot)∧w.cell? ⟨x,2,none⟩=some (.int .i64 c.gen)∧w.cell? ⟨x,3,none⟩=some (.int .i64 c.field)∧w.cell? ⟨x,4,none⟩=some (.int .i64 c.old.slot)∧w.cell? ⟨x,5,none⟩=some (.int .i64 c.old.gen)∧w.cell? ⟨x,6,none⟩=some (.int .i64 c.old.tag)∧w.cell? ⟨x,7,none⟩=some (.int .i64 c.old.num)∧w.cell? ⟨x,8,none⟩=some (.bool c.old.mark)) ∧
  (w.cell? ⟨x,9,none⟩=some (.int .i64 c.new.slot)∧w.cell? ⟨x,10,none⟩=some (.int .i64 c.new.gen)∧w.cell? ⟨x,11,none⟩=some (.int .i64 c.new.tag)∧w.cell? ⟨x,12,none⟩=some (.int .i64 c.new.num)∧w.cell? ⟨x,13,none⟩=some (.bool c.new.mark)∧w.cell? ⟨x,14,none⟩=some (.int .i64 c.i)∧w.cell? ⟨x,15,none⟩=some (.int .i64 c.j)∧w.cell? ⟨x,16,none⟩=some (.int .i64 c.code)∧w.cell? ⟨x,17,none⟩=some (.int .i64 c.val)):=by
 have hc:∀i,w.cell? ⟨x,i,none⟩=(Ow c).toArray[i]?:=fun i=>by
  unfold World.cell?
  rw [h]
  rfl
 simp only [hc]
 exact ⟨⟨rfl,rfl,rfl,rfl,rfl,rfl,rfl,rfl,rfl⟩,rfl,rfl,rfl,rfl,rfl,rfl,rfl,rfl,rfl⟩
theorem tY {P:Program} {ops:Array Oper} {o:Oper} {a:Act} {w:World} {K:Act→World→Prop} {Q:Exit→Act→World→Prop} {E:Prop} (hgd:o.guard=none) (s x:Operand) (t:TypeId)
  (ho:o.op=.call {callee:=.builtin .append,args:=#[s,x],argTypes:=#[t,t]})
  (base:Nat) (e:TypeId) (i:TypeInfo) (z:Value) (size bytes:Nat) (ht:P.underlying t=some (.slice e)) (hi:P.info? e=some i) (hz:i.zero=some z)
  (hsize:i.size=size) (hby:i.bytes=bytes) (hzs:z.cells.size=size) (hsz:0<size)
  (v:Value) (n:Nat) (xs:List Value) (hs:a.eval s=v) (hown:w.ownsRow base e size v n xs)
  (ad:Addr) (m c:Nat) (news:List Value) (hx:a.eval x=.slice (some ad) m c) (hl:news.length=m * size) (hnews:∀j u,news[j]?=some u→w.cell? (ad.add j)=some u) (h1:∀u∈news,u.oneCell'=true)
  (h63:n+m≤maxLen) (hbytes:(n+m) * bytes≤140737488355328) (hbase:base≤w.heap.size)
  (h:∀v' w',w'.ownsRow base e size v' (n+m) (xs ++ news)→w.grownBy w' v.ownBlock→(v'.ownBlock=v.ownBlock∨v'.ownBlock=some w.heap.size)→K (a.put o.dst v') w') :
  if Region.wanted o (yielded ops a.tmps)=true then Oper.wp P o a w K Q else E:=by
 have hw:Region.wanted o (yielded ops a.tmps)=true:=by simp [Region.wanted,hgd]
 rw [if_pos hw]
 obtain ⟨v',w',hr,h2,h3,h4,h5⟩:=run_append_own_at (P:=P) w base t o.type e i z size bytes ht hi hz hsize hby hzs hsz v n xs hown ad m c news hl hnews h1 h63 hbytes hbase
 unfold Oper.wp execOp
 simp only [ho,resolve,invoke,builtin,Sem.run_bind,Sem.run_pure,Result.andThen_ok,List.map_toArray,List.map_cons,List.map_nil,hs,hx,hr]
 exact h v' w' h2 h3 h5
theorem zw {w:World} {base n size:Nat} {e:TypeId} {v:Value} {xs:List Value} (h:w.ownsRow base e size v (n+1) xs):∃g c,v=.slice (some ⟨g,0,none⟩) (n+1) c:=by
 obtain ⟨-,⟨-,h⟩ | ⟨g,cap,cur,h,-⟩⟩:=h
 ·cases h
 ·exact ⟨g,cap,h⟩
theorem WO (w:World) (x y:Value) (t:TypeId):∀j u,[x,y][j]?=some u→((w.alloc (.cells #[x,y] t)).drew).cell? ((⟨w.heap.size,0,none⟩:Addr).add j)=some u:=by
 intro j u hj
 match j,hj with
 | 0,hj =>
  simp at hj
  subst hj
  simp [Addr.add]
 | 1,hj =>
  simp at hj
  subst hj
  simp [Addr.add]
 | j+2,hj=>simp at hj
theorem WQ (x y:Int):∀u∈[Value.int .i64 x,.int .i64 y],u.oneCell'=true:=by
 intro u hu
 simp at hu
 rcases hu with rfl | rfl <;> rfl
end Go.Proofs.YthomdlajobnmnaaGreatDoor
