/- part 20 of the proof -/
import Derived.Tactics
import Derived.Maps.AppendAt
import Derived.Deep.RegionLaw
import Derived.Test.YthomdlajobnmnaaGreatDoorV18
import Derived.Test.YthomdlajobnmnaaGreatDoorV19
set_option linter.unusedSimpArgs false
set_option linter.unusedVariables false
namespace Go.Proofs.YthomdlajobnmnaaGreatDoor
open Go.RowKit Go.Rex
structure mV (w:World) (A:Nat) (l:List Op):Prop where
 ex:∀(i:Nat) (o:Op),l[i]?=some o→w.cell? ⟨A,4 * i,none⟩=some (.int .i64 o.kind)∧w.cell? ⟨A,4 * i+1,none⟩=some (.int .i64 o.key)∧w.cell? ⟨A,4 * i+2,none⟩=some (.int .i64 o.val)∧w.cell? ⟨A,4 * i+3,none⟩=some (.int .i64 o.JZ)
def J4 (w:World) (v:Value) (j:Option Jb) (B:Nat→Prop):Prop :=
 match j with
 | none=>v=.pointer none
 | some x=>∃a,v=.pointer (some a)∧oD w a x B
def mW (l:List (Int × Int)):List Value:=l.flatMap fun x=>[.int .i64 x.1,.int .i64 x.2]
structure bD (w:World) (b base A:Nat) (k:Wk) (B:Nat→Prop):Prop where
 ex:∃(aR:Nat) (jv sv:Value) (c:Nat) (BR BJ:Nat→Prop),
  w.heap[b]?=some (.cells #[.pointer (some ⟨aR,0,none⟩),.slice (some ⟨A,0,none⟩) k.ops.length c,jv,.bool k.fK,sv] 44 (0,0)) ∧
  kz w ⟨aR,0,none⟩ k.r BR∧J4 w jv k.j BJ∧mV w A k.ops∧w.ownsRow base 39 2 sv k.said.length (mW k.said) ∧
  (¬BR b∧¬BJ b∧∀x,BR x→¬BJ x)∧(sv.ownBlock≠some b∧∀x,BR x∨BJ x→sv.ownBlock≠some x) ∧
  (A≠b∧¬BR A∧¬BJ A∧sv.ownBlock≠some A∧A<w.heap.size)∧∀x,x=b∨BR x∨BJ x∨sv.ownBlock=some x→B x
section
variable {w w':World} {b base A:Nat} {k:Wk} {B:Nat→Prop}
theorem bD.cells (h:bD w b base A k B):∃(aR:Nat) (jv sv:Value) (c:Nat),w.cell? ⟨b,0,none⟩=some (.pointer (some ⟨aR,0,none⟩))∧w.cell? ⟨b,1,none⟩=some (.slice (some ⟨A,0,none⟩) k.ops.length c)∧w.cell? ⟨b,2,none⟩=some jv∧w.cell? ⟨b,3,none⟩=some (.bool k.fK)∧w.cell? ⟨b,4,none⟩=some sv∧∀i,w.frozen? ⟨b,i,none⟩=false:=by
 obtain ⟨aR,jv,sv,c,BR,BJ,h1,-⟩:=h.ex
 refine ⟨aR,jv,sv,c,?_,?_,?_,?_,?_,fun i=>?_⟩
 all_goals
  first
   | unfold World.cell?
   | unfold World.frozen?
  rw [h1]
  first
   | rfl
   | simp
theorem mV.frame {l:List Op} (h:mV w A l) (hk:w'.heap[A]?=w.heap[A]?):mV w' A l:=⟨fun i o hi=>by
  have:=h.ex i o hi
  unfold World.cell? at *
  rw [hk]
  exact this⟩
theorem J4.frame {v:Value} {j:Option Jb} {BJ:Nat→Prop} (h:J4 w v j BJ) (hk:∀x,x<w.heap.size→BJ x→w'.heap[x]?=w.heap[x]?):J4 w' v j BJ:=by
 cases j with
 | none=>exact h
 | some x =>
  obtain ⟨a,e,hJ⟩:=h
  have:=(hJ.mono (B':=fun x=>BJ x∧x<w.heap.size) fun b p q=>⟨p,q⟩).frame fun b hb=>hk b hb.2 hb.1
  exact ⟨a,e,this.mono fun b p _=>p.1⟩
theorem jZ {v:Value} {n:Nat} {e:TypeId} {size:Nat} {xs:List Value} (h:w.ownsRow base e size v n xs) (hk:∀x,x<w.heap.size→v.ownBlock=some x→w'.heap[x]?=w.heap[x]?):w'.ownsRow base e size v n xs:=by
 obtain ⟨h1,h2 | ⟨g,cap,cur,h2,h3,h4,h5⟩⟩:=h
 ·exact ⟨h1,.inl h2⟩
 ·refine ⟨h1,.inr ⟨g,cap,cur,h2,h3,?_,h5⟩⟩
  rw [hk g ?_ (by rw [h2];rfl)]
  ·exact h4
  ·rcases Nat.lt_or_ge g w.heap.size with h | h
   ·exact h
   ·rw [Array.getElem?_eq_none h] at h4;cases h4
theorem DZ {v:Value} {n:Nat} {e:TypeId} {size:Nat} {xs:List Value} {x:Nat} (h:w.ownsRow base e size v n xs) (hx:v.ownBlock=some x):x<w.heap.size:=by
 obtain ⟨h1,⟨rfl,-⟩ | ⟨g,cap,cur,rfl,h3,h4,h5⟩⟩:=h
 ·cases hx
 ·obtain rfl:g=x:=Option.some.inj hx
  rcases Nat.lt_or_ge g w.heap.size with h | h
  ·exact h
  ·rw [Array.getElem?_eq_none h] at h4;cases h4
theorem bD.rt (h:bD w b base A k B):∃(aR:Nat) (BR:Nat→Prop),w.cell? ⟨b,0,none⟩=some (.pointer (some ⟨aR,0,none⟩))∧kz w ⟨aR,0,none⟩ k.r BR∧(∀x,BR x→(B x∧x<w.heap.size)∧x≠b) ∧
  ∀w' r' UN,kz w' ⟨aR,0,none⟩ r' UN→(∀x,UN x→w.heap.size≤x∨BR x)→bX w BR w'→bD w' b base A {k with r:=r'} fun x=>B x∨w.heap.size≤x:=by
 obtain ⟨aR,jv,sv,c,BR,BJ,h1,h2,h3,h4,h5,⟨d1,d2,d3⟩,⟨e1,e2⟩,⟨f1,f2,f3,f4,f5⟩,hB⟩:=h.ex
 have hb:b<w.heap.size:=by
  rcases Nat.lt_or_ge b w.heap.size with h | h
  ·exact h
  ·rw [Array.getElem?_eq_none h] at h1;cases h1
 refine ⟨aR,fun x=>BR x∧x<w.heap.size,by unfold World.cell?;rw [h1];rfl,h2.mono fun x p q=>⟨p,q⟩,fun x hx=>⟨⟨hB x (.inr (.inl hx.1)),hx.2⟩,fun e=>d1 (e ▸ hx.1)⟩,fun w' r' UN g1 g2 g3=>⟨aR,jv,sv,c,UN,fun x=>BJ x∧x<w.heap.size,?_,g1,?_,?_,?_,⟨?_,?_,?_⟩,⟨e1,?_⟩,⟨f1,?_,?_,f4,?_⟩,?_⟩⟩
 ·rw [g3.block b hb fun x=>d1 x.1];exact h1
 ·have:=h3.frame (w':=w') fun x hx hJ=>g3.block x hx fun y=>d3 x y.1 hJ
  cases hj:k.j with
  | none=>rw [hj] at this;exact this
  | some x =>
   rw [hj] at this h3
   obtain ⟨a,e,hJ⟩:=h3
   have hJ':=(hJ.mono (B':=fun x=>BJ x∧x<w.heap.size) fun b p q=>⟨p,q⟩).frame (w':=w') fun b hb=>g3.block b hb.2 fun y=>d3 b y.1 hb.1
   exact ⟨a,e,hJ'⟩
 ·exact h4.frame (g3.block A f5 fun x=>f2 x.1)
 ·exact jZ h5 fun x hx ho=>g3.block x hx fun y=>e2 x (.inl y.1) ho
 ·exact fun x=>(g2 b x).elim (fun y=>absurd hb (Nat.not_lt.2 y)) fun y=>d1 y.1
 ·exact fun x=>d2 x.1
 ·exact fun x hx hJ=>(g2 x hx).elim (fun y=>absurd hJ.2 (Nat.not_lt.2 y)) fun y=>d3 x y.1 hJ.1
 ·rintro x (hx | hx) ho
  ·exact (g2 x hx).elim (fun y=>absurd (DZ h5 ho) (Nat.not_lt.2 y)) fun y=>e2 x (.inl y.1) ho
  ·exact e2 x (.inr hx.1) ho
 ·exact fun x=>(g2 A x).elim (fun y=>absurd f5 (Nat.not_lt.2 y)) fun y=>f2 y.1
 ·exact fun x=>f3 x.1
 ·exact Nat.lt_of_lt_of_le f5 g3.size
 ·rintro x (hx | hx | hx | hx)
  ·exact .inl (hB x (.inl hx))
  ·exact (g2 x hx).elim .inr fun y=>.inl (hB x (.inr (.inl y.1)))
  ·exact .inl (hB x (.inr (.inr (.inl hx.1))))
  ·exact .inl (hB x (.inr (.inr (.inr hx))))
theorem bD.put (h:bD w b base A k B) (i:Nat) (x:Value) (j:Option Jb) (fK:Bool) (hj:i=2→j=none∧x=.pointer none) (hi:i=3→x=.bool fK) (hj':i≠2→j=k.j) (hi':i≠3→fK=k.fK) (h23:i=2∨i=3) :
  (w.frozen? ⟨b,i,none⟩=false)∧bD (w.setCell ⟨b,i,none⟩ x) b base A {k with j:=j,fK:=fK} B:=by
 obtain ⟨aR,jv,sv,c,BR,BJ,h1,h2,h3,h4,h5,⟨d1,d2,d3⟩,⟨e1,e2⟩,⟨f1,f2,f3,f4,f5⟩,hB⟩:=h.ex
 have hother:∀y,y≠b→(w.setCell ⟨b,i,none⟩ x).heap[y]?=w.heap[y]?:=fun y hy=>heap_setCell_other w ⟨b,i,none⟩ y _ hy
 have hsame:=heap_setCell_same w b i _ _ x h1
 have hsz:(w.setCell ⟨b,i,none⟩ x).heap.size=w.heap.size:=by simp [World.setCell]
 have hR:=h2.frame (w':=w.setCell ⟨b,i,none⟩ x) fun y hy=>hother y fun e=>d1 (e ▸ hy)
 have hO:=h4.frame (w':=w.setCell ⟨b,i,none⟩ x) (hother A f1)
 have hS:=jZ (w':=w.setCell ⟨b,i,none⟩ x) h5 fun y _ ho=>hother y fun e=>e1 (e ▸ ho)
 refine ⟨by unfold World.frozen?;rw [h1];rfl,?_⟩
 rcases h23 with rfl | rfl
 ·obtain ⟨rfl,rfl⟩:=hj rfl
  obtain rfl:=hi' (by decide)
  exact ⟨aR,.pointer none,sv,c,BR,BJ,hsame,hR,rfl,hO,hS,⟨d1,d2,d3⟩,⟨e1,e2⟩,⟨f1,f2,f3,f4,by rw [hsz];exact f5⟩,hB⟩
 ·obtain rfl:=hi rfl
  obtain rfl:=hj' (by decide)
  exact ⟨aR,jv,sv,c,BR,BJ,hsame,hR,h3.frame fun y _ hy=>hother y fun e=>d2 (e ▸ hy),hO,hS,⟨d1,d2,d3⟩,⟨e1,e2⟩,⟨f1,f2,f3,f4,by rw [hsz];exact f5⟩,hB⟩
theorem bD.Tp (h:bD w b base A k B) (hn:Nw w w') {aJ:Addr} {j:Jb} {Gu:Nat→Prop} (hJ:oD w' aJ j Gu) (hf:∀x,Gu x→w.heap.size≤x) :
  w'.frozen? ⟨b,2,none⟩=false∧bD (w'.setCell ⟨b,2,none⟩ (.pointer (some aJ))) b base A {k with j:=some j} fun x=>B x∨w.heap.size≤x:=by
 obtain ⟨aR,jv,sv,c,BR,BJ,h1,h2,h3,h4,h5,⟨d1,d2,d3⟩,⟨e1,e2⟩,⟨f1,f2,f3,f4,f5⟩,hB⟩:=h.ex
 have hb:b<w.heap.size:=by
  rcases Nat.lt_or_ge b w.heap.size with h | h
  ·exact h
  ·rw [Array.getElem?_eq_none h] at h1;cases h1
 have h1':w'.heap[b]?=_:=(hn.block b hb id).trans h1
 have hother:∀y,y≠b→(w'.setCell ⟨b,2,none⟩ (.pointer (some aJ))).heap[y]?=w'.heap[y]?:=fun y hy=>heap_setCell_other w' ⟨b,2,none⟩ y _ hy
 have hsame:=heap_setCell_same w' b 2 _ _ (.pointer (some aJ)) h1'
 have hsz:(w'.setCell ⟨b,2,none⟩ (.pointer (some aJ))).heap.size=w'.heap.size:=by simp [World.setCell]
 have hR:=((h2.mono (B':=fun x=>BR x∧x<w.heap.size) fun x p q=>⟨p,q⟩).frame (w':=w') fun y hy=>hn.block y hy.2 id).frame (w':=w'.setCell ⟨b,2,none⟩ (.pointer (some aJ))) fun y hy=>hother y fun e=>d1 (e ▸ hy.1)
 have hO:=(h4.frame (w':=w') (hn.block A f5 id)).frame (w':=w'.setCell ⟨b,2,none⟩ (.pointer (some aJ))) (hother A f1)
 have hS:=jZ (w':=w'.setCell ⟨b,2,none⟩ (.pointer (some aJ))) (jZ (w':=w') h5 fun y hy ho=>hn.block y hy id) fun y _ ho=>hother y fun e=>e1 (e ▸ ho)
 have hJ':=hJ.frame (w':=w'.setCell ⟨b,2,none⟩ (.pointer (some aJ))) fun y hy=>hother y fun e=>absurd (hf y hy) (Nat.not_le.2 (e ▸ hb))
 refine ⟨by unfold World.frozen?;rw [h1'];rfl,aR,.pointer (some aJ),sv,c,fun x=>BR x∧x<w.heap.size,Gu,hsame,hR,⟨aJ,rfl,hJ'⟩,hO,hS,⟨fun x=>d1 x.1,fun x=>absurd (hf b x) (Nat.not_le.2 hb),fun x hx y=>absurd (hf x y) (Nat.not_le.2 hx.2)⟩,⟨e1,?_⟩,⟨f1,fun x=>f2 x.1,fun x=>absurd (hf A x) (Nat.not_le.2 f5),f4,by rw [hsz];exact Nat.lt_of_lt_of_le f5 hn.size⟩,?_⟩
 ·rintro x (hx | hx) ho
  ·exact e2 x (.inl hx.1) ho
  ·exact absurd (DZ h5 ho) (Nat.not_lt.2 (hf x hx))
 ·rintro x (hx | hx | hx | hx)
  ·exact .inl (hB x (.inl hx))
  ·exact .inl (hB x (.inr (.inl hx.1)))
  ·exact .inr (hf x hx)
  ·exact .inl (hB x (.inr (.inr (.inr hx))))
theorem bD.jb (h:bD w b base A k B) {j:Jb} (hj:k.j=some j):∃(aJ:Addr) (BJ:Nat→Prop),w.cell? ⟨b,2,none⟩=some (.pointer (some aJ))∧oD w aJ j BJ∧(∀x,BJ x→(B x∧x<w.heap.size)∧x≠b) ∧
  ∀w' j' Gu,oD w' aJ j' Gu→(∀x,Gu x→w.heap.size≤x∨BJ x)→bX w BJ w'→bD w' b base A {k with j:=some j'} fun x=>B x∨w.heap.size≤x:=by
 obtain ⟨aR,jv,sv,c,BR,BJ,h1,h2,h3,h4,h5,⟨d1,d2,d3⟩,⟨e1,e2⟩,⟨f1,f2,f3,f4,f5⟩,hB⟩:=h.ex
 have hb:b<w.heap.size:=by
  rcases Nat.lt_or_ge b w.heap.size with h | h
  ·exact h
  ·rw [Array.getElem?_eq_none h] at h1;cases h1
 rw [hj] at h3
 obtain ⟨aJ,rfl,hJ⟩:=h3
 refine ⟨aJ,fun x=>BJ x∧x<w.heap.size,by unfold World.cell?;rw [h1];rfl,hJ.mono fun x p q=>⟨p,q⟩,fun x hx=>⟨⟨hB x (.inr (.inr (.inl hx.1))),hx.2⟩,fun e=>d2 (e ▸ hx.1)⟩,fun w' j' Gu g1 g2 g3=>⟨aR,_,sv,c,fun x=>BR x∧x<w.heap.size,Gu,?_,?_,⟨aJ,rfl,g1⟩,?_,?_,⟨?_,?_,?_⟩,⟨e1,?_⟩,⟨f1,?_,?_,f4,?_⟩,?_⟩⟩
 ·rw [g3.block b hb fun x=>d2 x.1];exact h1
 ·exact (h2.mono (B':=fun x=>BR x∧x<w.heap.size) fun x p q=>⟨p,q⟩).frame fun y hy=>g3.block y hy.2 fun z=>d3 y hy.1 z.1
 ·exact h4.frame (g3.block A f5 fun x=>f3 x.1)
 ·exact jZ h5 fun x hx ho=>g3.block x hx fun y=>e2 x (.inr y.1) ho
 ·exact fun x=>d1 x.1
 ·exact fun x=>(g2 b x).elim (fun y=>absurd hb (Nat.not_lt.2 y)) fun y=>d2 y.1
 ·exact fun x hx hJ=>(g2 x hJ).elim (fun y=>absurd hx.2 (Nat.not_lt.2 y)) fun y=>d3 x hx.1 y.1
 ·rintro x (hx | hx) ho
  ·exact e2 x (.inl hx.1) ho
  ·exact (g2 x hx).elim (fun y=>absurd (DZ h5 ho) (Nat.not_lt.2 y)) fun y=>e2 x (.inr y.1) ho
 ·exact fun x=>f2 x.1
 ·exact fun x=>(g2 A x).elim (fun y=>absurd f5 (Nat.not_lt.2 y)) fun y=>f3 y.1
 ·exact Nat.lt_of_lt_of_le f5 g3.size
 ·rintro x (hx | hx | hx | hx)
  ·exact .inl (hB x (.inl hx))
  ·exact .inl (hB x (.inr (.inl hx.1)))
  ·exact (g2 x hx).elim .inr fun y=>.inl (hB x (.inr (.inr (.inl y.1))))
  ·exact .inl (hB x (.inr (.inr (.inr hx))))
end
end Go.Proofs.YthomdlajobnmnaaGreatDoor
namespace Go.Proofs.YthomdlajobnmnaaGreatDoor
open Go.RowKit Go.Rex
section
variable {w w':World} {b base A:Nat} {k:Wk} {B:Nat→Prop}
theorem bD.J5 (h:bD w b base A k B):∃sv:Value,w.cell? ⟨b,4,none⟩=some sv∧w.ownsRow base 39 2 sv k.said.length (mW k.said) ∧
  ∀w1 w2 v' (x:Int × Int),Nw w w1→w1.grownBy w2 sv.ownBlock→w2.ownsRow base 39 2 v' (k.said.length+1) (mW k.said ++ [.int .i64 x.1,.int .i64 x.2])→(v'.ownBlock=sv.ownBlock∨v'.ownBlock=some w1.heap.size) →
   w2.frozen? ⟨b,4,none⟩=false∧w2.cell? ⟨b,4,none⟩=some sv∧bD (w2.setCell ⟨b,4,none⟩ v') b base A {k with said:=k.said ++ [x]} fun y=>B y∨w.heap.size≤y:=by
 obtain ⟨aR,jv,sv,c,BR,BJ,h1,h2,h3,h4,h5,⟨d1,d2,d3⟩,⟨e1,e2⟩,⟨f1,f2,f3,f4,f5⟩,hB⟩:=h.ex
 have hb:b<w.heap.size:=by
  rcases Nat.lt_or_ge b w.heap.size with h | h
  ·exact h
  ·rw [Array.getElem?_eq_none h] at h1;cases h1
 refine ⟨sv,by unfold World.cell?;rw [h1];rfl,h5,fun w1 w2 v' x hn hg ho hv=>?_⟩
 have old:∀y,y<w.heap.size→sv.ownBlock≠some y→w2.heap[y]?=w.heap[y]?:=fun y hy hne=>(hg.block y (Nat.lt_of_lt_of_le hy hn.size) fun e=>hne e.symm).trans (hn.block y hy id)
 have h1':w2.heap[b]?=_:=(old b hb e1).trans h1
 have hother:∀y,y≠b→(w2.setCell ⟨b,4,none⟩ v').heap[y]?=w2.heap[y]?:=fun y hy=>heap_setCell_other w2 ⟨b,4,none⟩ y _ hy
 have hsame:=heap_setCell_same w2 b 4 _ _ v' h1'
 have hsz:(w2.setCell ⟨b,4,none⟩ v').heap.size=w2.heap.size:=by simp [World.setCell]
 have hv':∀y,v'.ownBlock=some y→sv.ownBlock=some y∨w.heap.size≤y:=fun y hy=>by
  rcases hv with e | e
  ·exact .inl (e ▸ hy)
  ·rw [e] at hy
   cases hy
   exact .inr hn.size
 have hvb:v'.ownBlock≠some b:=fun e=>(hv' b e).elim e1 fun y=>absurd hb (Nat.not_lt.2 y)
 have hR:=((h2.mono (B':=fun x=>BR x∧x<w.heap.size) fun x p q=>⟨p,q⟩).frame (w':=w2) fun y hy=>old y hy.2 (e2 y (.inl hy.1))).frame (w':=w2.setCell ⟨b,4,none⟩ v') fun y hy=>hother y fun e=>d1 (e ▸ hy.1)
 have hO:=(h4.frame (w':=w2) (old A f5 f4)).frame (w':=w2.setCell ⟨b,4,none⟩ v') (hother A f1)
 have hS:=jZ (w':=w2.setCell ⟨b,4,none⟩ v') ho fun y _ hy=>hother y fun e=>hvb (e ▸ hy)
 have hJ:J4 (w2.setCell ⟨b,4,none⟩ v') jv k.j fun x=>BJ x∧x<w.heap.size:=by
  cases hj:k.j with
  | none=>rw [hj] at h3;exact h3
  | some z =>
   rw [hj] at h3
   obtain ⟨a,e,hJ⟩:=h3
   exact ⟨a,e,((hJ.mono (B':=fun x=>BJ x∧x<w.heap.size) fun x p q=>⟨p,q⟩).frame (w':=w2) fun y hy=>old y hy.2 (e2 y (.inr hy.1))).frame fun y hy=>hother y fun e=>d2 (e ▸ hy.1)⟩
 have hlen:mW (k.said ++ [x])=mW k.said ++ [.int .i64 x.1,.int .i64 x.2]:=by simp [mW]
 refine ⟨by unfold World.frozen?;rw [h1'];rfl,by unfold World.cell?;rw [h1'];rfl,aR,jv,v',c,fun x=>BR x∧x<w.heap.size,fun x=>BJ x∧x<w.heap.size,hsame,hR,hJ,hO,?_,⟨fun x=>d1 x.1,fun x=>d2 x.1,fun x hx y=>d3 x hx.1 y.1⟩,⟨hvb,?_⟩,⟨f1,fun x=>f2 x.1,fun x=>f3 x.1,?_,?_⟩,?_⟩
 ·show World.ownsRow _ base 39 2 v' (k.said ++ [x]).length (mW (k.said ++ [x]))
  rw [hlen,List.length_append,List.length_singleton]
  exact hS
 ·rintro y (hy | hy) ho
  ·exact (hv' y ho).elim (e2 y (.inl hy.1)) fun z=>absurd hy.2 (Nat.not_lt.2 z)
  ·exact (hv' y ho).elim (e2 y (.inr hy.1)) fun z=>absurd hy.2 (Nat.not_lt.2 z)
 ·exact fun e=>(hv' A e).elim f4 fun y=>absurd f5 (Nat.not_lt.2 y)
 ·rw [hsz]
  exact Nat.lt_of_lt_of_le f5 (Nat.le_trans hn.size hg.size)
 ·rintro y (hy | hy | hy | hy)
  ·exact .inl (hB y (.inl hy))
  ·exact .inl (hB y (.inr (.inl hy.1)))
  ·exact .inl (hB y (.inr (.inr (.inl hy.1))))
  ·exact (hv' y hy).elim (fun z=>.inl (hB y (.inr (.inr (.inr z))))) .inr
end
end Go.Proofs.YthomdlajobnmnaaGreatDoor
namespace Go.Proofs.YthomdlajobnmnaaGreatDoor
open Go.RowKit Go.Rex
structure Tq (w0 w:World) (b base A:Nat) (B0:Nat→Prop) (k0:Wk) (n:Nat) (k:Wk) (l:Lo) (t:RT):Prop where
 pe:Pe k l t
 go:k.go n=k0.go 200
 fuel:t.eH=0→k.rem<n
 mem:∃B,bD w b base A k B∧(∀x,B x→x<w.heap.size→B0 x∨w0.heap.size≤x)
 xG:bX w0 B0 w
theorem Tq.busy {w0 w:World} {b base A:Nat} {B0:Nat→Prop} {k0 k:Wk} {n:Nat} {l:Lo} {t:RT} (R:Tq w0 w b base A B0 k0 n k l t) :
  ∃rb,w.cell? ⟨b,0,none⟩=some (.pointer (some ⟨rb,0,none⟩))∧Calls Tryz.prog 36 #[.pointer (some ⟨rb,0,none⟩)] w fun e w'=>e=.returned (.bool (decide (t.eH≠0)))∧w'=w:=by
 obtain ⟨B,hW,-⟩:=R.mem
 obtain ⟨aR,BR,hc,hR,-⟩:=hW.rt
 obtain ⟨b',e,-,h18⟩:=hR.step
 rw [Addr.mk.injEq] at e
 rw [R.pe.rep.step] at h18
 refine ⟨aR,hc,?_⟩
 rw [e.1]
 exact Gr h18
theorem Tq.begin {w0 w:World} {b base A:Nat} {B0:Nat→Prop} {k0 k:Wk} {n:Nat} {l:Lo} {t:RT} {B:Nat→Prop} (hP:Pe k l t) (h0:t.eH=0) (hW:bD w b base A k B) {c:Ca} (hc:c.OK) :
  ∃rb,w.cell? ⟨b,0,none⟩=some (.pointer (some ⟨rb,0,none⟩))∧Calls Tryz.prog 37 #[.pointer (some ⟨rb,0,none⟩),mQ c] w fun e w'=>e=.returned .nilIface∧bD w' b base A {k with r:=(k.r.begin c).1} (fun x=>B x∨w.heap.size≤x)∧bX w B w':=by
 obtain ⟨aR,BR,hcell,hR,Ay,hnew⟩:=hW.rt
 have ho:=hP.ok
 have hk:=hP.rep.keeps
 have hok:qm k.r:=⟨⟨⟨by rw [hk.me];exact ho.me.1,by rw [hk.me];have:=ho.me;have:=ho.threads;omega⟩,by rw [hk.threads];exact ho.threads.1,by rw [hk.threads];exact ho.threads.2⟩,by rw [hk.notes,hP.notes];decide⟩
 refine ⟨aR,hcell,(JR hR hok (hP.rep.step.trans h0) hc).mono ?_⟩
 rintro e w' ⟨rfl,B',g1,g2,g3⟩
 exact ⟨rfl,hnew w' _ B' g1 g2 g3,g3.os,g3.tape,g3.output,g3.size,fun x hx hn=>g3.block x hx fun h=>hn (Ay x h).1.1⟩
theorem LQ {k:Wk} {l:Lo} {t:RT} (hP:Pe k l t):qm k.r:=by
 have ho:=hP.ok
 have hk:=hP.rep.keeps
 exact ⟨⟨⟨by rw [hk.me];exact ho.me.1,by rw [hk.me];have:=ho.me;have:=ho.threads;omega⟩,by rw [hk.threads];exact ho.threads.1,by rw [hk.threads];exact ho.threads.2⟩,by rw [hk.notes,hP.notes];decide⟩
theorem bD.bK {w:World} {b base A:Nat} {k:Wk} {B:Nat→Prop} (hW:bD w b base A k B) :
  ∃rb,w.cell? ⟨b,0,none⟩=some (.pointer (some ⟨rb,0,none⟩))∧Calls Tryz.prog 38 #[.pointer (some ⟨rb,0,none⟩)] w fun e w'=>e=.returned (iA k.r.bK)∧bD w' b base A k (fun x=>B x∨w.heap.size≤x)∧bX w B w'∧w'.heap[b]?=w.heap[b]?:=by
 obtain ⟨aR,BR,hcell,hR,Ay,hnew⟩:=hW.rt
 refine ⟨aR,hcell,(Td hR).mono ?_⟩
 rintro e w' ⟨rfl,B',g1,g2,g3⟩
 exact ⟨rfl,hnew w' _ B' g1 g2 g3,⟨g3.os,g3.tape,g3.output,g3.size,fun x hx hn=>g3.block x hx fun h=>hn (Ay x h).1.1⟩,g3.block b (World.block_lt_of_cell? _ _ hcell) fun h=>(Ay b h).2 rfl⟩
theorem bD.Yz {w:World} {b base A:Nat} {k:Wk} {B:Nat→Prop} (hW:bD w b base A k B) (h0:k.r.step≠0) :
  ∃rb,w.cell? ⟨b,0,none⟩=some (.pointer (some ⟨rb,0,none⟩))∧Calls Tryz.prog 39 #[.pointer (some ⟨rb,0,none⟩)] w fun e w'=>e=.returned (.tuple #[oz k.r.acc,.bool true])∧bD w' b base A k (fun x=>B x∨w.heap.size≤x)∧bX w B w':=by
 obtain ⟨aR,BR,hcell,hR,Ay,hnew⟩:=hW.rt
 refine ⟨aR,hcell,(VJ hR h0).mono ?_⟩
 rintro e w' ⟨rfl,B',g1,g2,g3⟩
 exact ⟨rfl,hnew w' _ B' g1 g2 g3,g3.os,g3.tape,g3.output,g3.size,fun x hx hn=>g3.block x hx fun h=>hn (Ay x h).1.1⟩
theorem bD.YA {w:World} {b base A:Nat} {k:Wk} {B:Nat→Prop} {x:Rp} (hW:bD w b base A k B) (hk:mq k.r x) :
  ∃rb,w.cell? ⟨b,0,none⟩=some (.pointer (some ⟨rb,0,none⟩))∧Calls Tryz.prog 40 #[.pointer (some ⟨rb,0,none⟩),iA x] w fun e w'=>e=.returned .nilIface∧bD w' b base A {k with r:=(k.r.bG x).1} (fun x=>B x∨w.heap.size≤x)∧bX w B w':=by
 obtain ⟨aR,BR,hcell,hR,Ay,hnew⟩:=hW.rt
 refine ⟨aR,hcell,(VI hR hk).mono ?_⟩
 rintro e w' ⟨rfl,B',g1,g2,g3⟩
 exact ⟨rfl,hnew w' _ B' g1 g2 g3,g3.os,g3.tape,g3.output,g3.size,fun x hx hn=>g3.block x hx fun h=>hn (Ay x h).1.1⟩
theorem bD.N8 {w:World} {b base A:Nat} {k:Wk} {B:Nat→Prop} {j:Jb} {x:Rp} (hW:bD w b base A k B) (hj:k.j=some j) (ht:-1000000000000≤j.top.tag∧j.top.tag≤1000000000000) :
  ∃aJ,w.cell? ⟨b,2,none⟩=some (.pointer (some aJ))∧Calls Tryz.prog 30 #[.pointer (some aJ),iA x] w fun e w'=>e=.returned (mQ (j.next x).2)∧bD w' b base A {k with j:=some (j.next x).1} (fun x=>B x∨w.heap.size≤x)∧bX w B w'∧w'.heap[b]?=w.heap[b]?:=by
 obtain ⟨aJ,BJ,hcell,hJ,QJ,hnew⟩:=hW.jb hj
 refine ⟨aJ,hcell,(VO hJ ht).mono ?_⟩
 rintro e w' ⟨rfl,B',g1,g2,g3⟩
 exact ⟨rfl,hnew w' _ B' g1 g2 g3,⟨g3.os,g3.tape,g3.output,g3.size,fun x hx hn=>g3.block x hx fun h=>hn (QJ x h).1.1⟩,g3.block b (World.block_lt_of_cell? _ _ hcell) fun h=>(QJ b h).2 rfl⟩
theorem VP {k:Wk} {l:Lo} {t:RT} {x:Rp} (hP:Pe k l t) (h0:t.eH≠0) (hx:x.word=Wd.zero∨x.word=Wd.eQ 1):mq k.r x:=by
 have hs:=hP.rep.step
 have hm:=hP.rep.more
 have hk:=hP.rep.keeps
 have hw:XO x.word:=by rcases hx with e | e <;> rw [e] <;> exact ⟨⟨by decide,by decide⟩,by decide,by decide⟩
 have hf:k.r.freed=0:=hk.freed.trans hP.freed
 have fin:∀n:Int,k.r.step=n→n≠13→n≠15→n≠16→(n=4→0≤k.r.index∧k.r.index≤8)→(n=5∨n=6∨n=7→0≤k.r.call.i∧k.r.call.i<9)→mq k.r x:=fun n hn a b c d e =>
  ⟨LQ hP,fun h=>absurd (hn.symm.trans h) a,fun h=>absurd (hn.symm.trans h) b,hw,by rw [hf];decide,fun h=>absurd (hn.symm.trans h) c,by rw [hs];exact h0,fun h=>d (hn.symm.trans h),fun h=>e (by rw [←hn];exact h)⟩
 have hc6:(0:Int)≤(Ca.of 6).i∧(Ca.of 6).i<9:=by decide
 rcases hP.st with ⟨-,-,⟨y,rfl⟩ | ⟨s,rfl⟩ | ⟨i,hi,rfl⟩⟩ | ⟨-,-,y,rfl⟩ | ⟨o,-,-,-,-,⟨y,rfl⟩ | rfl | ⟨s,rfl⟩⟩ | ⟨o,-,-,-,-,⟨y,rfl⟩ | rfl | ⟨-,rfl⟩ | ⟨-,f,v,-,rfl⟩⟩
 ·exact absurd rfl h0
 ·exact fin 2 hs (by decide) (by decide) (by decide) (fun h=>by cases h) (fun h=>by rcases h with h | h | h <;> cases h)
 ·exact fin 4 hs (by decide) (by decide) (by decide) (fun _=>by rw [show k.r.index=(i:Int) from hm];omega) (fun h=>by rcases h with h | h | h <;> cases h)
 ·exact absurd rfl h0
 ·exact absurd rfl h0
 ·exact fin 3 hs (by decide) (by decide) (by decide) (fun h=>by cases h) (fun h=>by rcases h with h | h | h <;> cases h)
 ·exact fin 2 hs (by decide) (by decide) (by decide) (fun h=>by cases h) (fun h=>by rcases h with h | h | h <;> cases h)
 ·exact absurd rfl h0
 ·exact fin 5 hs (by decide) (by decide) (by decide) (fun h=>by cases h) (fun _=>by rw [show k.r.call=Ca.of 6 from hm];exact hc6)
 ·exact fin 6 hs (by decide) (by decide) (by decide) (fun h=>by cases h) (fun _=>by rw [show k.r.call=Ca.of 6 from hm.1];exact hc6)
 ·exact fin 7 hs (by decide) (by decide) (by decide) (fun h=>by cases h) (fun _=>by rw [show k.r.call=Ca.of 6 from hm];exact hc6)
end Go.Proofs.YthomdlajobnmnaaGreatDoor
namespace Go.Proofs.YthomdlajobnmnaaGreatDoor
open Go.RowKit Go.Rex
structure Ae (I:Nat→Wk→Prop):Prop where
 rt:∀n k,I n k→qm k.r
 len:∀n k,I n k→k.ops.length≤100
 leave:∀n k,I (n+1) k→k.r.step=0→k.j=none→k.fK=true→(k.r.begin (Ca.of 2)).2=true∧I n {k with fK:=false,r:=(k.r.begin (Ca.of 2)).1}
 start:∀n k,I (n+1) k→k.r.step=0→k.j=none→k.fK=false→k.said.length<k.ops.length→(k.ops.getD k.said.length ⟨0,0,0,0⟩).gL∧(k.r.begin (Ca.of 1)).2=true∧I n {k with j:=some (Jb.new (k.ops.getD k.said.length ⟨0,0,0,0⟩)),fK:=true,r:=(k.r.begin (Ca.of 1)).1}
 next:∀n k j,I (n+1) k→k.r.step=0→k.j=some j→(-1000000000000≤j.top.tag∧j.top.tag≤1000000000000) ∧
  (((j.next k.r.bK).2.kind=12∧k.said.length<k.ops.length∧I n {k with said:=k.said ++ [((j.next k.r.bK).2.code,(j.next k.r.bK).2.val)],j:=none}) ∨
   ((j.next k.r.bK).2.kind≠12∧(j.next k.r.bK).2.OK∧(k.r.begin (j.next k.r.bK).2).2=true∧I n {k with j:=some (j.next k.r.bK).1,r:=(k.r.begin (j.next k.r.bK).2).1}))
section
variable {w w0 w1:World} {b base A n:Nat} {k k0:Wk} {B B0 B1 F G:Nat→Prop} {I:Nat→Wk→Prop}
theorem ny (h:bX w0 F w) (h1:bX w G w1) (hG:∀x,G x→x<w.heap.size→F x∨w0.heap.size≤x):bX w0 F w1 :=
 ⟨h1.os.trans h.os,h1.tape.trans h.tape,h1.output.trans h.output,Nat.le_trans h.size h1.size,fun k hk hn=>(h1.block k (Nat.lt_of_lt_of_le hk h.size) fun h'=>(hG k h' (Nat.lt_of_lt_of_le hk h.size)).elim hn fun z=>absurd hk (Nat.not_lt.2 z)).trans (h.block k hk hn)⟩
theorem bD.XZ (hW:bD w b base A k B) (hk:qm k.r) (h0:k.r.step=0) {c:Ca} (hc:c.OK) :
  ∃rb,w.cell? ⟨b,0,none⟩=some (.pointer (some ⟨rb,0,none⟩))∧Calls Tryz.prog 37 #[.pointer (some ⟨rb,0,none⟩),mQ c] w fun e w'=>e=.returned .nilIface∧bD w' b base A {k with r:=(k.r.begin c).1} (fun x=>B x∨w.heap.size≤x)∧bX w B w':=by
 obtain ⟨aR,BR,hcell,hR,Ay,hnew⟩:=hW.rt
 refine ⟨aR,hcell,(JR hR hk h0 hc).mono ?_⟩
 rintro e w' ⟨rfl,B',g1,g2,g3⟩
 exact ⟨rfl,hnew w' _ B' g1 g2 g3,g3.os,g3.tape,g3.output,g3.size,fun x hx hn=>g3.block x hx fun h=>hn (Ay x h).1.1⟩
theorem bD.N9 (hW:bD w b base A k B) :
  ∃rb,w.cell? ⟨b,0,none⟩=some (.pointer (some ⟨rb,0,none⟩))∧Calls Tryz.prog 36 #[.pointer (some ⟨rb,0,none⟩)] w fun e w'=>e=.returned (.bool (decide (k.r.step≠0)))∧w'=w:=by
 obtain ⟨aR,BR,hc,hR,-⟩:=hW.rt
 obtain ⟨b',e,-,h18⟩:=hR.step
 rw [Addr.mk.injEq] at e
 refine ⟨aR,hc,?_⟩
 rw [e.1]
 exact Gr h18
structure WG (I:Nat→Wk→Prop) (w0 w:World) (b base A:Nat) (B0:Nat→Prop) (k0:Wk) (n:Nat) (k:Wk):Prop where
 inv:I n k
 go:k.go n=k0.go 200
 mem:∃B,bD w b base A k B∧∀x,B x→x<w.heap.size→B0 x∨w0.heap.size≤x
 xG:bX w0 B0 w
theorem WG.next {k1:Wk} {m:Nat} (R:WG I w0 w b base A B0 k0 n k) (hB:∀x,B x→x<w.heap.size→B0 x∨w0.heap.size≤x) (hI:I m k1) (hg:k1.go m=k.go n) (hW:bD w1 b base A k1 B1) (hB1:∀x,B1 x→x<w1.heap.size→B x∨w.heap.size≤x) (hw:bX w G w1) (hG:∀x,G x→x<w.heap.size→B x):WG I w0 w1 b base A B0 k0 m k1 :=
 ⟨hI,hg.trans R.go,⟨B1,hW,fun x h1 h2=>(hB1 x h1 h2).elim (fun h=>by
   rcases Nat.lt_or_ge x w.heap.size with h' | h'
   · exact hB x h h'
   · exact .inr (Nat.le_trans R.xG.size h')) fun h=>.inr (Nat.le_trans R.xG.size h)⟩,ny R.xG hw fun x h1 h2=>hB x (hG x h1 h2) h2⟩
end
end Go.Proofs.YthomdlajobnmnaaGreatDoor
namespace Go.Proofs.YthomdlajobnmnaaGreatDoor
open Go.RowKit Go.Rex
def lS {α:Type} (f:Nat→α) (i:Nat) (x:α):Nat→α:=fun k=>if k=i then x else f k
theorem dC {α:Type} (f:Nat→α) (i:Nat) (x:α):lS f i x i=x:=if_pos rfl
theorem gq {α:Type} (f:Nat→α) {i k:Nat} (x:α) (h:k≠i):lS f i x k=f k:=if_neg h
section
variable {w w':World} {b base A:Nat} {k:Wk} {B B':Nat→Prop}
theorem bD.frame (h:bD w b base A k B) (hk:∀x,x<w.heap.size→B x→w'.heap[x]?=w.heap[x]?) (hA:w'.heap[A]?=w.heap[A]?) (hs:w.heap.size≤w'.heap.size):bD w' b base A k fun x=>B x∧x<w.heap.size:=by
 obtain ⟨aR,jv,sv,c,BR,BJ,h1,h2,h3,h4,h5,⟨d1,d2,d3⟩,⟨e1,e2⟩,⟨f1,f2,f3,f4,f5⟩,hB⟩:=h.ex
 have hb:b<w.heap.size:=by
  rcases Nat.lt_or_ge b w.heap.size with h | h
  ·exact h
  ·rw [Array.getElem?_eq_none h] at h1;cases h1
 refine ⟨aR,jv,sv,c,fun x=>BR x∧x<w.heap.size,fun x=>BJ x∧x<w.heap.size,?_,?_,?_,h4.frame hA,jZ h5 fun x hx ho=>hk x hx (hB x (.inr (.inr (.inr ho)))),⟨fun x=>d1 x.1,fun x=>d2 x.1,fun x hx y=>d3 x hx.1 y.1⟩,⟨e1,fun x hx=>e2 x (hx.imp And.left And.left)⟩,⟨f1,fun x=>f2 x.1,fun x=>f3 x.1,f4,Nat.lt_of_lt_of_le f5 hs⟩,?_⟩
 ·rw [hk b hb (hB b (.inl rfl))];exact h1
 ·exact (h2.mono (B':=fun x=>BR x∧x<w.heap.size) fun x p q=>⟨p,q⟩).frame fun x hx=>hk x hx.2 (hB x (.inr (.inl hx.1)))
 ·cases hj:k.j with
  | none=>rw [hj] at h3;exact h3
  | some z =>
   rw [hj] at h3
   obtain ⟨a,e,hJ⟩:=h3
   exact ⟨a,e,(hJ.mono (B':=fun x=>BJ x∧x<w.heap.size) fun x p q=>⟨p,q⟩).frame fun x hx=>hk x hx.2 (hB x (.inr (.inr (.inl hx.1))))⟩
 ·rintro x (hx | hx | hx | hx)
  ·exact ⟨hB x (.inl hx),hx ▸ hb⟩
  ·exact ⟨hB x (.inr (.inl hx.1)),hx.2⟩
  ·exact ⟨hB x (.inr (.inr (.inl hx.1))),hx.2⟩
  ·exact ⟨hB x (.inr (.inr (.inr hx))),DZ h5 hx⟩
theorem bD.mono (h:bD w b base A k B) (hB:∀x,B x→x<w.heap.size→B' x):bD w b base A k B':=by
 obtain ⟨aR,jv,sv,c,BR,BJ,h1,h2,h3,h4,h5,h6,h7,h8,h9⟩:=(h.frame (w':=w) (fun _ _ _=>rfl) rfl (Nat.le_refl _)).ex
 exact ⟨aR,jv,sv,c,BR,BJ,h1,h2,h3,h4,h5,h6,h7,h8,fun x hx=>hB x (h9 x hx).1 (h9 x hx).2⟩
theorem bD.self (h:bD w b base A k B):B b∧b<w.heap.size∧A<w.heap.size:=by
 obtain ⟨aR,jv,sv,c,BR,BJ,h1,h2,h3,h4,h5,h6,h7,h8,h9⟩:=h.ex
 refine ⟨h9 b (.inl rfl),?_,h8.2.2.2.2⟩
 rcases Nat.lt_or_ge b w.heap.size with h | h
 ·exact h
 ·rw [Array.getElem?_eq_none h] at h1;cases h1
end
structure jW (w:World) (aP:Addr) (aW A:Nat→Nat) (base n:Nat) (p:PS) (W:Nat→Wk) (F:Nat→Prop):Prop where
 ex:∃(BP:Nat→Prop) (BM:Nat→Nat→Prop),iK w aP p BP∧(∀k,k<n→bD w (aW k) base (A k) (W k) (BM k))∧(∀k,k<n→∀b,BP b→¬BM k b)∧(∀j k,j<n→k<n→j≠k→∀b,BM j b→¬BM k b)∧(∀b,BP b→F b)∧(∀k,k<n→∀b,BM k b→F b)∧∀k,k<n→¬F (A k)
section
variable {w w':World} {aP:Addr} {aW A:Nat→Nat} {base n:Nat} {p p':PS} {W:Nat→Wk} {F F':Nat→Prop}
theorem jW.mono (h:jW w aP aW A base n p W F) (hF:∀b,F b→b<w.heap.size→F' b) (hA:∀k,k<n→¬F' (A k)):jW w aP aW A base n p W F':=by
 obtain ⟨BP,BM,h1,h2,h3,h4,h5,h6,h7⟩:=h.ex
 exact ⟨fun b=>BP b∧b<w.heap.size,fun k b=>BM k b∧b<w.heap.size,h1.mono fun b x y=>⟨x,y⟩,fun k hk=>(h2 k hk).mono fun b x y=>⟨x,y⟩,fun k hk b x y=>h3 k hk b x.1 y.1,fun j k hj hk hjk b x y=>h4 j k hj hk hjk b x.1 y.1,fun b x=>hF b (h5 b x.1) x.2,fun k hk b x=>hF b (h6 k hk b x.1) x.2,hA⟩
theorem jW.frame (h:jW w aP aW A base n p W F) (hk:∀b,b<w.heap.size→(F b∨∃k,k<n∧b=A k)→w'.heap[b]?=w.heap[b]?) (hs:w.heap.size≤w'.heap.size):jW w' aP aW A base n p W F:=by
 obtain ⟨BP,BM,h1,h2,h3,h4,h5,h6,h7⟩:=h.ex
 refine ⟨fun b=>BP b∧b<w.heap.size,fun k b=>BM k b∧b<w.heap.size,(h1.mono (B':=fun b=>BP b∧b<w.heap.size) fun b x y=>⟨x,y⟩).frame fun b hb=>hk b hb.2 (.inl (h5 b hb.1)),fun k hkn=>(h2 k hkn).frame (fun b hb x=>hk b hb (.inl (h6 k hkn b x))) (hk _ (h2 k hkn).self.2.2 (.inr ⟨k,hkn,rfl⟩)) hs,fun k hk b x y=>h3 k hk b x.1 y.1,fun j k hj hk hjk b x y=>h4 j k hj hk hjk b x.1 y.1,fun b x=>h5 b x.1,fun k hk b x=>h6 k hk b x.1,h7⟩
theorem jW.ZY (h:jW w aP aW A base n p W F) {i:Nat} (hi:i<n):∃BP B:Nat→Prop,iK w aP p BP∧bD w (aW i) base (A i) (W i) B∧(∀x,BP x→¬B x)∧(∀x,BP x→x<w.heap.size)∧(∀x,B x→x<w.heap.size)∧(∀x,BP x∨B x→F x) ∧
  ∀w' k' p' (qx B':Nat→Prop),iK w' aP p' qx→bD w' (aW i) base (A i) k' B'→(∀x,qx x→BP x∨w.heap.size≤x)→(∀x,B' x→B x∨w.heap.size≤x)→(∀x,qx x→¬B' x)→bX w (fun x=>BP x∨B x) w' →
   jW w' aP aW A base n p' (lS W i k') fun x=>F x∨w.heap.size≤x:=by
 obtain ⟨BP,BM,h1,h2,h3,h4,h5,h6,h7⟩:=h.ex
 refine ⟨fun b=>BP b∧b<w.heap.size,fun b=>BM i b∧b<w.heap.size,h1.mono fun b x y=>⟨x,y⟩,(h2 i hi).mono fun b x y=>⟨x,y⟩,fun x a b=>h3 i hi x a.1 b.1,fun x a=>a.2,fun x a=>a.2,fun x a=>a.elim (fun a=>h5 x a.1) fun a=>h6 i hi x a.1,?_⟩
 intro w' k' p' qx B' g1 g2 g3 g4 g5 g6
 have hfr:∀k,k<n→k≠i→bD w' (aW k) base (A k) (W k) fun b=>BM k b∧b<w.heap.size:=fun k hk hne=>by
  refine (h2 k hk).frame (fun x hx hb=>g6.block x hx ?_) (g6.block _ (h2 k hk).self.2.2 ?_) g6.size
  ·rintro (q | q)
   ·exact h3 k hk x q.1 hb
   ·exact h4 i k hi hk (fun e=>hne e.symm) x q.1 hb
  ·rintro (q | q)
   ·exact h7 k hk (h5 _ q.1)
   ·exact h7 k hk (h6 i hi _ q.1)
 refine ⟨qx,lS (fun k b=>BM k b∧b<w.heap.size) i B',g1,fun k hk=>?_,fun k hk b x=>?_,fun j k hj hk hjk b=>?_,fun b x=>(g3 b x).imp (fun q=>h5 b q.1) id,fun k hk b=>?_,fun k hk q=>q.elim (h7 k hk) fun q=>absurd (h2 k hk).self.2.2 (Nat.not_lt.2 q)⟩
 ·by_cases hki:k=i
  ·rw [hki,dC,dC];exact g2
  ·rw [gq _ _ hki,gq _ _ hki];exact hfr k hk hki
 ·by_cases hki:k=i
  ·rw [hki,dC];exact g5 b x
  ·rw [gq _ _ hki]
   exact fun y=>(g3 b x).elim (fun q=>h3 k hk b q.1 y.1) fun q=>absurd y.2 (Nat.not_lt.2 q)
 ·by_cases q1:j=i
  ·have q2:k≠i:=fun e=>hjk (q1.trans e.symm)
   rw [q1,dC,gq _ _ q2]
   exact fun x y=>(g4 b x).elim (fun q=>h4 i k hi hk (fun e=>q2 e.symm) b q.1 y.1) fun q=>absurd y.2 (Nat.not_lt.2 q)
  ·rw [gq _ _ q1]
   by_cases q2:k=i
   ·rw [q2,dC]
    exact fun y x=>(g4 b x).elim (fun q=>h4 i j hi hj (fun e=>q1 e.symm) b q.1 y.1) fun q=>absurd y.2 (Nat.not_lt.2 q)
   ·rw [gq _ _ q2]
    exact fun x y=>h4 j k hj hk hjk b x.1 y.1
 ·by_cases hki:k=i
  ·rw [hki,dC]
   exact fun x=>(g4 b x).imp (fun q=>h6 i hi b q.1) id
  ·rw [gq _ _ hki]
   exact fun x=>.inl (h6 k hk b x.1)
theorem jW.nil {B:Nat→Prop} (h:iK w aP p B):jW w aP aW A base 0 p W B :=
 ⟨B,fun _ _=>False,h,fun k hk=>absurd hk (Nat.not_lt_zero k),fun k hk=>absurd hk (Nat.not_lt_zero k),fun j k hj=>absurd hj (Nat.not_lt_zero j),fun _ h=>h,fun k hk=>absurd hk (Nat.not_lt_zero k),fun k hk=>absurd hk (Nat.not_lt_zero k)⟩
theorem jW.add {b:Nat} {k:Wk} {B:Nat→Prop} (h:jW w aP aW A base n p W F) (hm:bD w b base (A n) k B) (hd:∀x,B x→¬F x) (hA:∀i,i<n→¬B (A i)) (hAn:¬F (A n)) (hAB:¬B (A n)):jW w aP (lS aW n b) A base (n+1) p (lS W n k) fun x=>F x∨B x:=by
 obtain ⟨BP,BM,h1,h2,h3,h4,h5,h6,h7⟩:=h.ex
 refine ⟨BP,lS BM n B,h1,fun k hk=>?_,fun k hk x=>?_,fun j k hj hk hjk x=>?_,fun x hx=>.inl (h5 x hx),fun k hk x=>?_,fun k hk=>?_⟩
 ·by_cases hkn:k=n
  ·rw [hkn,dC,dC,dC];exact hm
  ·rw [gq _ _ hkn,gq _ _ hkn,gq _ _ hkn];exact h2 k (by omega)
 ·by_cases hkn:k=n
  ·rw [hkn,dC];exact fun a b=>hd x b (h5 x a)
  ·rw [gq _ _ hkn];exact h3 k (by omega) x
 ·by_cases q1:j=n
  ·have q2:k≠n:=fun e=>hjk (q1.trans e.symm)
   rw [q1,dC,gq _ _ q2]
   exact fun a b=>hd x a (h6 k (by omega) x b)
  ·rw [gq _ _ q1]
   by_cases q2:k=n
   ·rw [q2,dC]
    exact fun a b=>hd x b (h6 j (by omega) x a)
   ·rw [gq _ _ q2]
    exact h4 j k (by omega) (by omega) hjk x
 ·by_cases hkn:k=n
  ·rw [hkn,dC];exact .inr
  ·rw [gq _ _ hkn];exact fun a=>.inl (h6 k (by omega) x a)
 ·by_cases hkn:k=n
  ·rw [hkn];exact fun q=>q.elim hAn hAB
  ·exact fun q=>q.elim (h7 k (by omega)) (hA k (by omega))
end
theorem VQ {w:World} {ρ:Env} {ν:Nat→Addr} {b base A c:Nat} {r:RS} {l:List Op} (h:aI ρ ν dB w) (hr:aa ρ 0 4=r) (ho:bH ρ 4) (hn:¬gH ρ ν dB b) (hA:A<w.heap.size) (hAb:A≠b) (LU:¬gH ρ ν dB A)
  (hops:mV w A l) (hb:w.heap[b]?=some (.cells #[.pointer (some (ν 0)),.slice (some ⟨A,0,none⟩) l.length c,.pointer none,.bool false,.slice none 0 0] 44 (0,0))) :
  bD w b base A ⟨r,l,none,false,[]⟩ fun x=>x=b∨gH ρ ν dB x:=by
 have h0:∃aR,ν 0=⟨aR,0,none⟩:=by
  obtain ⟨g1,-⟩:=h.aD 0 _ rfl rfl rfl
  exact ⟨_,g1⟩
 obtain ⟨aR,h0⟩:=h0
 rw [h0] at hb
 refine ⟨aR,.pointer none,.slice none 0 0,c,gH ρ ν dB,fun _=>False,hb,⟨ρ,ν,h0,h,hr,ho,fun _ h=>h⟩,rfl,hops,⟨rfl,.inl ⟨rfl,rfl⟩⟩,⟨hn,id,fun _ _=>id⟩,⟨fun h=>(by cases h),fun _ _ h=>(by cases h)⟩,⟨hAb,LU,id,fun h=>(by cases h),hA⟩,?_⟩
 rintro x (hx | hx | hx | hx)
 ·exact .inl hx
 ·exact .inr hx
 ·exact hx.elim
 ·cases hx
end Go.Proofs.YthomdlajobnmnaaGreatDoor
namespace Go.Proofs.YthomdlajobnmnaaGreatDoor
open Go.RowKit Go.Rex
section
variable {k:Wk} {n:Nat} {j:Jb}
theorem Fe (h0:k.r.step≠0):k.go n=(k,none):=by
 cases n with
 | zero=>rfl
 | succ n =>
  unfold Wk.go
  rw [if_pos h0]
theorem VR (h0:k.r.step=0) (hj:k.j=none) (hi:k.fK=false) (hl:k.said.length≥k.ops.length):k.go (n+1)=(k,some false):=by
 rw [Wk.go,if_neg (fun h=>h h0),hj]
 simp only
 rw [if_neg (by rw [hi];decide),if_pos hl]
theorem Tt (h0:k.r.step=0) (hj:k.j=none) (hi:k.fK=true) (hb:(k.r.begin (Ca.of 2)).2=true):Wk.go n {k with fK:=false,r:=(k.r.begin (Ca.of 2)).1}=k.go (n+1):=by
 rw [Wk.go,if_neg (fun h=>h h0),hj]
 simp only
 rw [if_pos hi,if_neg (by rw [hb];decide)]
theorem Tu (h0:k.r.step=0) (hj:k.j=none) (hi:k.fK=false) (hl:k.said.length<k.ops.length) (hg:(k.ops.getD k.said.length ⟨0,0,0,0⟩).gL) (hb:(k.r.begin (Ca.of 1)).2=true) :
  Wk.go n {k with j:=some (Jb.new (k.ops.getD k.said.length ⟨0,0,0,0⟩)),fK:=true,r:=(k.r.begin (Ca.of 1)).1}=k.go (n+1):=by
 rw [Wk.go,if_neg (fun h=>h h0),hj]
 simp only
 rw [if_neg (by rw [hi];decide),if_neg (by omega),if_neg (fun h=>h hg),if_neg (by rw [hb];decide)]
theorem QK (h0:k.r.step=0) (hj:k.j=some j) (hk:(j.next k.r.bK).2.kind=12):Wk.go n {k with said:=k.said ++ [((j.next k.r.bK).2.code,(j.next k.r.bK).2.val)],j:=none}=k.go (n+1):=by
 rw [Wk.go,if_neg (fun h=>h h0),hj]
 simp only
 rw [if_pos hk]
theorem VS (h0:k.r.step=0) (hj:k.j=some j) (hk:(j.next k.r.bK).2.kind≠12) (hb:(k.r.begin (j.next k.r.bK).2).2=true):Wk.go n {k with j:=some (j.next k.r.bK).1,r:=(k.r.begin (j.next k.r.bK).2).1}=k.go (n+1):=by
 rw [Wk.go,if_neg (fun h=>h h0),hj]
 simp only
 rw [if_neg hk,if_neg (by rw [hb];decide)]
end
section
variable {w w' w0 w1:World} {b base A:Nat} {k:Wk} {B F G:Nat→Prop}
theorem Nw.drewN {w w':World} (h:Nw w w') (n:Nat):Nw w (w'.drewN n):=⟨h.os,h.tape,h.output,h.size,h.block⟩
theorem Nw.drew {w w':World} (h:Nw w w'):Nw w w'.drew:=⟨h.os,h.tape,h.output,h.size,h.block⟩
theorem bD.nw (h:bD w b base A k B) (hn:Nw w w'):bD w' b base A k fun x=>B x∧x<w.heap.size :=
 h.frame (fun x hx _=>hn.block x hx id) (hn.block _ h.self.2.2 id) hn.size
theorem bD.J6 (h:bD w b base A k B) (hj:k.j=none):w.cell? ⟨b,2,none⟩=some (.pointer none):=by
 obtain ⟨aR,jv,sv,c,BR,BJ,h1,h2,h3,-⟩:=h.ex
 rw [hj] at h3
 obtain rfl:jv=.pointer none:=h3
 unfold World.cell?
 rw [h1]
 rfl
theorem bD.said (h:bD w b base A k B):∃a c,w.cell? ⟨b,4,none⟩=some (.slice a k.said.length c):=by
 obtain ⟨aR,jv,sv,c,BR,BJ,h1,h2,h3,h4,⟨h5,h6⟩,-⟩:=h.ex
 have UO:w.cell? ⟨b,4,none⟩=some sv:=by
  unfold World.cell?
  rw [h1]
  rfl
 rcases h6 with ⟨rfl,e⟩ | ⟨g,cap,cur,rfl,-⟩
 ·exact ⟨none,0,by rw [UO,e]⟩
 ·exact ⟨_,_,UO⟩
theorem bD.Tv (h:bD w b base A k B):mV w A k.ops:=by
 obtain ⟨aR,jv,sv,c,BR,BJ,h1,h2,h3,h4,-⟩:=h.ex
 exact h4
theorem bD.setW (h:bD w b base A k B) (i:Nat) (x:Value):bX w B (w.setCell ⟨b,i,none⟩ x) :=
 ⟨rfl,rfl,rfl,by simp [World.setCell],fun y hy hn=>heap_setCell_other w ⟨b,i,none⟩ y _ fun e=>hn (e ▸ h.self.1)⟩
theorem QL (h:bX w F w') (hn:Nw w' w1):bX w F w1:=ny h hn fun x hx _=>hx.elim
theorem VT (h:bX w F w') (h1:bX w' F w1):bX w F w1:=ny h h1 fun x hx _=>.inl hx
end
end Go.Proofs.YthomdlajobnmnaaGreatDoor
namespace Go.Proofs.YthomdlajobnmnaaGreatDoor
open Go.RowKit Go.Rex
structure zq (w:World) (A:Nat) (B BP:Nat→Prop) (dV:Nat→Addr):Prop where
 d:∀x,BP x→¬B x
 bl:∀x,B x→x<w.heap.size
 pl:∀x,BP x→x<w.heap.size
 a:¬BP A∧A<w.heap.size
 sn:kU w dV
 z:∀k,k<8→¬B (dV k).block∧¬BP (dV k).block∧(dV k).block<w.heap.size
structure bE (w w':World) (b base A:Nat) (aP:Addr) (B BP:Nat→Prop) (k':Wk) (p':PS):Prop where
 ex:∃B' qx:Nat→Prop,iK w' aP p' qx∧bD w' b base A k' B'∧(∀x,qx x→BP x∨w.heap.size≤x)∧(∀x,B' x→B x∨w.heap.size≤x)∧(∀x,qx x→¬B' x)∧bX w (fun x=>BP x∨B x) w'
section
variable {w wa wb:World} {b base A:Nat} {k k':Wk} {aP:Addr} {p p':PS} {B BP:Nat→Prop} {dV:Nat→Addr} {rb:Nat}
theorem bE.of (hW:bD w b base A k B) (hP:iK w aP p BP) (hd:∀x,BP x→¬B x):bE w w b base A aP B BP k p :=
 ⟨B,BP,hP,hW,fun _ h=>.inl h,fun _ h=>.inl h,hd,bX.refl _ _⟩
theorem bE.wk (h:bE w wa b base A aP B BP k p):∃Ba,bD wa b base A k Ba∧(∀x,Ba x→x<wa.heap.size)∧∀wb k' B',bD wb b base A k' B'→(∀x,B' x→Ba x∨wa.heap.size≤x)→bX wa Ba wb→bE w wb b base A aP B BP k' p:=by
 obtain ⟨B1,D5,h1,h2,h3,h4,h5,h6⟩:=h.ex
 refine ⟨fun x=>B1 x∧x<wa.heap.size,h2.mono fun x p q=>⟨p,q⟩,fun x hx=>hx.2,fun wb k' B' g1 g2 g3=>⟨B',fun x=>D5 x∧x<wa.heap.size,?_,g1,fun x hx=>h3 x hx.1,fun x hx=>?_,fun x hx hy=>?_,ny h6 g3 fun x hx _=>(h4 x hx.1).imp .inr id⟩⟩
 ·exact (h1.mono (B':=fun x=>D5 x∧x<wa.heap.size) fun x p q=>⟨p,q⟩).frame fun x hx=>g3.block x hx.2 fun hy=>h5 x hx.1 hy.1
 ·rcases g2 x hx with g | g
  ·exact h4 x g.1
  ·exact .inr (Nat.le_trans h6.size g)
 ·rcases g2 x hy with g | g
  ·exact h5 x hx.1 g.1
  ·exact absurd hx.2 (Nat.not_lt.2 g)
theorem bE.pl (h:bE w wa b base A aP B BP k p) (hb:zq w A B BP dV):∃QM,iK wa aP p QM∧(∀x,QM x→BP x∨w.heap.size≤x)∧∀wb p' qx,iK wb aP p' qx→(∀x,qx x→wa.heap.size≤x∨QM x)→bX wa QM wb→bE w wb b base A aP B BP k p':=by
 obtain ⟨B1,D5,h1,h2,h3,h4,h5,h6⟩:=h.ex
 refine ⟨fun x=>D5 x∧x<wa.heap.size,h1.mono fun x p q=>⟨p,q⟩,fun x hx=>h3 x hx.1,fun wb p' qx g1 g2 g3=>⟨fun x=>B1 x∧x<wa.heap.size,qx,g1,h2.frame (fun x hx hy=>g3.block x hx fun hz=>h5 x hz.1 hy) (g3.block _ h2.self.2.2 fun hz=>?_) g3.size,fun x hx=>?_,fun x hx=>h4 x hx.1,fun x hx hy=>?_,ny h6 g3 fun x hx _=>(h3 x hx.1).imp .inl id⟩⟩
 ·exact (h3 _ hz.1).elim hb.a.1 fun q=>absurd hb.a.2 (Nat.not_lt.2 q)
 ·rcases g2 x hx with g | g
  ·exact .inr (Nat.le_trans h6.size g)
  ·exact h3 x g.1
 ·rcases g2 x hx with g | g
  ·exact absurd hy.2 (Nat.not_lt.2 g)
  ·exact h5 x g.1 hy.1
theorem bE.nw (h:bE w wa b base A aP B BP k p) (hn:Nw wa wb):bE w wb b base A aP B BP k p:=by
 obtain ⟨Ba,h1,h2,h3⟩:=h.wk
 exact h3 wb k _ (h1.nw hn) (fun x hx=>.inl hx.1) ⟨hn.os,hn.tape,hn.output,hn.size,fun x hx _=>hn.block x hx id⟩
theorem bE.cells (h:bE w wa b base A aP B BP k p):∃(aR:Nat) (jv sv:Value) (c:Nat),wa.cell? ⟨b,0,none⟩=some (.pointer (some ⟨aR,0,none⟩))∧wa.cell? ⟨b,1,none⟩=some (.slice (some ⟨A,0,none⟩) k.ops.length c)∧wa.cell? ⟨b,2,none⟩=some jv∧wa.cell? ⟨b,3,none⟩=some (.bool k.fK)∧wa.cell? ⟨b,4,none⟩=some sv∧∀i,wa.frozen? ⟨b,i,none⟩=false:=by
 obtain ⟨Ba,h1,-⟩:=h.wk
 exact h1.cells
theorem bE.J6 (h:bE w wa b base A aP B BP k p) (hj:k.j=none):wa.cell? ⟨b,2,none⟩=some (.pointer none):=by
 obtain ⟨Ba,h1,-⟩:=h.wk
 exact h1.J6 hj
theorem bE.said (h:bE w wa b base A aP B BP k p):∃a c,wa.cell? ⟨b,4,none⟩=some (.slice a k.said.length c):=by
 obtain ⟨Ba,h1,-⟩:=h.wk
 exact h1.said
theorem bE.Tv (h:bE w wa b base A aP B BP k p):mV wa A k.ops:=by
 obtain ⟨Ba,h1,-⟩:=h.wk
 exact h1.Tv
theorem bE.lt (h:bE w wa b base A aP B BP k p):b<wa.heap.size∧A<wa.heap.size:=by
 obtain ⟨Ba,h1,-⟩:=h.wk
 exact h1.self.2
theorem bE.ge (h:bE w wa b base A aP B BP k p):w.heap.size≤wa.heap.size:=by
 obtain ⟨B1,D5,-,-,-,-,-,h6⟩:=h.ex
 exact h6.size
theorem nz {w:World} {a:Addr} {x y:Nat} (h:w.cell? a=some (.pointer (some ⟨x,0,none⟩))) (h':w.cell? a=some (.pointer (some ⟨y,0,none⟩))):x=y:=by
 have:=h.symm.trans h'
 simpa using this
theorem bE.busy (h:bE w wa b base A aP B BP k p) (hc:wa.cell? ⟨b,0,none⟩=some (.pointer (some ⟨rb,0,none⟩))) :
  Calls Tryz.prog 36 #[.pointer (some ⟨rb,0,none⟩)] wa fun e w'=>e=.returned (.bool (decide (k.r.step≠0)))∧w'=wa:=by
 obtain ⟨Ba,h1,-⟩:=h.wk
 obtain ⟨LV,hc',hb⟩:=h1.N9
 obtain rfl:=nz hc hc'
 exact hb
theorem bE.begin (h:bE w wa b base A aP B BP k p) (hc:wa.cell? ⟨b,0,none⟩=some (.pointer (some ⟨rb,0,none⟩))) (hk:qm k.r) (h0:k.r.step=0) {c:Ca} (ho:c.OK) :
  Calls Tryz.prog 37 #[.pointer (some ⟨rb,0,none⟩),mQ c] wa fun e w'=>e=.returned .nilIface∧bE w w' b base A aP B BP {k with r:=(k.r.begin c).1} p:=by
 obtain ⟨Ba,h1,h2,h3⟩:=h.wk
 obtain ⟨LV,hc',hb⟩:=h1.XZ hk h0 ho
 obtain rfl:=nz hc hc'
 exact hb.mono fun e w' ⟨he,hW,hw⟩=>⟨he,h3 _ _ _ hW (fun x hx=>hx) hw⟩
theorem bE.bK (h:bE w wa b base A aP B BP k p) (hc:wa.cell? ⟨b,0,none⟩=some (.pointer (some ⟨rb,0,none⟩))) :
  Calls Tryz.prog 38 #[.pointer (some ⟨rb,0,none⟩)] wa fun e w'=>e=.returned (iA k.r.bK)∧bE w w' b base A aP B BP k p∧∀i,w'.cell? ⟨b,i,none⟩=wa.cell? ⟨b,i,none⟩:=by
 obtain ⟨Ba,h1,h2,h3⟩:=h.wk
 obtain ⟨LV,hc',hb⟩:=h1.bK
 obtain rfl:=nz hc hc'
 exact hb.mono fun e w' ⟨he,hW,hw,hc⟩=>⟨he,h3 _ _ _ hW (fun x hx=>hx) hw,fun i=>by unfold World.cell?;rw [hc]⟩
theorem bE.next (h:bE w wa b base A aP B BP k p) (hc:wa.cell? ⟨b,0,none⟩=some (.pointer (some ⟨rb,0,none⟩))) (h0:k.r.step≠0) :
  Calls Tryz.prog 39 #[.pointer (some ⟨rb,0,none⟩)] wa fun e w'=>e=.returned (.tuple #[oz k.r.acc,.bool true])∧bE w w' b base A aP B BP k p:=by
 obtain ⟨Ba,h1,h2,h3⟩:=h.wk
 obtain ⟨LV,hc',hb⟩:=h1.Yz h0
 obtain rfl:=nz hc hc'
 exact hb.mono fun e w' ⟨he,hW,hw⟩=>⟨he,h3 _ _ _ hW (fun x hx=>hx) hw⟩
theorem bE.bG (h:bE w wa b base A aP B BP k p) (hc:wa.cell? ⟨b,0,none⟩=some (.pointer (some ⟨rb,0,none⟩))) {x:Rp} (hk:mq k.r x) :
  Calls Tryz.prog 40 #[.pointer (some ⟨rb,0,none⟩),iA x] wa fun e w'=>e=.returned .nilIface∧bE w w' b base A aP B BP {k with r:=(k.r.bG x).1} p:=by
 obtain ⟨Ba,h1,h2,h3⟩:=h.wk
 obtain ⟨LV,hc',hb⟩:=h1.YA hk
 obtain rfl:=nz hc hc'
 exact hb.mono fun e w' ⟨he,hW,hw⟩=>⟨he,h3 _ _ _ hW (fun x hx=>hx) hw⟩
theorem bE.Zf (h:bE w wa b base A aP B BP k p) {j:Jb} (hj:k.j=some j):∃aJ,wa.cell? ⟨b,2,none⟩=some (.pointer (some aJ)):=by
 obtain ⟨Ba,h1,-⟩:=h.wk
 obtain ⟨aJ,BJ,hc,-⟩:=h1.jb hj
 exact ⟨aJ,hc⟩
theorem bE.N8 (h:bE w wa b base A aP B BP k p) {aJ:Addr} {j:Jb} {x:Rp} (hc:wa.cell? ⟨b,2,none⟩=some (.pointer (some aJ))) (hj:k.j=some j) (ht:-1000000000000≤j.top.tag∧j.top.tag≤1000000000000) :
  Calls Tryz.prog 30 #[.pointer (some aJ),iA x] wa fun e w'=>e=.returned (mQ (j.next x).2)∧bE w w' b base A aP B BP {k with j:=some (j.next x).1} p:=by
 obtain ⟨Ba,h1,h2,h3⟩:=h.wk
 obtain ⟨UQ,hc',hb⟩:=h1.N8 (x:=x) hj ht
 obtain rfl:aJ=UQ:=by
  have:=hc.symm.trans hc'
  simpa using this
 exact hb.mono fun e w' ⟨he,hW,hw,_⟩=>⟨he,h3 _ _ _ hW (fun x hx=>hx) hw⟩
theorem bE.Zg (h:bE w wa b base A aP B BP k p) (hb:zq w A B BP dV) (hok:p.OK) (hst:p.steps≤1000000) {a:Ac} {x:Rp} (hx:p.act a=(p',some x)) :
  Calls Tryz.prog 32 #[.pointer (some aP),oz a] wa fun e w'=>e=.returned (.tuple #[iA x,.nilIface])∧bE w w' b base A aP B BP k p':=by
 obtain ⟨QM,h1,h2,h3⟩:=h.pl hb
 obtain ⟨B1,D5,-,-,-,-,-,h6⟩:=h.ex
 have hsn:kU wa dV:=hb.sn.frame h6.size fun j hj=>h6.block _ (hb.z j hj).2.2 fun q=>q.elim (hb.z j hj).2.1 (hb.z j hj).1
 refine (UD hsn h1 (fun j hj q=>(h2 _ q).elim (hb.z j hj).2.1 fun q=>absurd (hb.z j hj).2.2 (Nat.not_lt.2 q)) hok hst hx).mono ?_
 rintro e w' ⟨he,B',g1,g2,g3⟩
 exact ⟨he,h3 _ _ _ g1 g2 g3⟩
theorem bE.put (h:bE w wa b base A aP B BP k p) (i:Nat) (x:Value) (j:Option Jb) (fK:Bool) (hj:i=2→j=none∧x=.pointer none) (hi:i=3→x=.bool fK) (hj':i≠2→j=k.j) (hi':i≠3→fK=k.fK) (h23:i=2∨i=3) :
  bE w (wa.setCell ⟨b,i,none⟩ x) b base A aP B BP {k with j:=j,fK:=fK} p:=by
 obtain ⟨Ba,h1,h2,h3⟩:=h.wk
 exact h3 _ _ _ (h1.put i x j fK hj hi hj' hi' h23).2 (fun x hx=>.inl hx) (h1.setW i x)
theorem bE.Tp (h:bE w wa b base A aP B BP k p) (hn:Nw wa wb) {aJ:Addr} {j:Jb} {BJ:Nat→Prop} (hJ:oD wb aJ j BJ) (hf:∀x,BJ x→wa.heap.size≤x) :
  bE w (wb.setCell ⟨b,2,none⟩ (.pointer (some aJ))) b base A aP B BP {k with j:=some j} p:=by
 obtain ⟨Ba,h1,h2,h3⟩:=h.wk
 have hs:=(h1.nw hn).setW 2 (.pointer (some aJ))
 refine h3 _ _ _ (h1.Tp hn hJ hf).2 (fun x hx=>hx) ⟨hs.os.trans hn.os,hs.tape.trans hn.tape,hs.output.trans hn.output,Nat.le_trans hn.size hs.size,fun x hx hb=>(hs.block x (Nat.lt_of_lt_of_le hx hn.size) fun q=>hb q.1).trans (hn.block x hx id)⟩
theorem bE.J5 (h:bE w wa b base A aP B BP k p):∃sv:Value,wa.cell? ⟨b,4,none⟩=some sv∧wa.ownsRow base 39 2 sv k.said.length (mW k.said) ∧
  ∀w1 w2 v' (x:Int × Int),Nw wa w1→w1.grownBy w2 sv.ownBlock→w2.ownsRow base 39 2 v' (k.said.length+1) (mW k.said ++ [.int .i64 x.1,.int .i64 x.2])→(v'.ownBlock=sv.ownBlock∨v'.ownBlock=some w1.heap.size) →
   w2.frozen? ⟨b,4,none⟩=false∧w2.cell? ⟨b,4,none⟩=some sv∧bE w (w2.setCell ⟨b,4,none⟩ v') b base A aP B BP {k with said:=k.said ++ [x]} p:=by
 obtain ⟨B1,D5,h1,h2,h3,h4,h5,h6⟩:=h.ex
 obtain ⟨aR,jv,Zh,c,BR,BJ,k1,-,-,-,k5,-,-,-,hB⟩:=h2.ex
 obtain ⟨sv,s1,s2,s3⟩:=h2.J5
 have hsv:sv=Zh:=by
  have:wa.cell? ⟨b,4,none⟩=some Zh:=by
   unfold World.cell?
   rw [k1]
   rfl
  exact Option.some.inj (s1.symm.trans this)
 refine ⟨sv,s1,s2,fun w1 w2 v' x hn hg ho hv=>?_⟩
 obtain ⟨a1,a2,a3⟩:=s3 w1 w2 v' x hn hg ho hv
 refine ⟨a1,a2,fun y=>B1 y∨wa.heap.size≤y,fun y=>D5 y∧y<wa.heap.size,?_,a3,fun y hy=>h3 y hy.1,fun y hy=>?_,fun y hy hz=>?_,?_⟩
 ·refine (h1.mono (B':=fun x=>D5 x∧x<wa.heap.size) fun x p q=>⟨p,q⟩).frame fun y hy=>?_
  have hyb:y≠b:=fun e=>h5 y hy.1 (e ▸ h2.self.1)
  have X0:sv.ownBlock≠some y:=fun e=>h5 y hy.1 (hB y (.inr (.inr (.inr (hsv ▸ e)))))
  exact (heap_setCell_other w2 ⟨b,4,none⟩ y _ hyb).trans ((hg.block y (Nat.lt_of_lt_of_le hy.2 hn.size) fun e=>X0 e.symm).trans (hn.block y hy.2 id))
 ·rcases hy with hy | hy
  ·exact h4 y hy
  ·exact .inr (Nat.le_trans h6.size hy)
 ·rcases hz with hz | hz
  ·exact h5 y hy.1 hz
  ·exact absurd hy.2 (Nat.not_lt.2 hz)
 ·have e:(w2.setCell ⟨b,4,none⟩ v').heap.size=w2.heap.size:=by simp [World.setCell]
  refine ⟨hg.os.trans (hn.os.trans h6.os),hg.tape.trans (hn.tape.trans h6.tape),hg.output.trans (hn.output.trans h6.output),by rw [e];exact Nat.le_trans h6.size (Nat.le_trans hn.size hg.size),fun y hy hno=>?_⟩
  have hya:y<wa.heap.size:=Nat.lt_of_lt_of_le hy h6.size
  have nB:¬B1 y:=fun q=>(h4 y q).elim (fun q=>hno (.inr q)) fun q=>absurd hy (Nat.not_lt.2 q)
  have hyb:y≠b:=fun e=>nB (e ▸ h2.self.1)
  have X0:sv.ownBlock≠some y:=fun e=>nB (hB y (.inr (.inr (.inr (hsv ▸ e)))))
  exact (heap_setCell_other w2 ⟨b,4,none⟩ y _ hyb).trans ((hg.block y (Nat.lt_of_lt_of_le hya hn.size) fun e=>X0 e.symm).trans ((hn.block y hya id).trans (h6.block y hy hno)))
end
end Go.Proofs.YthomdlajobnmnaaGreatDoor
namespace Go.Proofs.YthomdlajobnmnaaGreatDoor
open Go.RowKit Go.Rex
structure Wx (wr wx:World) (X:Nat→Prop) (b base A:Nat) (Ba:Nat→Prop) (k:Wk):Prop where
 ex:∃B':Nat→Prop,bD wx b base A k B'∧∀x,B' x→(Ba x∨wr.heap.size≤x)∧¬X x∧x<wx.heap.size
 xG:bX wr Ba wx
 nx:∀x,X x→wr.heap.size≤x∧x<wx.heap.size
 a:A<wr.heap.size
section
variable {w wr wx w':World} {X:Nat→Prop} {b base A rb:Nat} {Ba B BP:Nat→Prop} {k k':Wk} {aP:Addr} {p:PS}
theorem Wx.of (h:bD wr b base A k Ba) (hl:∀x,Ba x→x<wr.heap.size):Wx wr wr (fun _=>False) b base A Ba k :=
 ⟨⟨Ba,h,fun x hx=>⟨.inl hx,id,hl x hx⟩⟩,bX.refl _ _,fun _ h=>h.elim,h.self.2.2⟩
theorem Wx.alloc (h:Wx wr wx X b base A Ba k) (o:Obj):Wx wr (wx.alloc o) (fun x=>X x∨x=wx.heap.size) b base A Ba k:=by
 obtain ⟨B',h1,h2⟩:=h.ex
 have hn:Nw wx (wx.alloc o):=(bX.refl _ _).alloc o
 have hs:(wx.alloc o).heap.size=wx.heap.size+1:=by simp
 refine ⟨⟨_,h1.nw hn,fun x hx=>⟨(h2 x hx.1).1,fun q=>q.elim (h2 x hx.1).2.1 fun e=>by have:=hx.2;omega,by rw [hs];have:=hx.2;omega⟩⟩,QL h.xG hn,fun x hx=>?_,h.a⟩
 rw [hs]
 rcases hx with hx | rfl
 ·have:=h.nx x hx
  omega
 ·have:=h.xG.size
  omega
theorem Wx.drew (h:Wx wr wx X b base A Ba k):Wx wr wx.drew X b base A Ba k:=by
 obtain ⟨B',h1,h2⟩:=h.ex
 have hn:Nw wx wx.drew:=Nw.drew (bX.refl _ _)
 exact ⟨⟨_,h1.nw hn,fun x hx=>h2 x hx.1⟩,QL h.xG hn,h.nx,h.a⟩
theorem Wx.yG {B':Nat→Prop} (h:Wx wr wx X b base A Ba k) (hB:∀x,B' x→(Ba x∨wr.heap.size≤x)∧¬X x∧x<wx.heap.size) (hW:bD w' b base A k' (fun x=>B' x∨wx.heap.size≤x)) (hw:bX wx B' w') :
  Wx wr w' X b base A Ba k'∧∀x,X x→w'.heap[x]?=wx.heap[x]?:=by
 refine ⟨⟨⟨fun x=>(B' x∨wx.heap.size≤x)∧x<w'.heap.size,hW.mono fun x p q=>⟨p,q⟩,fun x hx=>?_⟩,ny h.xG hw fun x hx _=>(hB x hx).1,fun x hx=>⟨(h.nx x hx).1,Nat.lt_of_lt_of_le (h.nx x hx).2 hw.size⟩,h.a⟩,fun x hx=>hw.block x (h.nx x hx).2 fun q=>(hB x q).2.1 hx⟩
 rcases hx.1 with g | g
 ·exact ⟨(hB x g).1,(hB x g).2.1,hx.2⟩
 ·exact ⟨.inr (Nat.le_trans h.xG.size g),fun q=>absurd (h.nx x q).2 (Nat.not_lt.2 g),hx.2⟩
theorem Wx.bK (h:Wx wr wx X b base A Ba k) (hc:wx.cell? ⟨b,0,none⟩=some (.pointer (some ⟨rb,0,none⟩))) :
  Calls Tryz.prog 38 #[.pointer (some ⟨rb,0,none⟩)] wx fun e w'=>e=.returned (iA k.r.bK)∧Wx wr w' X b base A Ba k∧(∀x,X x→w'.heap[x]?=wx.heap[x]?)∧∀i,w'.cell? ⟨b,i,none⟩=wx.cell? ⟨b,i,none⟩:=by
 obtain ⟨B',h1,h2⟩:=h.ex
 obtain ⟨LV,hc',hb⟩:=h1.bK
 obtain rfl:=nz hc hc'
 refine hb.mono fun e w' ⟨he,hW,hw,hcc⟩=>?_
 obtain ⟨g1,g2⟩:=h.yG h2 hW hw
 exact ⟨he,g1,g2,fun i=>by unfold World.cell?;rw [hcc]⟩
theorem Wx.next (h:Wx wr wx X b base A Ba k) {aJ:Addr} {j j':Jb} {c:Ca} {x:Rp} (hc:wx.cell? ⟨b,2,none⟩=some (.pointer (some aJ))) (hj:k.j=some j) (ht:-1000000000000≤j.top.tag∧j.top.tag≤1000000000000) (hn:j.next x=(j',c)) :
  Calls Tryz.prog 30 #[.pointer (some aJ),iA x] wx fun e w'=>e=.returned (mQ c)∧Wx wr w' X b base A Ba {k with j:=some j'}∧(∀x,X x→w'.heap[x]?=wx.heap[x]?)∧∀i,w'.cell? ⟨b,i,none⟩=wx.cell? ⟨b,i,none⟩:=by
 obtain ⟨B',h1,h2⟩:=h.ex
 obtain ⟨UQ,hc',hb⟩:=h1.N8 (x:=x) hj ht
 obtain rfl:aJ=UQ:=by
  have:=hc.symm.trans hc'
  simpa using this
 refine hb.mono fun e w' ⟨he,hW,hw,hcc⟩=>?_
 obtain ⟨g1,g2⟩:=h.yG h2 hW hw
 rw [hn] at he g1
 exact ⟨he,g1,g2,fun i=>by unfold World.cell?;rw [hcc]⟩
theorem Wx.VU (h:Wx wr wx X b base A Ba k) (hw:bX wx X w'):Wx wr w' X b base A Ba k:=by
 obtain ⟨B',h1,h2⟩:=h.ex
 refine ⟨⟨_,h1.frame (fun x hx hb=>hw.block x hx (h2 x hb).2.1) (hw.block _ h1.self.2.2 fun q=>?_) hw.size,fun x hx=>⟨(h2 x hx.1).1,(h2 x hx.1).2.1,Nat.lt_of_lt_of_le hx.2 hw.size⟩⟩,ny h.xG hw fun x hx _=>.inr (h.nx x hx).1,fun x hx=>⟨(h.nx x hx).1,Nat.lt_of_lt_of_le (h.nx x hx).2 hw.size⟩,h.a⟩
 exact absurd h.a (Nat.not_lt.2 (h.nx _ q).1)
theorem Wx.out (h:Wx wr wx X b base A Ba k') (hk:∀wb k' B',bD wb b base A k' B'→(∀x,B' x→Ba x∨wr.heap.size≤x)→bX wr Ba wb→bE w wb b base A aP B BP k' p):bE w wx b base A aP B BP k' p:=by
 obtain ⟨B',h1,h2⟩:=h.ex
 exact hk _ _ _ h1 (fun x hx=>(h2 x hx).1) h.xG
end
end Go.Proofs.YthomdlajobnmnaaGreatDoor
namespace Go.Proofs.YthomdlajobnmnaaGreatDoor
open Go.RowKit Go.Rex
noncomputable def UR (P:Program) (x:Nat) (w:World) (i:Nat) (v:Value):Result Unit :=
 match w.cell? ⟨x,i,none⟩ with
 | some val=>if w.frozen? ⟨x,i,none⟩=true then Result.halt (Halt.unsupported (Unsupported.unsafePointer "a write to bytes that a string shares")) w else Result.ok () (w.setCell ⟨x,i,none⟩ v)
 | none=>match World.farStore P w ⟨x,i,none⟩ v (Mode.plain == Mode.atomic) with
  | Except.ok (w',snd)=>Result.ok () w'
  | Except.error h=>Result.halt h w
noncomputable def UT (P:Program) (x:Nat):List Value→Nat→World→Result Unit
 | [],_,w=>.ok () w
 | [v],i,w=>UR P x w i v
 | v :: u :: vs,i,w=>(UR P x w i v).andThen fun _ w'=>UT P x (u :: vs) (i+1) w'
section
variable {P:Program} {x:Nat} {ty:TypeId}
theorem QN {w:World} {cs:Array Value} {i:Nat} {v:Value} (h:w.heap[x]?=some (.cells cs ty (0,0))) (hi:i<cs.size):UR P x w i v=.ok () (w.setCell ⟨x,i,none⟩ v)∧bX w (·=x) (w.setCell ⟨x,i,none⟩ v)∧(w.setCell ⟨x,i,none⟩ v).heap[x]?=some (.cells (cs.setIfInBounds i v) ty (0,0)):=by
 have hc:w.cell? ⟨x,i,none⟩=some cs[i]:=by
  unfold World.cell?
  rw [h]
  exact Array.getElem?_eq_getElem hi
 have hf:w.frozen? ⟨x,i,none⟩=false:=by
  unfold World.frozen?
  rw [h]
  simp
 refine ⟨?_,⟨rfl,rfl,rfl,by simp [World.setCell],fun y hy hn=>heap_setCell_other w ⟨x,i,none⟩ y _ hn⟩,heap_setCell_same w x i _ _ v h⟩
 unfold UR
 rw [hc]
 simp only
 rw [if_neg (by rw [hf];decide)]
theorem QO:∀(vs:List Value) (i:Nat) {w:World} {cs:Array Value},w.heap[x]?=some (.cells cs ty (0,0))→i+vs.length≤cs.size →
  ∃w' cs',UT P x vs i w=.ok () w'∧bX w (·=x) w'∧w'.heap[x]?=some (.cells cs' ty (0,0))∧cs'.size=cs.size∧(∀j,j<i→cs'[j]?=cs[j]?)∧∀j,j<vs.length→cs'[i+j]?=vs[j]?
 | [],i,w,cs,h,hl=>⟨w,cs,rfl,bX.refl _ _,h,rfl,fun _ _=>rfl,fun j hj=>absurd hj (Nat.not_lt_zero _)⟩
 | [v],i,w,cs,h,hl=>by
  have hi:i<cs.size:=hl
  obtain ⟨a,b,c⟩:=QN (P:=P) (v:=v) h hi
  refine ⟨_,_,a,b,c,by simp,fun j hj=>by simp [Array.getElem?_setIfInBounds,Nat.ne_of_gt hj],fun j hj=>?_⟩
  obtain rfl:j=0:=by simpa using hj
  simp [hi]
 | v :: u :: vs,i,w,cs,h,hl=>by
  have hl':i+(vs.length+1+1)≤cs.size:=hl
  have hi:i<cs.size:=by omega
  obtain ⟨a,b,c⟩:=QN (P:=P) (v:=v) h hi
  obtain ⟨w',cs',d1,d2,d3,d4,d5,d6⟩:=QO (u :: vs) (i+1) c (by simp;omega)
  refine ⟨w',cs',?_,VT b d2,d3,by rw [d4];simp,fun j hj=>?_,fun j hj=>?_⟩
  ·unfold UT
   rw [a]
   exact d1
  ·rw [d5 j (by omega)]
   simp [Array.getElem?_setIfInBounds,Nat.ne_of_gt hj]
  ·cases j with
   | zero =>
    rw [d5 (i+0) (by omega)]
    simp [hi]
   | succ j =>
    have:=d6 j (by simpa using hj)
    rw [show i+(j+1)=i+1+j by omega,this]
    rfl
theorem Tw {o:Oper} {a:Act} {K:Act→World→Prop} {Q:Exit→Act→World→Prop} {w:World} {cs:Array Value} (vs:List Value) (h:w.heap[x]?=some (.cells cs ty (0,0))) (hl:vs.length=cs.size)
  (hk:∀w',bX w (·=x) w'→w'.heap[x]?=some (.cells vs.toArray ty (0,0))→K (a.put o.dst undef) w'):Oper.upon P o a K Q ((UT P x vs 0 w).andThen fun _ w'=>.ok .skip w'):=by
 obtain ⟨w',cs',d1,d2,d3,d4,d5,d6⟩:=QO (P:=P) vs 0 h (by omega)
 rw [d1]
 have e:cs'=vs.toArray:=by
  refine Array.ext_getElem? fun j=>?_
  rcases Nat.lt_or_ge j vs.length with hj | hj
  ·have:=d6 j hj
   rw [Nat.zero_add] at this
   rw [this]
   simp
  ·rw [Array.getElem?_eq_none (by omega),Array.getElem?_eq_none (by simpa using hj)]
 subst e
 exact hk w' d2 d3
end
theorem J7 {w w':World} {b:Nat} (h:w'.heap[b]?=w.heap[b]?) (i:Nat):w'.cell? ⟨b,i,none⟩=w.cell? ⟨b,i,none⟩:=by
 unfold World.cell?
 rw [h]
def Oa (c:Ca):List Value:=[.int .i64 c.kind,.int .i64 c.slot,.int .i64 c.gen,.int .i64 c.field,.int .i64 c.old.slot,.int .i64 c.old.gen,.int .i64 c.old.tag,.int .i64 c.old.num,.bool c.old.mark,.int .i64 c.new.slot,.int .i64 c.new.gen,.int .i64 c.new.tag,.int .i64 c.new.num,.bool c.new.mark,.int .i64 c.i,.int .i64 c.j,.int .i64 c.code,.int .i64 c.val]
theorem Tx {w:World} {x:Nat} {c:Ca} (h:w.heap[x]?=some (.cells (Oa c).toArray 83 (0,0))):(w.cell? ⟨x,0,none⟩=some (.int .i64 c.kind)∧w.cell? ⟨x,1,none⟩=some (.int .i64 c.slot)∧w.cell? ⟨x,2,none⟩=some (.int .i64 c.gen)∧w.cell? ⟨x,3,none⟩=some (.int .i64 c.field)∧w.cell? ⟨x,4,none⟩=some (.int .i64 c.old.slot)∧w.cell? ⟨x,5,none⟩=some (.int .i64 c.old.gen)∧w.cell? ⟨x,6,none⟩=some (.int .i64 c.old.tag)∧w.cell? ⟨x,7,none⟩=some (.int .i64 c.old.num)∧w.cell? ⟨x,8,none⟩=some (.bool c.old.mark)) ∧
  (w.cell? ⟨x,9,none⟩=some (.int .i64 c.new.slot)∧w.cell? ⟨x,10,none⟩=some (.int .i64 c.new.gen)∧w.cell? ⟨x,11,none⟩=some (.int .i64 c.new.tag)∧w.cell? ⟨x,12,none⟩=some (.int .i64 c.new.num)∧w.cell? ⟨x,13,none⟩=some (.bool c.new.mark)∧w.cell? ⟨x,14,none⟩=some (.int .i64 c.i)∧w.cell? ⟨x,15,none⟩=some (.int .i64 c.j)∧w.cell? ⟨x,16,none⟩=some (.int .i64 c.code)∧w.cell? ⟨x,17,none⟩=some (.int .i64 c.val)):=by
 have hc:∀i,w.cell? ⟨x,i,none⟩=(Oa c).toArray[i]?:=fun i=>by
  unfold World.cell?
  rw [h]
  rfl
 simp only [hc]
 exact ⟨⟨rfl,rfl,rfl,rfl,rfl,rfl,rfl,rfl,rfl⟩,rfl,rfl,rfl,rfl,rfl,rfl,rfl,rfl,rfl⟩
end Go.Proofs.YthomdlajobnmnaaGreatDoor
namespace Go.Proofs.YthomdlajobnmnaaGreatDoor
open Go.RowKit Go.Rex
theorem D6 {P:Program} {ops:Array Oper} {o:Oper} {a:Act} {w:World} {K:Act→World→Prop} {Q:Exit→Act→World→Prop} {E:Prop} (hgd:o.guard=none) (s x:Operand) (t:TypeId)
  (ho:o.op=.call {callee:=.builtin .append,args:=#[s,x],argTypes:=#[t,t]})
  (base:Nat) (e:TypeId) (i:TypeInfo) (z:Value) (size bytes:Nat) (ht:P.underlying t=some (.slice e)) (hi:P.info? e=some i) (hz:i.zero=some z)
  (hsize:i.size=size) (hby:i.bytes=bytes) (hzs:z.cells.size=size) (hsz:0<size)
  (v:Value) (n:Nat) (xs:List Value) (hs:a.eval s=v) (hown:w.ownsRow base e size v n xs)
  (ad:Addr) (m c:Nat) (news:List Value) (hx:a.eval x=.slice (some ad) m c) (hl:news.length=m * size) (hnews:∀j u,news[j]?=some u→w.cell? (ad.add j)=some u) (h1:∀u∈news,u.oneCell'=true)
  (h63:n+m≤maxLen) (hbytes:(n+m) * bytes≤140737488355328) (hbase:base≤w.heap.size)
  (h:∀v' w',w'.ownsRow base e size v' (n+m) (xs ++ news)→w.grownBy w' v.ownBlock→(v'.ownBlock=v.ownBlock∨v'.ownBlock=some w.heap.size)→K (a.put o.dst v') w') :
  if Region.wanted o (yielded ops a.tmps)=true then Oper.wp P o a w K Q else E:=by
 have hw:Region.wanted o (yielded ops a.tmps)=true:=by simp [Region.wanted,hgd]
 rw [if_pos hw]
 obtain ⟨v',w',hr,h2,h3,h4,h5⟩:=run_append_own_at (P:=P) w base t o.type e i z size bytes ht hi hz hsize hby hzs hsz v n xs hown ad m c news hl hnews h1 h63 hbytes hbase
 unfold Oper.wp execOp
 simp only [ho,resolve,invoke,builtin,Sem.run_bind,Sem.run_pure,Result.andThen_ok,List.map_toArray,List.map_cons,List.map_nil,hs,hx,hr]
 exact h v' w' h2 h3 h5
theorem QP {w:World} {base n size:Nat} {e:TypeId} {v:Value} {xs:List Value} (h:w.ownsRow base e size v (n+1) xs):∃g c,v=.slice (some ⟨g,0,none⟩) (n+1) c:=by
 obtain ⟨-,⟨-,h⟩ | ⟨g,cap,cur,h,-⟩⟩:=h
 ·cases h
 ·exact ⟨g,cap,h⟩
theorem VV (w:World) (x y:Value) (t:TypeId):∀j u,[x,y][j]?=some u→((w.alloc (.cells #[x,y] t)).drew).cell? ((⟨w.heap.size,0,none⟩:Addr).add j)=some u:=by
 intro j u hj
 match j,hj with
 | 0,hj =>
  simp at hj
  subst hj
  simp [Addr.add]
 | 1,hj =>
  simp at hj
  subst hj
  simp [Addr.add]
 | j+2,hj=>simp at hj
theorem VW (x y:Int):∀u∈[Value.int .i64 x,.int .i64 y],u.oneCell'=true:=by
 intro u hu
 simp at hu
 rcases hu with rfl | rfl <;> rfl
end Go.Proofs.YthomdlajobnmnaaGreatDoor
