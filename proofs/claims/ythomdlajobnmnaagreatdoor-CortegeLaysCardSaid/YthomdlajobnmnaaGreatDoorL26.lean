/- part 26 of the proof -/
import Derived.Tactics
import Derived.Maps.AppendAt
import Derived.Deep.RegionHeld3
import Derived.Test.YthomdlajobnmnaaGreatDoorL17
import Derived.Test.YthomdlajobnmnaaGreatDoorL18
import Derived.Test.YthomdlajobnmnaaGreatDoorL24
import Derived.Test.YthomdlajobnmnaaGreatDoorL25
set_option linter.unusedSimpArgs false
set_option linter.unusedVariables false
namespace Go.Proofs.YthomdlajobnmnaaGreatDoor.Cq
open Go.RowKit Go.Rex
structure lq (w:World) (A:Nat) (l:List Op):Prop where
 ex:∀(i:Nat) (o:Op),l[i]?=some o→w.cell? ⟨A,4 * i,none⟩=some (.int .i64 o.kind)∧w.cell? ⟨A,4 * i+1,none⟩=some (.int .i64 o.key)∧w.cell? ⟨A,4 * i+2,none⟩=some (.int .i64 o.val)∧w.cell? ⟨A,4 * i+3,none⟩=some (.int .i64 o.xO)
def uM (w:World) (v:Value) (j:Option Jb) (B:Nat→Prop):Prop :=
 match j with
 | none=>v=.pointer none
 | some x=>∃a,v=.pointer (some a)∧jB w a x B
def lQ (l:List (Int × Int)):List Value:=l.flatMap fun x=>[.int .i64 x.1,.int .i64 x.2]
structure aO (w:World) (b base A:Nat) (k:Wk) (B:Nat→Prop):Prop where
 ex:∃(aR:Nat) (jv sv:Value) (c:Nat) (BR BJ:Nat→Prop),
  w.heap[b]?=some (.cells #[.pointer (some ⟨aR,0,none⟩),.slice (some ⟨A,0,none⟩) k.ops.length c,jv,.bool k.bu,sv] 62 (0,0)) ∧
  kH w ⟨aR,0,none⟩ k.r BR∧uM w jv k.j BJ∧lq w A k.ops∧w.ownsRow base 39 2 sv k.said.length (lQ k.said) ∧
  (¬BR b∧¬BJ b∧∀x,BR x→¬BJ x)∧(sv.ownBlock≠some b∧∀x,BR x∨BJ x→sv.ownBlock≠some x) ∧
  (A≠b∧¬BR A∧¬BJ A∧sv.ownBlock≠some A∧A<w.heap.size)∧∀x,x=b∨BR x∨BJ x∨sv.ownBlock=some x→B x
section
variable {w w':World} {b base A:Nat} {k:Wk} {B:Nat→Prop}
theorem aO.cells (h:aO w b base A k B):∃(aR:Nat) (jv sv:Value) (c:Nat),w.cell? ⟨b,0,none⟩=some (.pointer (some ⟨aR,0,none⟩))∧w.cell? ⟨b,1,none⟩=some (.slice (some ⟨A,0,none⟩) k.ops.length c)∧w.cell? ⟨b,2,none⟩=some jv∧w.cell? ⟨b,3,none⟩=some (.bool k.bu)∧w.cell? ⟨b,4,none⟩=some sv∧∀i,w.frozen? ⟨b,i,none⟩=false:=by
 obtain ⟨aR,jv,sv,c,BR,BJ,h1,-⟩:=h.ex
 refine ⟨aR,jv,sv,c,?_,?_,?_,?_,?_,fun i=>?_⟩
 all_goals
  first
   | unfold World.cell?
   | unfold World.frozen?
  rw [h1]
  first
   | rfl
   | simp
theorem lq.frame {l:List Op} (h:lq w A l) (hk:w'.heap[A]?=w.heap[A]?):lq w' A l:=⟨fun i o hi=>by
  have:=h.ex i o hi
  unfold World.cell? at *
  rw [hk]
  exact this⟩
theorem uM.frame {v:Value} {j:Option Jb} {BJ:Nat→Prop} (h:uM w v j BJ) (hk:∀x,x<w.heap.size→BJ x→w'.heap[x]?=w.heap[x]?):uM w' v j BJ:=by
 cases j with
 | none=>exact h
 | some x =>
  obtain ⟨a,e,hJ⟩:=h
  have:=(hJ.mono (B':=fun x=>BJ x∧x<w.heap.size) fun b p q=>⟨p,q⟩).frame fun b hb=>hk b hb.2 hb.1
  exact ⟨a,e,this.mono fun b p _=>p.1⟩
theorem iO {v:Value} {n:Nat} {e:TypeId} {size:Nat} {xs:List Value} (h:w.ownsRow base e size v n xs) (hk:∀x,x<w.heap.size→v.ownBlock=some x→w'.heap[x]?=w.heap[x]?):w'.ownsRow base e size v n xs:=by
 obtain ⟨h1,h2 | ⟨g,cap,cur,h2,h3,h4,h5⟩⟩:=h
 ·exact ⟨h1,.inl h2⟩
 ·refine ⟨h1,.inr ⟨g,cap,cur,h2,h3,?_,h5⟩⟩
  rw [hk g ?_ (by rw [h2];rfl)]
  ·exact h4
  ·rcases Nat.lt_or_ge g w.heap.size with h | h
   ·exact h
   ·rw [Array.getElem?_eq_none h] at h4;cases h4
theorem vR {v:Value} {n:Nat} {e:TypeId} {size:Nat} {xs:List Value} {x:Nat} (h:w.ownsRow base e size v n xs) (hx:v.ownBlock=some x):x<w.heap.size:=by
 obtain ⟨h1,⟨rfl,-⟩ | ⟨g,cap,cur,rfl,h3,h4,h5⟩⟩:=h
 ·cases hx
 ·obtain rfl:g=x:=Option.some.inj hx
  rcases Nat.lt_or_ge g w.heap.size with h | h
  ·exact h
  ·rw [Array.getElem?_eq_none h] at h4;cases h4
theorem aO.rt (h:aO w b base A k B):∃(aR:Nat) (BR:Nat→Prop),w.cell? ⟨b,0,none⟩=some (.pointer (some ⟨aR,0,none⟩))∧kH w ⟨aR,0,none⟩ k.r BR∧(∀x,BR x→(B x∧x<w.heap.size)∧x≠b) ∧
  ∀w' r' V7,kH w' ⟨aR,0,none⟩ r' V7→(∀x,V7 x→w.heap.size≤x∨BR x)→bC w BR w'→aO w' b base A {k with r:=r'} fun x=>B x∨w.heap.size≤x:=by
 obtain ⟨aR,jv,sv,c,BR,BJ,h1,h2,h3,h4,h5,⟨d1,d2,d3⟩,⟨e1,e2⟩,⟨f1,f2,f3,f4,f5⟩,hB⟩:=h.ex
 have hb:b<w.heap.size:=by
  rcases Nat.lt_or_ge b w.heap.size with h | h
  ·exact h
  ·rw [Array.getElem?_eq_none h] at h1;cases h1
 refine ⟨aR,fun x=>BR x∧x<w.heap.size,by unfold World.cell?;rw [h1];rfl,h2.mono fun x p q=>⟨p,q⟩,fun x hx=>⟨⟨hB x (.inr (.inl hx.1)),hx.2⟩,fun e=>d1 (e ▸ hx.1)⟩,fun w' r' V7 g1 g2 g3=>⟨aR,jv,sv,c,V7,fun x=>BJ x∧x<w.heap.size,?_,g1,?_,?_,?_,⟨?_,?_,?_⟩,⟨e1,?_⟩,⟨f1,?_,?_,f4,?_⟩,?_⟩⟩
 ·rw [g3.block b hb fun x=>d1 x.1];exact h1
 ·have:=h3.frame (w':=w') fun x hx hJ=>g3.block x hx fun y=>d3 x y.1 hJ
  cases hj:k.j with
  | none=>rw [hj] at this;exact this
  | some x =>
   rw [hj] at this h3
   obtain ⟨a,e,hJ⟩:=h3
   have hJ':=(hJ.mono (B':=fun x=>BJ x∧x<w.heap.size) fun b p q=>⟨p,q⟩).frame (w':=w') fun b hb=>g3.block b hb.2 fun y=>d3 b y.1 hb.1
   exact ⟨a,e,hJ'⟩
 ·exact h4.frame (g3.block A f5 fun x=>f2 x.1)
 ·exact iO h5 fun x hx ho=>g3.block x hx fun y=>e2 x (.inl y.1) ho
 ·exact fun x=>(g2 b x).elim (fun y=>absurd hb (Nat.not_lt.2 y)) fun y=>d1 y.1
 ·exact fun x=>d2 x.1
 ·exact fun x hx hJ=>(g2 x hx).elim (fun y=>absurd hJ.2 (Nat.not_lt.2 y)) fun y=>d3 x y.1 hJ.1
 ·rintro x (hx | hx) ho
  ·exact (g2 x hx).elim (fun y=>absurd (vR h5 ho) (Nat.not_lt.2 y)) fun y=>e2 x (.inl y.1) ho
  ·exact e2 x (.inr hx.1) ho
 ·exact fun x=>(g2 A x).elim (fun y=>absurd f5 (Nat.not_lt.2 y)) fun y=>f2 y.1
 ·exact fun x=>f3 x.1
 ·exact Nat.lt_of_lt_of_le f5 g3.size
 ·rintro x (hx | hx | hx | hx)
  ·exact .inl (hB x (.inl hx))
  ·exact (g2 x hx).elim .inr fun y=>.inl (hB x (.inr (.inl y.1)))
  ·exact .inl (hB x (.inr (.inr (.inl hx.1))))
  ·exact .inl (hB x (.inr (.inr (.inr hx))))
theorem aO.put (h:aO w b base A k B) (i:Nat) (x:Value) (j:Option Jb) (bu:Bool) (hj:i=2→j=none∧x=.pointer none) (hi:i=3→x=.bool bu) (hj':i≠2→j=k.j) (hi':i≠3→bu=k.bu) (h23:i=2∨i=3) :
  (w.frozen? ⟨b,i,none⟩=false)∧aO (w.setCell ⟨b,i,none⟩ x) b base A {k with j:=j,bu:=bu} B:=by
 obtain ⟨aR,jv,sv,c,BR,BJ,h1,h2,h3,h4,h5,⟨d1,d2,d3⟩,⟨e1,e2⟩,⟨f1,f2,f3,f4,f5⟩,hB⟩:=h.ex
 have hother:∀y,y≠b→(w.setCell ⟨b,i,none⟩ x).heap[y]?=w.heap[y]?:=fun y hy=>heap_setCell_other w ⟨b,i,none⟩ y _ hy
 have hsame:=heap_setCell_same w b i _ _ x h1
 have hsz:(w.setCell ⟨b,i,none⟩ x).heap.size=w.heap.size:=by simp [World.setCell]
 have hR:=h2.frame (w':=w.setCell ⟨b,i,none⟩ x) fun y hy=>hother y fun e=>d1 (e ▸ hy)
 have hO:=h4.frame (w':=w.setCell ⟨b,i,none⟩ x) (hother A f1)
 have hS:=iO (w':=w.setCell ⟨b,i,none⟩ x) h5 fun y _ ho=>hother y fun e=>e1 (e ▸ ho)
 refine ⟨by unfold World.frozen?;rw [h1];rfl,?_⟩
 rcases h23 with rfl | rfl
 ·obtain ⟨rfl,rfl⟩:=hj rfl
  obtain rfl:=hi' (by decide)
  exact ⟨aR,.pointer none,sv,c,BR,BJ,hsame,hR,rfl,hO,hS,⟨d1,d2,d3⟩,⟨e1,e2⟩,⟨f1,f2,f3,f4,by rw [hsz];exact f5⟩,hB⟩
 ·obtain rfl:=hi rfl
  obtain rfl:=hj' (by decide)
  exact ⟨aR,jv,sv,c,BR,BJ,hsame,hR,h3.frame fun y _ hy=>hother y fun e=>d2 (e ▸ hy),hO,hS,⟨d1,d2,d3⟩,⟨e1,e2⟩,⟨f1,f2,f3,f4,by rw [hsz];exact f5⟩,hB⟩
theorem aO.UM (h:aO w b base A k B) (hn:Nw w w') {aJ:Addr} {j:Jb} {H6:Nat→Prop} (hJ:jB w' aJ j H6) (hf:∀x,H6 x→w.heap.size≤x) :
  w'.frozen? ⟨b,2,none⟩=false∧aO (w'.setCell ⟨b,2,none⟩ (.pointer (some aJ))) b base A {k with j:=some j} fun x=>B x∨w.heap.size≤x:=by
 obtain ⟨aR,jv,sv,c,BR,BJ,h1,h2,h3,h4,h5,⟨d1,d2,d3⟩,⟨e1,e2⟩,⟨f1,f2,f3,f4,f5⟩,hB⟩:=h.ex
 have hb:b<w.heap.size:=by
  rcases Nat.lt_or_ge b w.heap.size with h | h
  ·exact h
  ·rw [Array.getElem?_eq_none h] at h1;cases h1
 have h1':w'.heap[b]?=_:=(hn.block b hb id).trans h1
 have hother:∀y,y≠b→(w'.setCell ⟨b,2,none⟩ (.pointer (some aJ))).heap[y]?=w'.heap[y]?:=fun y hy=>heap_setCell_other w' ⟨b,2,none⟩ y _ hy
 have hsame:=heap_setCell_same w' b 2 _ _ (.pointer (some aJ)) h1'
 have hsz:(w'.setCell ⟨b,2,none⟩ (.pointer (some aJ))).heap.size=w'.heap.size:=by simp [World.setCell]
 have hR:=((h2.mono (B':=fun x=>BR x∧x<w.heap.size) fun x p q=>⟨p,q⟩).frame (w':=w') fun y hy=>hn.block y hy.2 id).frame (w':=w'.setCell ⟨b,2,none⟩ (.pointer (some aJ))) fun y hy=>hother y fun e=>d1 (e ▸ hy.1)
 have hO:=(h4.frame (w':=w') (hn.block A f5 id)).frame (w':=w'.setCell ⟨b,2,none⟩ (.pointer (some aJ))) (hother A f1)
 have hS:=iO (w':=w'.setCell ⟨b,2,none⟩ (.pointer (some aJ))) (iO (w':=w') h5 fun y hy ho=>hn.block y hy id) fun y _ ho=>hother y fun e=>e1 (e ▸ ho)
 have hJ':=hJ.frame (w':=w'.setCell ⟨b,2,none⟩ (.pointer (some aJ))) fun y hy=>hother y fun e=>absurd (hf y hy) (Nat.not_le.2 (e ▸ hb))
 refine ⟨by unfold World.frozen?;rw [h1'];rfl,aR,.pointer (some aJ),sv,c,fun x=>BR x∧x<w.heap.size,H6,hsame,hR,⟨aJ,rfl,hJ'⟩,hO,hS,⟨fun x=>d1 x.1,fun x=>absurd (hf b x) (Nat.not_le.2 hb),fun x hx y=>absurd (hf x y) (Nat.not_le.2 hx.2)⟩,⟨e1,?_⟩,⟨f1,fun x=>f2 x.1,fun x=>absurd (hf A x) (Nat.not_le.2 f5),f4,by rw [hsz];exact Nat.lt_of_lt_of_le f5 hn.size⟩,?_⟩
 ·rintro x (hx | hx) ho
  ·exact e2 x (.inl hx.1) ho
  ·exact absurd (vR h5 ho) (Nat.not_lt.2 (hf x hx))
 ·rintro x (hx | hx | hx | hx)
  ·exact .inl (hB x (.inl hx))
  ·exact .inl (hB x (.inr (.inl hx.1)))
  ·exact .inr (hf x hx)
  ·exact .inl (hB x (.inr (.inr (.inr hx))))
theorem aO.jb (h:aO w b base A k B) {j:Jb} (hj:k.j=some j):∃(aJ:Addr) (BJ:Nat→Prop),w.cell? ⟨b,2,none⟩=some (.pointer (some aJ))∧jB w aJ j BJ∧(∀x,BJ x→(B x∧x<w.heap.size)∧x≠b) ∧
  ∀w' j' H6,jB w' aJ j' H6→(∀x,H6 x→w.heap.size≤x∨BJ x)→bC w BJ w'→aO w' b base A {k with j:=some j'} fun x=>B x∨w.heap.size≤x:=by
 obtain ⟨aR,jv,sv,c,BR,BJ,h1,h2,h3,h4,h5,⟨d1,d2,d3⟩,⟨e1,e2⟩,⟨f1,f2,f3,f4,f5⟩,hB⟩:=h.ex
 have hb:b<w.heap.size:=by
  rcases Nat.lt_or_ge b w.heap.size with h | h
  ·exact h
  ·rw [Array.getElem?_eq_none h] at h1;cases h1
 rw [hj] at h3
 obtain ⟨aJ,rfl,hJ⟩:=h3
 refine ⟨aJ,fun x=>BJ x∧x<w.heap.size,by unfold World.cell?;rw [h1];rfl,hJ.mono fun x p q=>⟨p,q⟩,fun x hx=>⟨⟨hB x (.inr (.inr (.inl hx.1))),hx.2⟩,fun e=>d2 (e ▸ hx.1)⟩,fun w' j' H6 g1 g2 g3=>⟨aR,_,sv,c,fun x=>BR x∧x<w.heap.size,H6,?_,?_,⟨aJ,rfl,g1⟩,?_,?_,⟨?_,?_,?_⟩,⟨e1,?_⟩,⟨f1,?_,?_,f4,?_⟩,?_⟩⟩
 ·rw [g3.block b hb fun x=>d2 x.1];exact h1
 ·exact (h2.mono (B':=fun x=>BR x∧x<w.heap.size) fun x p q=>⟨p,q⟩).frame fun y hy=>g3.block y hy.2 fun z=>d3 y hy.1 z.1
 ·exact h4.frame (g3.block A f5 fun x=>f3 x.1)
 ·exact iO h5 fun x hx ho=>g3.block x hx fun y=>e2 x (.inr y.1) ho
 ·exact fun x=>d1 x.1
 ·exact fun x=>(g2 b x).elim (fun y=>absurd hb (Nat.not_lt.2 y)) fun y=>d2 y.1
 ·exact fun x hx hJ=>(g2 x hJ).elim (fun y=>absurd hx.2 (Nat.not_lt.2 y)) fun y=>d3 x hx.1 y.1
 ·rintro x (hx | hx) ho
  ·exact e2 x (.inl hx.1) ho
  ·exact (g2 x hx).elim (fun y=>absurd (vR h5 ho) (Nat.not_lt.2 y)) fun y=>e2 x (.inr y.1) ho
 ·exact fun x=>f2 x.1
 ·exact fun x=>(g2 A x).elim (fun y=>absurd f5 (Nat.not_lt.2 y)) fun y=>f3 y.1
 ·exact Nat.lt_of_lt_of_le f5 g3.size
 ·rintro x (hx | hx | hx | hx)
  ·exact .inl (hB x (.inl hx))
  ·exact .inl (hB x (.inr (.inl hx.1)))
  ·exact (g2 x hx).elim .inr fun y=>.inl (hB x (.inr (.inr (.inl y.1))))
  ·exact .inl (hB x (.inr (.inr (.inr hx))))
end
end Go.Proofs.YthomdlajobnmnaaGreatDoor.Cq
namespace Go.Proofs.YthomdlajobnmnaaGreatDoor.Cq
open Go.RowKit Go.Rex
section
variable {w w':World} {b base A:Nat} {k:Wk} {B:Nat→Prop}
theorem aO.K6 (h:aO w b base A k B):∃sv:Value,w.cell? ⟨b,4,none⟩=some sv∧w.ownsRow base 39 2 sv k.said.length (lQ k.said) ∧
  ∀w1 w2 v' (x:Int × Int),Nw w w1→w1.grownBy w2 sv.ownBlock→w2.ownsRow base 39 2 v' (k.said.length+1) (lQ k.said ++ [.int .i64 x.1,.int .i64 x.2])→(v'.ownBlock=sv.ownBlock∨v'.ownBlock=some w1.heap.size) →
   w2.frozen? ⟨b,4,none⟩=false∧w2.cell? ⟨b,4,none⟩=some sv∧aO (w2.setCell ⟨b,4,none⟩ v') b base A {k with said:=k.said ++ [x]} fun y=>B y∨w.heap.size≤y:=by
 obtain ⟨aR,jv,sv,c,BR,BJ,h1,h2,h3,h4,h5,⟨d1,d2,d3⟩,⟨e1,e2⟩,⟨f1,f2,f3,f4,f5⟩,hB⟩:=h.ex
 have hb:b<w.heap.size:=by
  rcases Nat.lt_or_ge b w.heap.size with h | h
  ·exact h
  ·rw [Array.getElem?_eq_none h] at h1;cases h1
 refine ⟨sv,by unfold World.cell?;rw [h1];rfl,h5,fun w1 w2 v' x hn hg ho hv=>?_⟩
 have old:∀y,y<w.heap.size→sv.ownBlock≠some y→w2.heap[y]?=w.heap[y]?:=fun y hy hne=>(hg.block y (Nat.lt_of_lt_of_le hy hn.size) fun e=>hne e.symm).trans (hn.block y hy id)
 have h1':w2.heap[b]?=_:=(old b hb e1).trans h1
 have hother:∀y,y≠b→(w2.setCell ⟨b,4,none⟩ v').heap[y]?=w2.heap[y]?:=fun y hy=>heap_setCell_other w2 ⟨b,4,none⟩ y _ hy
 have hsame:=heap_setCell_same w2 b 4 _ _ v' h1'
 have hsz:(w2.setCell ⟨b,4,none⟩ v').heap.size=w2.heap.size:=by simp [World.setCell]
 have hv':∀y,v'.ownBlock=some y→sv.ownBlock=some y∨w.heap.size≤y:=fun y hy=>by
  rcases hv with e | e
  ·exact .inl (e ▸ hy)
  ·rw [e] at hy
   cases hy
   exact .inr hn.size
 have hvb:v'.ownBlock≠some b:=fun e=>(hv' b e).elim e1 fun y=>absurd hb (Nat.not_lt.2 y)
 have hR:=((h2.mono (B':=fun x=>BR x∧x<w.heap.size) fun x p q=>⟨p,q⟩).frame (w':=w2) fun y hy=>old y hy.2 (e2 y (.inl hy.1))).frame (w':=w2.setCell ⟨b,4,none⟩ v') fun y hy=>hother y fun e=>d1 (e ▸ hy.1)
 have hO:=(h4.frame (w':=w2) (old A f5 f4)).frame (w':=w2.setCell ⟨b,4,none⟩ v') (hother A f1)
 have hS:=iO (w':=w2.setCell ⟨b,4,none⟩ v') ho fun y _ hy=>hother y fun e=>hvb (e ▸ hy)
 have hJ:uM (w2.setCell ⟨b,4,none⟩ v') jv k.j fun x=>BJ x∧x<w.heap.size:=by
  cases hj:k.j with
  | none=>rw [hj] at h3;exact h3
  | some z =>
   rw [hj] at h3
   obtain ⟨a,e,hJ⟩:=h3
   exact ⟨a,e,((hJ.mono (B':=fun x=>BJ x∧x<w.heap.size) fun x p q=>⟨p,q⟩).frame (w':=w2) fun y hy=>old y hy.2 (e2 y (.inr hy.1))).frame fun y hy=>hother y fun e=>d2 (e ▸ hy.1)⟩
 have hlen:lQ (k.said ++ [x])=lQ k.said ++ [.int .i64 x.1,.int .i64 x.2]:=by simp [lQ]
 refine ⟨by unfold World.frozen?;rw [h1'];rfl,by unfold World.cell?;rw [h1'];rfl,aR,jv,v',c,fun x=>BR x∧x<w.heap.size,fun x=>BJ x∧x<w.heap.size,hsame,hR,hJ,hO,?_,⟨fun x=>d1 x.1,fun x=>d2 x.1,fun x hx y=>d3 x hx.1 y.1⟩,⟨hvb,?_⟩,⟨f1,fun x=>f2 x.1,fun x=>f3 x.1,?_,?_⟩,?_⟩
 ·show World.ownsRow _ base 39 2 v' (k.said ++ [x]).length (lQ (k.said ++ [x]))
  rw [hlen,List.length_append,List.length_singleton]
  exact hS
 ·rintro y (hy | hy) ho
  ·exact (hv' y ho).elim (e2 y (.inl hy.1)) fun z=>absurd hy.2 (Nat.not_lt.2 z)
  ·exact (hv' y ho).elim (e2 y (.inr hy.1)) fun z=>absurd hy.2 (Nat.not_lt.2 z)
 ·exact fun e=>(hv' A e).elim f4 fun y=>absurd f5 (Nat.not_lt.2 y)
 ·rw [hsz]
  exact Nat.lt_of_lt_of_le f5 (Nat.le_trans hn.size hg.size)
 ·rintro y (hy | hy | hy | hy)
  ·exact .inl (hB y (.inl hy))
  ·exact .inl (hB y (.inr (.inl hy.1)))
  ·exact .inl (hB y (.inr (.inr (.inl hy.1))))
  ·exact (hv' y hy).elim (fun z=>.inl (hB y (.inr (.inr (.inr z))))) .inr
end
end Go.Proofs.YthomdlajobnmnaaGreatDoor.Cq
namespace Go.Proofs.YthomdlajobnmnaaGreatDoor.Cq
open Go.RowKit Go.Rex
theorem aO.bV {w:World} {b base A:Nat} {k:Wk} {B:Nat→Prop} (hW:aO w b base A k B) :
  ∃rb,w.cell? ⟨b,0,none⟩=some (.pointer (some ⟨rb,0,none⟩))∧Calls Tryz.prog 38 #[.pointer (some ⟨rb,0,none⟩)] w fun e w'=>e=.returned (iM k.r.bV)∧aO w' b base A k (fun x=>B x∨w.heap.size≤x)∧bC w B w'∧w'.heap[b]?=w.heap[b]?:=by
 obtain ⟨aR,BR,hcell,hR,H7,hnew⟩:=hW.rt
 refine ⟨aR,hcell,(Ut hR).mono ?_⟩
 rintro e w' ⟨rfl,B',g1,g2,g3⟩
 exact ⟨rfl,hnew w' _ B' g1 g2 g3,⟨g3.os,g3.tape,g3.output,g3.size,fun x hx hn=>g3.block x hx fun h=>hn (H7 x h).1.1⟩,g3.block b (World.block_lt_of_cell? _ _ hcell) fun h=>(H7 b h).2 rfl⟩
theorem aO.Z9 {w:World} {b base A:Nat} {k:Wk} {B:Nat→Prop} (hW:aO w b base A k B) (h0:k.r.step≠0) :
  ∃rb,w.cell? ⟨b,0,none⟩=some (.pointer (some ⟨rb,0,none⟩))∧Calls Tryz.prog 39 #[.pointer (some ⟨rb,0,none⟩)] w fun e w'=>e=.returned (.tuple #[mX k.r.acc,.bool true])∧aO w' b base A k (fun x=>B x∨w.heap.size≤x)∧bC w B w':=by
 obtain ⟨aR,BR,hcell,hR,H7,hnew⟩:=hW.rt
 refine ⟨aR,hcell,(Xi hR h0).mono ?_⟩
 rintro e w' ⟨rfl,B',g1,g2,g3⟩
 exact ⟨rfl,hnew w' _ B' g1 g2 g3,g3.os,g3.tape,g3.output,g3.size,fun x hx hn=>g3.block x hx fun h=>hn (H7 x h).1.1⟩
theorem aO.aaa {w:World} {b base A:Nat} {k:Wk} {B:Nat→Prop} {x:Rp} (hW:aO w b base A k B) (hk:oZ k.r x) :
  ∃rb,w.cell? ⟨b,0,none⟩=some (.pointer (some ⟨rb,0,none⟩))∧Calls Tryz.prog 40 #[.pointer (some ⟨rb,0,none⟩),iM x] w fun e w'=>e=.returned .nilIface∧aO w' b base A {k with r:=(k.r.bM x).1} (fun x=>B x∨w.heap.size≤x)∧bC w B w':=by
 obtain ⟨aR,BR,hcell,hR,H7,hnew⟩:=hW.rt
 refine ⟨aR,hcell,(Xh hR hk).mono ?_⟩
 rintro e w' ⟨rfl,B',g1,g2,g3⟩
 exact ⟨rfl,hnew w' _ B' g1 g2 g3,g3.os,g3.tape,g3.output,g3.size,fun x hx hn=>g3.block x hx fun h=>hn (H7 x h).1.1⟩
theorem aO.aab {w:World} {b base A:Nat} {k:Wk} {B:Nat→Prop} {j:Jb} {x:Rp} (hW:aO w b base A k B) (hj:k.j=some j) (ht:j.tg) :
  ∃aJ,w.cell? ⟨b,2,none⟩=some (.pointer (some aJ))∧Calls Tryz.prog 48 #[.pointer (some aJ),iM x] w fun e w'=>e=.returned (qg (j.next x).2)∧aO w' b base A {k with j:=some (j.next x).1} (fun x=>B x∨w.heap.size≤x)∧bC w B w'∧w'.heap[b]?=w.heap[b]?:=by
 obtain ⟨aJ,BJ,hcell,hJ,RP,hnew⟩:=hW.jb hj
 refine ⟨aJ,hcell,(XB hJ ht).mono ?_⟩
 rintro e w' ⟨rfl,B',g1,g2,g3⟩
 exact ⟨rfl,hnew w' _ B' g1 g2 g3,⟨g3.os,g3.tape,g3.output,g3.size,fun x hx hn=>g3.block x hx fun h=>hn (RP x h).1.1⟩,g3.block b (World.block_lt_of_cell? _ _ hcell) fun h=>(RP b h).2 rfl⟩
end Go.Proofs.YthomdlajobnmnaaGreatDoor.Cq
namespace Go.Proofs.YthomdlajobnmnaaGreatDoor.Cq
open Go.RowKit Go.Rex
structure Bc (I:Nat→Wk→Prop):Prop where
 rt:∀n k,I n k→sU k.r
 len:∀n k,I n k→k.ops.length≤100
 leave:∀n k,I (n+1) k→k.r.step=0→k.j=none→k.bu=true→(k.r.begin (Ca.of 2)).2=true∧I n {k with bu:=false,r:=(k.r.begin (Ca.of 2)).1}
 start:∀n k,I (n+1) k→k.r.step=0→k.j=none→k.bu=false→k.said.length<k.ops.length→(k.ops.getD k.said.length ⟨0,0,0,0⟩).dD∧(k.r.begin (Ca.of 1)).2=true∧I n {k with j:=some (Jb.new (k.ops.getD k.said.length ⟨0,0,0,0⟩)),bu:=true,r:=(k.r.begin (Ca.of 1)).1}
 next:∀n k j,I (n+1) k→k.r.step=0→k.j=some j→(j.tg) ∧
  (((j.next k.r.bV).2.kind=12∧k.said.length<k.ops.length∧I n {k with said:=k.said ++ [((j.next k.r.bV).2.code,(j.next k.r.bV).2.val)],j:=none}) ∨
   ((j.next k.r.bV).2.kind≠12∧(j.next k.r.bV).2.OK∧(k.r.begin (j.next k.r.bV).2).2=true∧I n {k with j:=some (j.next k.r.bV).1,r:=(k.r.begin (j.next k.r.bV).2).1}))
section
variable {w w0 w1:World} {b base A n:Nat} {k k0:Wk} {B B0 B1 F G:Nat→Prop} {I:Nat→Wk→Prop}
theorem il (h:bC w0 F w) (h1:bC w G w1) (hG:∀x,G x→x<w.heap.size→F x∨w0.heap.size≤x):bC w0 F w1 :=
 ⟨h1.os.trans h.os,h1.tape.trans h.tape,h1.output.trans h.output,Nat.le_trans h.size h1.size,fun k hk hn=>(h1.block k (Nat.lt_of_lt_of_le hk h.size) fun h'=>(hG k h' (Nat.lt_of_lt_of_le hk h.size)).elim hn fun z=>absurd hk (Nat.not_lt.2 z)).trans (h.block k hk hn)⟩
theorem aO.Zl (hW:aO w b base A k B) (hk:sU k.r) (h0:k.r.step=0) {c:Ca} (hc:c.OK) :
  ∃rb,w.cell? ⟨b,0,none⟩=some (.pointer (some ⟨rb,0,none⟩))∧Calls Tryz.prog 37 #[.pointer (some ⟨rb,0,none⟩),qg c] w fun e w'=>e=.returned .nilIface∧aO w' b base A {k with r:=(k.r.begin c).1} (fun x=>B x∨w.heap.size≤x)∧bC w B w':=by
 obtain ⟨aR,BR,hcell,hR,H7,hnew⟩:=hW.rt
 refine ⟨aR,hcell,(Us hR hk h0 hc).mono ?_⟩
 rintro e w' ⟨rfl,B',g1,g2,g3⟩
 exact ⟨rfl,hnew w' _ B' g1 g2 g3,g3.os,g3.tape,g3.output,g3.size,fun x hx hn=>g3.block x hx fun h=>hn (H7 x h).1.1⟩
theorem aO.Pg (hW:aO w b base A k B) :
  ∃rb,w.cell? ⟨b,0,none⟩=some (.pointer (some ⟨rb,0,none⟩))∧Calls Tryz.prog 36 #[.pointer (some ⟨rb,0,none⟩)] w fun e w'=>e=.returned (.bool (decide (k.r.step≠0)))∧w'=w:=by
 obtain ⟨aR,BR,hc,hR,-⟩:=hW.rt
 obtain ⟨b',e,-,h18⟩:=hR.step
 rw [Addr.mk.injEq] at e
 refine ⟨aR,hc,?_⟩
 rw [e.1]
 exact Rl h18
end
end Go.Proofs.YthomdlajobnmnaaGreatDoor.Cq
namespace Go.Proofs.YthomdlajobnmnaaGreatDoor.Cq
open Go.RowKit Go.Rex
def lS {α:Type} (f:Nat→α) (i:Nat) (x:α):Nat→α:=fun k=>if k=i then x else f k
theorem df {α:Type} (f:Nat→α) (i:Nat) (x:α):lS f i x i=x:=if_pos rfl
theorem eY {α:Type} (f:Nat→α) {i k:Nat} (x:α) (h:k≠i):lS f i x k=f k:=if_neg h
section
variable {w w':World} {b base A:Nat} {k:Wk} {B B':Nat→Prop}
theorem aO.frame (h:aO w b base A k B) (hk:∀x,x<w.heap.size→B x→w'.heap[x]?=w.heap[x]?) (hA:w'.heap[A]?=w.heap[A]?) (hs:w.heap.size≤w'.heap.size):aO w' b base A k fun x=>B x∧x<w.heap.size:=by
 obtain ⟨aR,jv,sv,c,BR,BJ,h1,h2,h3,h4,h5,⟨d1,d2,d3⟩,⟨e1,e2⟩,⟨f1,f2,f3,f4,f5⟩,hB⟩:=h.ex
 have hb:b<w.heap.size:=by
  rcases Nat.lt_or_ge b w.heap.size with h | h
  ·exact h
  ·rw [Array.getElem?_eq_none h] at h1;cases h1
 refine ⟨aR,jv,sv,c,fun x=>BR x∧x<w.heap.size,fun x=>BJ x∧x<w.heap.size,?_,?_,?_,h4.frame hA,iO h5 fun x hx ho=>hk x hx (hB x (.inr (.inr (.inr ho)))),⟨fun x=>d1 x.1,fun x=>d2 x.1,fun x hx y=>d3 x hx.1 y.1⟩,⟨e1,fun x hx=>e2 x (hx.imp And.left And.left)⟩,⟨f1,fun x=>f2 x.1,fun x=>f3 x.1,f4,Nat.lt_of_lt_of_le f5 hs⟩,?_⟩
 ·rw [hk b hb (hB b (.inl rfl))];exact h1
 ·exact (h2.mono (B':=fun x=>BR x∧x<w.heap.size) fun x p q=>⟨p,q⟩).frame fun x hx=>hk x hx.2 (hB x (.inr (.inl hx.1)))
 ·cases hj:k.j with
  | none=>rw [hj] at h3;exact h3
  | some z =>
   rw [hj] at h3
   obtain ⟨a,e,hJ⟩:=h3
   exact ⟨a,e,(hJ.mono (B':=fun x=>BJ x∧x<w.heap.size) fun x p q=>⟨p,q⟩).frame fun x hx=>hk x hx.2 (hB x (.inr (.inr (.inl hx.1))))⟩
 ·rintro x (hx | hx | hx | hx)
  ·exact ⟨hB x (.inl hx),hx ▸ hb⟩
  ·exact ⟨hB x (.inr (.inl hx.1)),hx.2⟩
  ·exact ⟨hB x (.inr (.inr (.inl hx.1))),hx.2⟩
  ·exact ⟨hB x (.inr (.inr (.inr hx))),vR h5 hx⟩
theorem aO.mono (h:aO w b base A k B) (hB:∀x,B x→x<w.heap.size→B' x):aO w b base A k B':=by
 obtain ⟨aR,jv,sv,c,BR,BJ,h1,h2,h3,h4,h5,h6,h7,h8,h9⟩:=(h.frame (w':=w) (fun _ _ _=>rfl) rfl (Nat.le_refl _)).ex
 exact ⟨aR,jv,sv,c,BR,BJ,h1,h2,h3,h4,h5,h6,h7,h8,fun x hx=>hB x (h9 x hx).1 (h9 x hx).2⟩
theorem aO.self (h:aO w b base A k B):B b∧b<w.heap.size∧A<w.heap.size:=by
 obtain ⟨aR,jv,sv,c,BR,BJ,h1,h2,h3,h4,h5,h6,h7,h8,h9⟩:=h.ex
 refine ⟨h9 b (.inl rfl),?_,h8.2.2.2.2⟩
 rcases Nat.lt_or_ge b w.heap.size with h | h
 ·exact h
 ·rw [Array.getElem?_eq_none h] at h1;cases h1
end
structure jf (w:World) (aP:Addr) (aW A:Nat→Nat) (base n:Nat) (p:PS) (W:Nat→Wk) (F:Nat→Prop):Prop where
 ex:∃(BP:Nat→Prop) (BM:Nat→Nat→Prop),fu w aP p BP∧(∀k,k<n→aO w (aW k) base (A k) (W k) (BM k))∧(∀k,k<n→∀b,BP b→¬BM k b)∧(∀j k,j<n→k<n→j≠k→∀b,BM j b→¬BM k b)∧(∀b,BP b→F b)∧(∀k,k<n→∀b,BM k b→F b)∧∀k,k<n→¬F (A k)
section
variable {w w':World} {aP:Addr} {aW A:Nat→Nat} {base n:Nat} {p p':PS} {W:Nat→Wk} {F F':Nat→Prop}
theorem jf.frame (h:jf w aP aW A base n p W F) (hk:∀b,b<w.heap.size→(F b∨∃k,k<n∧b=A k)→w'.heap[b]?=w.heap[b]?) (hs:w.heap.size≤w'.heap.size):jf w' aP aW A base n p W F:=by
 obtain ⟨BP,BM,h1,h2,h3,h4,h5,h6,h7⟩:=h.ex
 refine ⟨fun b=>BP b∧b<w.heap.size,fun k b=>BM k b∧b<w.heap.size,(h1.mono (B':=fun b=>BP b∧b<w.heap.size) fun b x y=>⟨x,y⟩).frame fun b hb=>hk b hb.2 (.inl (h5 b hb.1)),fun k hkn=>(h2 k hkn).frame (fun b hb x=>hk b hb (.inl (h6 k hkn b x))) (hk _ (h2 k hkn).self.2.2 (.inr ⟨k,hkn,rfl⟩)) hs,fun k hk b x y=>h3 k hk b x.1 y.1,fun j k hj hk hjk b x y=>h4 j k hj hk hjk b x.1 y.1,fun b x=>h5 b x.1,fun k hk b x=>h6 k hk b x.1,h7⟩
theorem jf.abE (h:jf w aP aW A base n p W F) {i:Nat} (hi:i<n):∃BP B:Nat→Prop,fu w aP p BP∧aO w (aW i) base (A i) (W i) B∧(∀x,BP x→¬B x)∧(∀x,BP x→x<w.heap.size)∧(∀x,B x→x<w.heap.size)∧(∀x,BP x∨B x→F x) ∧
  ∀w' k' p' (oq B':Nat→Prop),fu w' aP p' oq→aO w' (aW i) base (A i) k' B'→(∀x,oq x→BP x∨w.heap.size≤x)→(∀x,B' x→B x∨w.heap.size≤x)→(∀x,oq x→¬B' x)→bC w (fun x=>BP x∨B x) w' →
   jf w' aP aW A base n p' (lS W i k') fun x=>F x∨w.heap.size≤x:=by
 obtain ⟨BP,BM,h1,h2,h3,h4,h5,h6,h7⟩:=h.ex
 refine ⟨fun b=>BP b∧b<w.heap.size,fun b=>BM i b∧b<w.heap.size,h1.mono fun b x y=>⟨x,y⟩,(h2 i hi).mono fun b x y=>⟨x,y⟩,fun x a b=>h3 i hi x a.1 b.1,fun x a=>a.2,fun x a=>a.2,fun x a=>a.elim (fun a=>h5 x a.1) fun a=>h6 i hi x a.1,?_⟩
 intro w' k' p' oq B' g1 g2 g3 g4 g5 g6
 have hfr:∀k,k<n→k≠i→aO w' (aW k) base (A k) (W k) fun b=>BM k b∧b<w.heap.size:=fun k hk hne=>by
  refine (h2 k hk).frame (fun x hx hb=>g6.block x hx ?_) (g6.block _ (h2 k hk).self.2.2 ?_) g6.size
  ·rintro (q | q)
   ·exact h3 k hk x q.1 hb
   ·exact h4 i k hi hk (fun e=>hne e.symm) x q.1 hb
  ·rintro (q | q)
   ·exact h7 k hk (h5 _ q.1)
   ·exact h7 k hk (h6 i hi _ q.1)
 refine ⟨oq,lS (fun k b=>BM k b∧b<w.heap.size) i B',g1,fun k hk=>?_,fun k hk b x=>?_,fun j k hj hk hjk b=>?_,fun b x=>(g3 b x).imp (fun q=>h5 b q.1) id,fun k hk b=>?_,fun k hk q=>q.elim (h7 k hk) fun q=>absurd (h2 k hk).self.2.2 (Nat.not_lt.2 q)⟩
 ·by_cases hki:k=i
  ·rw [hki,df,df];exact g2
  ·rw [eY _ _ hki,eY _ _ hki];exact hfr k hk hki
 ·by_cases hki:k=i
  ·rw [hki,df];exact g5 b x
  ·rw [eY _ _ hki]
   exact fun y=>(g3 b x).elim (fun q=>h3 k hk b q.1 y.1) fun q=>absurd y.2 (Nat.not_lt.2 q)
 ·by_cases q1:j=i
  ·have q2:k≠i:=fun e=>hjk (q1.trans e.symm)
   rw [q1,df,eY _ _ q2]
   exact fun x y=>(g4 b x).elim (fun q=>h4 i k hi hk (fun e=>q2 e.symm) b q.1 y.1) fun q=>absurd y.2 (Nat.not_lt.2 q)
  ·rw [eY _ _ q1]
   by_cases q2:k=i
   ·rw [q2,df]
    exact fun y x=>(g4 b x).elim (fun q=>h4 i j hi hj (fun e=>q1 e.symm) b q.1 y.1) fun q=>absurd y.2 (Nat.not_lt.2 q)
   ·rw [eY _ _ q2]
    exact fun x y=>h4 j k hj hk hjk b x.1 y.1
 ·by_cases hki:k=i
  ·rw [hki,df]
   exact fun x=>(g4 b x).imp (fun q=>h6 i hi b q.1) id
  ·rw [eY _ _ hki]
   exact fun x=>.inl (h6 k hk b x.1)
theorem jf.nil {B:Nat→Prop} (h:fu w aP p B):jf w aP aW A base 0 p W B :=
 ⟨B,fun _ _=>False,h,fun k hk=>absurd hk (Nat.not_lt_zero k),fun k hk=>absurd hk (Nat.not_lt_zero k),fun j k hj=>absurd hj (Nat.not_lt_zero j),fun _ h=>h,fun k hk=>absurd hk (Nat.not_lt_zero k),fun k hk=>absurd hk (Nat.not_lt_zero k)⟩
theorem jf.add {b:Nat} {k:Wk} {B:Nat→Prop} (h:jf w aP aW A base n p W F) (hm:aO w b base (A n) k B) (hd:∀x,B x→¬F x) (hA:∀i,i<n→¬B (A i)) (hAn:¬F (A n)) (Y7:¬B (A n)):jf w aP (lS aW n b) A base (n+1) p (lS W n k) fun x=>F x∨B x:=by
 obtain ⟨BP,BM,h1,h2,h3,h4,h5,h6,h7⟩:=h.ex
 refine ⟨BP,lS BM n B,h1,fun k hk=>?_,fun k hk x=>?_,fun j k hj hk hjk x=>?_,fun x hx=>.inl (h5 x hx),fun k hk x=>?_,fun k hk=>?_⟩
 ·by_cases hkn:k=n
  ·rw [hkn,df,df,df];exact hm
  ·rw [eY _ _ hkn,eY _ _ hkn,eY _ _ hkn];exact h2 k (by omega)
 ·by_cases hkn:k=n
  ·rw [hkn,df];exact fun a b=>hd x b (h5 x a)
  ·rw [eY _ _ hkn];exact h3 k (by omega) x
 ·by_cases q1:j=n
  ·have q2:k≠n:=fun e=>hjk (q1.trans e.symm)
   rw [q1,df,eY _ _ q2]
   exact fun a b=>hd x a (h6 k (by omega) x b)
  ·rw [eY _ _ q1]
   by_cases q2:k=n
   ·rw [q2,df]
    exact fun a b=>hd x b (h6 j (by omega) x a)
   ·rw [eY _ _ q2]
    exact h4 j k (by omega) (by omega) hjk x
 ·by_cases hkn:k=n
  ·rw [hkn,df];exact .inr
  ·rw [eY _ _ hkn];exact fun a=>.inl (h6 k (by omega) x a)
 ·by_cases hkn:k=n
  ·rw [hkn];exact fun q=>q.elim hAn Y7
  ·exact fun q=>q.elim (h7 k (by omega)) (hA k (by omega))
end
theorem XC {w:World} {ρ:Env} {ν:Nat→Addr} {b base A c:Nat} {r:RS} {l:List Op} (h:aH ρ ν dG w) (hr:aa ρ 0 4=r) (ho:bK ρ 4) (hn:¬gP ρ ν dG b) (hA:A<w.heap.size) (hAb:A≠b) (Na:¬gP ρ ν dG A)
  (hops:lq w A l) (hb:w.heap[b]?=some (.cells #[.pointer (some (ν 0)),.slice (some ⟨A,0,none⟩) l.length c,.pointer none,.bool false,.slice none 0 0] 62 (0,0))) :
  aO w b base A ⟨r,l,none,false,[]⟩ fun x=>x=b∨gP ρ ν dG x:=by
 have h0:∃aR,ν 0=⟨aR,0,none⟩:=by
  obtain ⟨g1,-⟩:=h.aC 0 _ rfl rfl rfl
  exact ⟨_,g1⟩
 obtain ⟨aR,h0⟩:=h0
 rw [h0] at hb
 refine ⟨aR,.pointer none,.slice none 0 0,c,gP ρ ν dG,fun _=>False,hb,⟨ρ,ν,h0,h,hr,ho,fun _ h=>h⟩,rfl,hops,⟨rfl,.inl ⟨rfl,rfl⟩⟩,⟨hn,id,fun _ _=>id⟩,⟨fun h=>(by cases h),fun _ _ h=>(by cases h)⟩,⟨hAb,Na,id,fun h=>(by cases h),hA⟩,?_⟩
 rintro x (hx | hx | hx | hx)
 ·exact .inl hx
 ·exact .inr hx
 ·exact hx.elim
 ·cases hx
end Go.Proofs.YthomdlajobnmnaaGreatDoor.Cq
namespace Go.Proofs.YthomdlajobnmnaaGreatDoor.Cq
open Go.RowKit Go.Rex
section
variable {k:Wk} {n:Nat} {j:Jb}
theorem XD (h0:k.r.step≠0):k.go n=(k,none):=by
 cases n with
 | zero=>rfl
 | succ n =>
  unfold Wk.go
  rw [if_pos h0]
theorem Nb (h0:k.r.step=0) (hj:k.j=none) (hi:k.bu=false) (hl:k.said.length≥k.ops.length):k.go (n+1)=(k,some false):=by
 rw [Wk.go,if_neg (fun h=>h h0),hj]
 simp only
 rw [if_neg (by rw [hi];decide),if_pos hl]
theorem UN (h0:k.r.step=0) (hj:k.j=none) (hi:k.bu=true) (hb:(k.r.begin (Ca.of 2)).2=true):Wk.go n {k with bu:=false,r:=(k.r.begin (Ca.of 2)).1}=k.go (n+1):=by
 rw [Wk.go,if_neg (fun h=>h h0),hj]
 simp only
 rw [if_pos hi,if_neg (by rw [hb];decide)]
theorem UO (h0:k.r.step=0) (hj:k.j=none) (hi:k.bu=false) (hl:k.said.length<k.ops.length) (hg:(k.ops.getD k.said.length ⟨0,0,0,0⟩).dD) (hb:(k.r.begin (Ca.of 1)).2=true) :
  Wk.go n {k with j:=some (Jb.new (k.ops.getD k.said.length ⟨0,0,0,0⟩)),bu:=true,r:=(k.r.begin (Ca.of 1)).1}=k.go (n+1):=by
 rw [Wk.go,if_neg (fun h=>h h0),hj]
 simp only
 rw [if_neg (by rw [hi];decide),if_neg (by omega),if_neg (fun h=>h hg),if_neg (by rw [hb];decide)]
theorem RQ (h0:k.r.step=0) (hj:k.j=some j) (hk:(j.next k.r.bV).2.kind=12):Wk.go n {k with said:=k.said ++ [((j.next k.r.bV).2.code,(j.next k.r.bV).2.val)],j:=none}=k.go (n+1):=by
 rw [Wk.go,if_neg (fun h=>h h0),hj]
 simp only
 rw [if_pos hk]
theorem XE (h0:k.r.step=0) (hj:k.j=some j) (hk:(j.next k.r.bV).2.kind≠12) (hb:(k.r.begin (j.next k.r.bV).2).2=true):Wk.go n {k with j:=some (j.next k.r.bV).1,r:=(k.r.begin (j.next k.r.bV).2).1}=k.go (n+1):=by
 rw [Wk.go,if_neg (fun h=>h h0),hj]
 simp only
 rw [if_neg hk,if_neg (by rw [hb];decide)]
end
section
variable {w w' w0 w1:World} {b base A:Nat} {k:Wk} {B F G:Nat→Prop}
theorem Nw.drewN {w w':World} (h:Nw w w') (n:Nat):Nw w (w'.drewN n):=⟨h.os,h.tape,h.output,h.size,h.block⟩
theorem Nw.drew {w w':World} (h:Nw w w'):Nw w w'.drew:=⟨h.os,h.tape,h.output,h.size,h.block⟩
theorem aO.nw (h:aO w b base A k B) (hn:Nw w w'):aO w' b base A k fun x=>B x∧x<w.heap.size :=
 h.frame (fun x hx _=>hn.block x hx id) (hn.block _ h.self.2.2 id) hn.size
theorem aO.K7 (h:aO w b base A k B) (hj:k.j=none):w.cell? ⟨b,2,none⟩=some (.pointer none):=by
 obtain ⟨aR,jv,sv,c,BR,BJ,h1,h2,h3,-⟩:=h.ex
 rw [hj] at h3
 obtain rfl:jv=.pointer none:=h3
 unfold World.cell?
 rw [h1]
 rfl
theorem aO.said (h:aO w b base A k B):∃a c,w.cell? ⟨b,4,none⟩=some (.slice a k.said.length c):=by
 obtain ⟨aR,jv,sv,c,BR,BJ,h1,h2,h3,h4,⟨h5,h6⟩,-⟩:=h.ex
 have KU:w.cell? ⟨b,4,none⟩=some sv:=by
  unfold World.cell?
  rw [h1]
  rfl
 rcases h6 with ⟨rfl,e⟩ | ⟨g,cap,cur,rfl,-⟩
 ·exact ⟨none,0,by rw [KU,e]⟩
 ·exact ⟨_,_,KU⟩
theorem aO.UQ (h:aO w b base A k B):lq w A k.ops:=by
 obtain ⟨aR,jv,sv,c,BR,BJ,h1,h2,h3,h4,-⟩:=h.ex
 exact h4
theorem aO.setW (h:aO w b base A k B) (i:Nat) (x:Value):bC w B (w.setCell ⟨b,i,none⟩ x) :=
 ⟨rfl,rfl,rfl,by simp [World.setCell],fun y hy hn=>heap_setCell_other w ⟨b,i,none⟩ y _ fun e=>hn (e ▸ h.self.1)⟩
theorem EM (h:bC w F w') (hn:Nw w' w1):bC w F w1:=il h hn fun x hx _=>hx.elim
end
end Go.Proofs.YthomdlajobnmnaaGreatDoor.Cq
namespace Go.Proofs.YthomdlajobnmnaaGreatDoor.Cq
open Go.Rex
section
variable {p:PS} {l:Lo}
theorem V8 (l:Lo) (i:Int) (w:Wd):(l.hold i w).h i.toNat=w:=by
 show (if i.toNat=i.toNat then w else l.h i.toNat)=w
 exact if_pos rfl
theorem K8 (ho:l.OK) (hn:p.nb=85) (hc:1≤(p.bd 24).num) (c:Ca) (hk:c.kind=6) (hi:0≤c.i∧c.i<9) (W:Wd) (hv:∀q,Ap p q→q.act (Ac.load c.slot c.gen c.field)=({q with steps:=q.steps+1},some ⟨W,true⟩)) :
  CR (fun l' x p'=>PQ l p l' x p'∧x=⟨W,true⟩) 5 (RT.begin l c).1 (RT.begin l c).2 p:=by
 have e:RT.begin l c=(l,.gV c):=by
  unfold RT.begin
  rw [if_neg (by omega),if_neg (by omega),if_neg (by omega),if_neg (by omega),if_neg (by omega),if_pos hk]
 rw [e]
 have h1:=ho.me
 have h2:=ho.threads
 refine CR.acc (show (5:Int)≠0 by decide) (hv p (Ap.refl p)) ?_
 refine CR.ite (fun hd=>?_) fun hd=>CR.ite (fun h2'=>?_) fun _=>CR.idle ⟨⟨Ap.steps p _,Lk.refl l⟩,rfl⟩
 ·refine CR.acc (t:=.jy _ _) (show (6:Int)≠0 by decide) (zV (p:={p with steps:=p.steps+1}) hn) ?_
  refine CR.ite (fun _=>CR.idle ⟨⟨(Ap.steps p _).trans (Ap.steps _ _),Lk.refl l⟩,rfl⟩) fun _=>CR.ite (fun h3=>?_) fun h3=>?_
  ·obtain ⟨p',g1,g2,g3⟩:=vT (p:={p with steps:=p.steps+1+1}) hn (f:=25+l.me * 9+c.i) (by omega) (Wd.fC (p.bd 24).num)
   have gA:Ap p p':=(Ap.steps p _).trans g2
   refine CR.acc (t:=.iN _ _) (show (7:Int)≠0 by decide) g1 ?_
   have hn':p'.nb=85:=g2.nb.trans hn
   refine CR.acc (t:=.gV c) (show (5:Int)≠0 by decide) (hv p' gA) ?_
   have hd':(l.hold c.i (Wd.fC (p.bd 24).num)).bN:=hd
   refine CR.ite (fun _=>?_) fun h=>absurd hd' h
   refine CR.acc (t:=.jy _ _) (show (6:Int)≠0 by decide) (zV (p:={p' with steps:=p'.steps+1}) hn') ?_
   have UR:RT.dK (l.hold c.i (Wd.fC (p.bd 24).num)) c.i (p'.bd 24).num:=by
    unfold RT.dK
    rw [if_pos (show (l.hold c.i (Wd.fC (p.bd 24).num)).av=3 from h3),g3]
    have hh:(l.hold c.i (Wd.fC (p.bd 24).num)).h c.i.toNat=Wd.fC (p.bd 24).num:=V8 _ _ _
    rw [hh]
    refine ⟨fun e=>?_,rfl⟩
    have e:(Wd.fC (p.bd 24).num).num=(0:Int):=by rw [e];rfl
    have e:(p.bd 24).num=0:=e
    omega
   refine CR.ite (fun _=>CR.idle ⟨⟨?_,⟨⟨rfl,rfl,rfl,rfl⟩,rfl⟩⟩,rfl⟩) fun h=>absurd UR h
   exact gA.trans ((Ap.steps p' _).trans (Ap.steps _ _))
  ·obtain ⟨p',g1,g2,g3⟩:=vT (p:={p with steps:=p.steps+1+1}) hn (f:=79+l.me) (by omega) (RS.qY ⟨true,if l.s.is=true then l.s.low else (p.bd 24).num,(p.bd 24).num⟩)
   have gA:Ap p p':=(Ap.steps p _).trans g2
   refine CR.acc (t:=.iN _ _) (show (7:Int)≠0 by decide) g1 ?_
   have hn':p'.nb=85:=g2.nb.trans hn
   refine CR.acc (t:=.gV c) (show (5:Int)≠0 by decide) (hv p' gA) ?_
   refine CR.ite (fun _=>?_) fun h=>absurd hd h
   refine CR.acc (t:=.jy _ _) (show (6:Int)≠0 by decide) (zV (p:={p' with steps:=p'.steps+1}) hn') ?_
   have h3':¬l.av=3:=h3
   have UR:RT.dK {l with s:=⟨true,if l.s.is=true then l.s.low else (p.bd 24).num,(p.bd 24).num⟩} c.i (p'.bd 24).num:=by
    unfold RT.dK
    rw [if_neg (show ¬l.av=3 from h3'),g3]
    exact ⟨rfl,rfl⟩
   refine CR.ite (fun _=>CR.idle ⟨⟨?_,⟨⟨rfl,rfl,rfl,rfl⟩,rfl⟩⟩,rfl⟩) fun h=>absurd UR h
   exact gA.trans ((Ap.steps p' _).trans (Ap.steps _ _))
 ·obtain ⟨p',g1,g2,g3⟩:=vT (p:={p with steps:=p.steps+1}) hn (f:=25+l.me * 9+c.i) (by omega) W.gF
  have gA:Ap p p':=(Ap.steps p _).trans g2
  refine CR.acc (t:=.iN _ _) (show (7:Int)≠0 by decide) g1 ?_
  refine CR.acc (t:=.gV c) (show (5:Int)≠0 by decide) (hv p' gA) ?_
  have hd':¬(l.hold c.i W.gF).bN:=hd
  refine CR.ite (fun h=>absurd h hd') fun _=>CR.ite (fun h=>?_) fun _=>CR.idle ⟨⟨gA.trans (Ap.steps p' _),⟨⟨rfl,rfl,rfl,rfl⟩,rfl⟩⟩,rfl⟩
  exact absurd (V8 l c.i W.gF) h.2.2
end
end Go.Proofs.YthomdlajobnmnaaGreatDoor.Cq
namespace Go.Proofs.YthomdlajobnmnaaGreatDoor.Cq
open Go.Rex
structure Vk where
 l:Lo
 t:RT
 ops:List Op
 j:Option Jb
 bu:Bool
 said:List (Int × Int)
structure VW (v:Vk) (w:Wk):Prop where
 rep:ik v.l v.t w.r
 ops:w.ops=v.ops
 j:w.j=v.j
 bu:w.bu=v.bu
 said:w.said=v.said
def Vk.with (v:Vk) (q:LR):Vk:={v with l:=q.1,t:=q.2}
def Vk.op (v:Vk):Op:=v.ops.getD v.said.length ⟨0,0,0,0⟩
def Vk.gL (v:Vk) (x:Rp):Vk :=
 match v.j with
 | none=>if v.bu=true then ({v with bu:=false}:Vk).with (RT.begin v.l (Ca.of 2)) else ({v with j:=some (Jb.new v.op),bu:=true}:Vk).with (RT.begin v.l (Ca.of 1))
 | some j=>if (j.next x).2.kind=12 then {v with said:=v.said ++ [((j.next x).2.code,(j.next x).2.val)],j:=none} else ({v with j:=some (j.next x).1}:Vk).with (RT.begin v.l (j.next x).2)
def Vk.done (v:Vk):Prop:=v.t.ig=0∧v.j=none∧v.bu=false∧v.said.length≥v.ops.length
def Vk.may (v:Vk) (x:Rp):Prop :=
 match v.j with
 | none=>v.bu=true∨(v.bu=false∧v.said.length<v.ops.length∧v.op.dD)
 | some j=>((j.next x).2.kind=12→v.said.length<v.ops.length)∧((j.next x).2.kind≠12→(j.next x).2.OK)
def Fin (Q:Vk→PS→Prop):Nat→Nat→Vk→PS→Prop
 | _,0,v,p=>v.done∧Q v p
 | c,n+1,v,p=>(v.done∧Q v p)∨(∃x,v.t=.idle x∧v.may x∧∃c',c=c'+1∧Fin Q c' n (v.gL x) p)∨(v.t.ig≠0∧∃p' x,p.act (v.t.acc v.l)=(p',some x)∧Fin Q 150 n (v.with (RT.bM v.l v.t x)) p')
section
variable {Q:Vk→PS→Prop}
theorem Fin.end {c n:Nat} {v:Vk} {p:PS} (h:v.done) (hq:Q v p):Fin Q c n v p:=by
 cases n with
 | zero=>exact ⟨h,hq⟩
 | succ n=>exact .inl ⟨h,hq⟩
theorem Fin.gL {c n:Nat} {v:Vk} {p:PS} {x:Rp} (ht:v.t=.idle x) (hm:v.may x) (h:Fin Q c n (v.gL x) p):Fin Q (c+1) (n+1) v p:=.inr (.inl ⟨x,ht,hm,c,rfl,h⟩)
theorem Fin.acc {c n:Nat} {v:Vk} {p p':PS} {x:Rp} (h0:v.t.ig≠0) (ha:p.act (v.t.acc v.l)=(p',some x)) (h:Fin Q 150 n (v.with (RT.bM v.l v.t x)) p'):Fin Q c (n+1) v p:=.inr (.inr ⟨h0,p',x,ha,h⟩)
theorem Fin.more:∀{n c m d:Nat} {v:Vk} {p:PS},Fin Q c n v p→n≤m→c≤d→Fin Q d m v p
 | 0,c,m,d,v,p,h,_,_=>Fin.end h.1 h.2
 | n+1,c,0,d,v,p,h,hm,_=>absurd hm (Nat.not_succ_le_zero _)
 | n+1,c,m+1,d,v,p,h,hm,hc=>by
  rcases h with h | ⟨x,ht,hx,c',rfl,h⟩ | ⟨h0,p',x,ha,h⟩
  ·exact Fin.end h.1 h.2
  ·obtain ⟨d,rfl⟩:∃e,d=e+1:=⟨d-1,by omega⟩
   exact Fin.gL ht hx (Fin.more h (by omega) (by omega))
  ·exact Fin.acc h0 ha (Fin.more h (by omega) (Nat.le_refl _))
theorem Fin.call {Post:Lo→Rp→PS→Prop}:∀{d:Nat} {c n:Nat} {v:Vk} {p:PS},CR Post d v.l v.t p→c≤150→(∀l x p',Post l x p'→Fin Q c n {v with l:=l,t:=.idle x} p')→Fin Q c (n+d) v p
 | 0,c,n,v,p,h,hc,hk=>by
  obtain ⟨x,hx,hp⟩:=h
  have:=hk _ _ _ hp
  rw [←hx] at this
  exact this
 | d+1,c,n,v,p,h,hc,hk=>by
  rcases h with ⟨x,hx,hp⟩ | ⟨h0,p',x,ha,h⟩
  ·have:=hk _ _ _ hp
   rw [←hx] at this
   exact this.more (by omega) (Nat.le_refl _)
  ·exact Fin.acc h0 ha (Fin.call (v:=v.with (RT.bM v.l v.t x)) h (Nat.le_refl _) fun l x p' hp=>(hk l x p' hp).more (Nat.le_refl _) hc)
end
structure AV (k:Int) (v:Vk) (p:PS):Prop where
 ou:tu k v.l v.t p
 uz:∀j,v.j=some j→(Wb k j.node∧Wb k j.h∧Wb k j.t∧Wb k j.n∧j.last.new=Wd.zero∧j.last.old=Wd.zero)∧0≤j.op.val∧j.op.val≤3000
 ops:v.ops.length≤100∧∀o∈v.ops,0≤o.val∧o.val≤3000
theorem AV.mono {k k':Int} {v:Vk} {p:PS} (h:AV k v p) (hk:k≤k'):AV k' v p:=⟨h.ou.mono hk,fun j hj=>⟨⟨(h.uz j hj).1.1.mono hk,(h.uz j hj).1.2.1.mono hk,(h.uz j hj).1.2.2.1.mono hk,(h.uz j hj).1.2.2.2.1.mono hk,(h.uz j hj).1.2.2.2.2⟩,(h.uz j hj).2⟩,h.ops⟩
theorem O6 {k:Int} {j:Jb} {x:Rp} (h0:0≤k) (hn:Wb k j.node) (hh:Wb k j.h) (ht:Wb k j.t) (hm:Wb k j.n) (hl:j.last.new=Wd.zero∧j.last.old=Wd.zero) (hv:0≤j.op.val∧j.op.val≤3000) (hx:Wb k x.word) :
  ((Wb k (j.next x).1.node∧Wb k (j.next x).1.h∧Wb k (j.next x).1.t∧Wb k (j.next x).1.n∧(j.next x).1.last.new=Wd.zero∧(j.next x).1.last.old=Wd.zero)∧(j.next x).1.op=j.op)∧Wb (k+1) (j.next x).2.new∧Wb k (j.next x).2.old:=by
 have hz:Wb k Wd.zero:=Wb.zero h0
 have hz1:Wb (k+1) Wd.zero:=Wb.zero (by omega)
 have hval:Wb (k+1) (Wd.fC j.op.val):=Wb.num (by omega) (by omega)
 have hsw:∀{o r:Wd},Wb k o→Wb k r→Wb (k+1) (Zj o r):=fun {o r} a b=>by
  obtain ⟨a1,a2,a3,a4⟩:=a
  obtain ⟨b1,b2,b3,b4⟩:=b
  refine ⟨b1,?_,?_,?_⟩
  ·show -(k+1)≤r.gen∧r.gen≤k+1
   omega
  ·show -(2000 * (k+1)+3000)≤o.tag+1∧o.tag+1≤2000 * (k+1)+3000
   omega
  ·show -(2000 * (k+1)+3000)≤0∧0≤2000 * (k+1)+3000
   omega
 have hl1:Wb (k+1) j.last.new:=by rw [hl.1];exact hz1
 have hl2:Wb k j.last.old:=by rw [hl.2];exact hz
 unfold Jb.next
 split
 ·unfold Jb.enq
  repeat' split
  all_goals
   refine ⟨⟨⟨?_,?_,?_,?_,?_⟩,rfl⟩,?_,?_⟩
   ·first | exact hn | exact hx
   ·first | exact hh | exact hx
   ·first | exact ht | exact hx
   ·first | exact hm | exact hx
   ·first | exact hl | exact ⟨rfl,rfl⟩
   ·first | exact hz1 | exact hval | exact hl1 | exact hsw ht hm | exact hsw hm hn | exact hsw ht hn
   ·first | exact hz | exact ht | exact hm | exact hl2
 ·unfold Jb.deq
  repeat' split
  all_goals
   refine ⟨⟨⟨?_,?_,?_,?_,?_⟩,rfl⟩,?_,?_⟩
   ·first | exact hn | exact hx
   ·first | exact hh | exact hx
   ·first | exact ht | exact hx
   ·first | exact hm | exact hx
   ·first | exact hl | exact ⟨rfl,rfl⟩
   ·first | exact hz1 | exact hl1 | exact hsw ht hm | exact hsw hh hm
   ·first | exact hz | exact ht | exact hh | exact hl2
theorem AV.gL {k:Int} {v:Vk} {p:PS} {x:Rp} (h:AV k v p) (ht:v.t=.idle x) (hm:v.may x):AV (k+1) (v.gL x) p:=by
 have ha:=h.ou
 have h0:=ha.k0
 rw [ht] at ha
 have hz:Wb k Wd.zero:=Wb.zero h0
 have hz1:Wb (k+1) Wd.zero:=Wb.zero (by omega)
 have Zg:Wb k x.word:=ha.tw
 unfold Vk.gL
 unfold Vk.may at hm
 cases hj:v.j with
 | none =>
  rw [hj] at hm
  simp only at hm ⊢
  split
  ·exact ⟨ha.begin (c:=Ca.of 2) (Dc (by decide)) hz1 hz,fun j hj'=>(by cases hj'),h.ops⟩
  ·rename_i hi
   obtain ⟨-,hl,-⟩:=hm.resolve_left hi
   have ho:v.op∈v.ops:=by
    unfold Vk.op
    rw [List.getD_eq_getElem?_getD,List.getElem?_eq_getElem hl]
    exact List.getElem_mem _
   refine ⟨ha.begin (c:=Ca.of 1) (Dc (by decide)) hz1 hz,fun j hj'=>?_,h.ops⟩
   obtain rfl:Jb.new v.op=j:=Option.some.inj hj'
   exact ⟨⟨hz1,hz1,hz1,hz1,rfl,rfl⟩,h.ops.2 _ ho⟩
 | some j =>
  rw [hj] at hm
  simp only at hm ⊢
  obtain ⟨⟨q1,q2,q5,q6,q3⟩,q4⟩:=h.uz j hj
  obtain ⟨⟨⟨a1,a2,a5,a6,a3⟩,a4⟩,b,c⟩:=O6 (x:=x) h0 q1 q2 q5 q6 q3 q4 Zg
  split
  ·refine ⟨?_,fun j' hj'=>(by cases hj'),h.ops⟩
   have:=ha.mono (k':=k+1) (by omega)
   show tu (k+1) v.l v.t p
   rw [ht]
   exact this
  ·rename_i hk
   refine ⟨ha.begin (hm.2 hk) b c,fun j' hj'=>?_,h.ops⟩
   obtain rfl:(j.next x).1=j':=Option.some.inj hj'
   exact ⟨⟨a1.mono (by omega),a2.mono (by omega),a5.mono (by omega),a6.mono (by omega),a3⟩,by rw [a4];exact q4⟩
theorem AV.bM {k:Int} {v:Vk} {p p':PS} {x:Rp} (h:AV k v p) (hx:p.act (v.t.acc v.l)=(p',some x)):AV (k+1) (v.with (RT.bM v.l v.t x)) p'∧Wb (k+1) x.word:=by
 obtain ⟨h1,h2⟩:=h.ou.bM hx
 exact ⟨⟨h1,(h.mono (show k≤k+1 by omega)).uz,h.ops⟩,h2⟩
section
variable {Q:Vk→PS→Prop} {c n:Nat} {l:Lo} {ops:List Op} {j j':Jb} {bu:Bool} {said:List (Int × Int)} {p p':PS} {x x':Rp} {ca:Ca} {a:Ac}
theorem Fin.next (hn:j.next x=(j',ca)) (h12:ca.kind≠12) (hok:ca.OK) (h:Fin Q c n ⟨(RT.begin l ca).1,(RT.begin l ca).2,ops,some j',bu,said⟩ p):Fin Q (c+1) (n+1) ⟨l,.idle x,ops,some j,bu,said⟩ p:=by
 refine Fin.gL (x:=x) rfl ?_ ?_
 ·show ((j.next x).2.kind=12→_)∧((j.next x).2.kind≠12→(j.next x).2.OK)
  rw [hn]
  exact ⟨fun e=>absurd e h12,fun _=>hok⟩
 ·have e:Vk.gL ⟨l,.idle x,ops,some j,bu,said⟩ x=⟨(RT.begin l ca).1,(RT.begin l ca).2,ops,some j',bu,said⟩:=by
   unfold Vk.gL
   simp only [hn]
   rw [if_neg h12]
   rfl
  rw [e]
  exact h
theorem Fin.answer {co va:Int} (hn:j.next x=(j',{Ca.of 12 with code:=co,val:=va})) (hl:said.length<ops.length) (h:Fin Q c n ⟨l,.idle x,ops,none,bu,said ++ [(co,va)]⟩ p):Fin Q (c+1) (n+1) ⟨l,.idle x,ops,some j,bu,said⟩ p:=by
 refine Fin.gL (x:=x) rfl ?_ ?_
 ·show ((j.next x).2.kind=12→said.length<ops.length)∧((j.next x).2.kind≠12→(j.next x).2.OK)
  rw [hn]
  exact ⟨fun _=>hl,fun e=>absurd rfl e⟩
 ·have e:Vk.gL ⟨l,.idle x,ops,some j,bu,said⟩ x=⟨l,.idle x,ops,none,bu,said ++ [(co,va)]⟩:=by
   unfold Vk.gL
   simp only [hn]
   rw [if_pos (show (Ca.of 12).kind=12 from rfl)]
  rw [e]
  exact h
theorem Fin.Nc (hn:j.next x=(j',ca)) (h12:ca.kind≠12) (hok:ca.OK) (hb:RT.begin l ca=(l,.one a)) (ha:p.act a=(p',some x')) (h:Fin Q 150 n ⟨l,.idle x',ops,some j',bu,said⟩ p'):Fin Q (c+1) (n+2) ⟨l,.idle x,ops,some j,bu,said⟩ p:=by
 refine Fin.next hn h12 hok ?_
 rw [hb]
 exact Fin.acc (show (1:Int)≠0 by decide) ha h
theorem Fin.start {o:Op} (hl:said.length<ops.length) (ho:ops.getD said.length ⟨0,0,0,0⟩=o) (hg:o.dD) (h:Fin Q c n ⟨(RT.begin l (Ca.of 1)).1,(RT.begin l (Ca.of 1)).2,ops,some (Jb.new o),true,said⟩ p):Fin Q (c+1) (n+1) ⟨l,.idle x,ops,none,false,said⟩ p:=by
 subst ho
 exact Fin.gL (x:=x) rfl (.inr ⟨rfl,hl,hg⟩) h
theorem Fin.leave (h:Fin Q c n ⟨(RT.begin l (Ca.of 2)).1,(RT.begin l (Ca.of 2)).2,ops,none,false,said⟩ p):Fin Q (c+1) (n+1) ⟨l,.idle x,ops,none,true,said⟩ p :=
 Fin.gL (x:=x) rfl (.inl rfl) h
end
end Go.Proofs.YthomdlajobnmnaaGreatDoor.Cq
namespace Go.Proofs.YthomdlajobnmnaaGreatDoor.Cq
open Go.Rex
section
variable {Q:Vk→PS→Prop} {v:Vk} {w:Wk} {p:PS} {x:Rp}
theorem VW.idle (h:VW v w) (ht:v.t=.idle x):ik v.l (.idle x) w.r∧w.r.step=0∧w.r.bV=x:=by
 have hr:=h.rep
 rw [ht] at hr
 exact ⟨hr,hr.step,hr.more⟩
theorem VW.leave (h:VW v w) (ho:v.l.OK) (ht:v.t=.idle x) (hj:v.j=none) (hi:v.bu=true):(w.r.begin (Ca.of 2)).2=true∧VW (v.gL x) {w with bu:=false,r:=(w.r.begin (Ca.of 2)).1}:=by
 obtain ⟨hr,-,-⟩:=h.idle ht
 have hb:=hr.begin ho (Dc (k:=2) (by decide))
 have e:v.gL x=({v with bu:=false}:Vk).with (RT.begin v.l (Ca.of 2)):=by
  unfold Vk.gL
  rw [hj]
  simp only
  rw [if_pos hi]
 rw [e]
 exact ⟨hb.2,hb.1,h.ops,h.j,rfl,h.said⟩
theorem VW.start (h:VW v w) (ho:v.l.OK) (ht:v.t=.idle x) (hj:v.j=none) (hi:v.bu=false):(w.r.begin (Ca.of 1)).2=true∧VW (v.gL x) {w with j:=some (Jb.new (w.ops.getD w.said.length ⟨0,0,0,0⟩)),bu:=true,r:=(w.r.begin (Ca.of 1)).1}:=by
 obtain ⟨hr,-,-⟩:=h.idle ht
 have hb:=hr.begin ho (Dc (k:=1) (by decide))
 have e:v.gL x=({v with j:=some (Jb.new v.op),bu:=true}:Vk).with (RT.begin v.l (Ca.of 1)):=by
  unfold Vk.gL
  rw [hj]
  simp only
  rw [if_neg (by rw [hi];decide)]
 rw [e]
 refine ⟨hb.2,hb.1,h.ops,?_,rfl,h.said⟩
 show some (Jb.new (w.ops.getD w.said.length ⟨0,0,0,0⟩))=some (Jb.new v.op)
 rw [h.ops,h.said]
 rfl
theorem VW.next (h:VW v w) (ho:v.l.OK) (ht:v.t=.idle x) {j:Jb} (hj:v.j=some j) (hm:v.may x) :
  ((j.next w.r.bV).2.kind=12∧w.said.length<w.ops.length∧VW (v.gL x) {w with said:=w.said ++ [((j.next w.r.bV).2.code,(j.next w.r.bV).2.val)],j:=none}) ∨
  ((j.next w.r.bV).2.kind≠12∧(j.next w.r.bV).2.OK∧(w.r.begin (j.next w.r.bV).2).2=true∧VW (v.gL x) {w with j:=some (j.next w.r.bV).1,r:=(w.r.begin (j.next w.r.bV).2).1}):=by
 obtain ⟨hr,-,hx⟩:=h.idle ht
 rw [hx]
 unfold Vk.may at hm
 rw [hj] at hm
 simp only at hm
 by_cases h12:(j.next x).2.kind=12
 ·have e:v.gL x={v with said:=v.said ++ [((j.next x).2.code,(j.next x).2.val)],j:=none}:=by
   unfold Vk.gL
   rw [hj]
   simp only
   rw [if_pos h12]
  rw [e]
  refine .inl ⟨h12,by rw [h.ops,h.said];exact hm.1 h12,h.rep,h.ops,rfl,h.bu,?_⟩
  show w.said ++ _=v.said ++ _
  rw [h.said]
 ·have hok:=hm.2 h12
  have hb:=hr.begin ho hok
  have e:v.gL x=({v with j:=some (j.next x).1}:Vk).with (RT.begin v.l (j.next x).2):=by
   unfold Vk.gL
   rw [hj]
   simp only
   rw [if_neg h12]
  rw [e]
  exact .inr ⟨h12,hok,hb.2,hb.1,h.ops,rfl,h.bu,h.said⟩
theorem K9:∀(n:Nat) {c m:Nat} {K:Int} {v:Vk} {w:Wk},Fin Q c m v p→VW v w→AV K v p→c<n →
  ∃w' v' b c' m' K',w.go n=(w',b)∧VW v' w'∧AV K' v' p∧K'≤K+n∧((b=some false∧v'.done∧Q v' p)∨(b=none∧v'.t.ig≠0∧Fin Q c' m' v' p∧m'≤m))
 | 0,c,m,K,v,w,_,_,_,hc=>absurd hc (Nat.not_lt_zero _)
 | n+1,c,m,K,v,w,hF,hV,hA,hc=>by
  have dn:v.done→Q v p→∃w' v' b c' m' K',w.go (n+1)=(w',b)∧VW v' w'∧AV K' v' p∧K'≤K+((n+1:Nat):Int)∧((b=some false∧v'.done∧Q v' p)∨(b=none∧v'.t.ig≠0∧Fin Q c' m' v' p∧m'≤m)):=fun hd hq=>by
   obtain ⟨d1,d2,d3,d4⟩:=hd
   refine ⟨w,v,some false,0,0,K,?_,hV,hA,by omega,.inl ⟨rfl,⟨d1,d2,d3,d4⟩,hq⟩⟩
   unfold Wk.go
   rw [if_neg (fun h=>h (hV.rep.step.trans d1)),hV.j.trans d2]
   simp only
   rw [if_neg (by rw [hV.bu,d3];decide),if_pos (by rw [hV.ops,hV.said];exact d4)]
  cases m with
  | zero=>exact dn hF.1 hF.2
  | succ m =>
   rcases hF with h | ⟨x,ht,hm,c',rfl,h⟩ | ⟨h0,p',x,ha,h⟩
   ·exact dn h.1 h.2
   ·have hA':=hA.gL ht hm
    have ho:=hA.ou.ok
    have key:∀w1:Wk,VW (v.gL x) w1→w.go (n+1)=w1.go n→∃w' v' b c' m' K',w.go (n+1)=(w',b)∧VW v' w'∧AV K' v' p∧K'≤K+((n+1:Nat):Int)∧((b=some false∧v'.done∧Q v' p)∨(b=none∧v'.t.ig≠0∧Fin Q c' m' v' p∧m'≤m+1)):=fun w1 hV1 e=>by
     obtain ⟨w',v',b,c2,m',K',e',g1,g2,g3,g4⟩:=K9 n h hV1 hA' (by omega)
     refine ⟨w',v',b,c2,m',K',e.trans e',g1,g2,by omega,?_⟩
     rcases g4 with g4 | ⟨a1,a2,a3,a4⟩
     ·exact .inl g4
     ·exact .inr ⟨a1,a2,a3,by omega⟩
    obtain ⟨-,hst,hx⟩:=hV.idle ht
    cases hj:v.j with
    | none =>
     unfold Vk.may at hm
     rw [hj] at hm
     simp only at hm
     rcases hm with hi | ⟨hi,hl,hg⟩
     ·obtain ⟨b1,b2⟩:=hV.leave ho ht hj hi
      refine key _ b2 ?_
      rw [Wk.go,if_neg (fun h=>h hst),hV.j.trans hj]
      simp only
      rw [if_pos (hV.bu.trans hi),if_neg (by rw [b1];decide)]
     ·obtain ⟨b1,b2⟩:=hV.start ho ht hj hi
      refine key _ b2 ?_
      have hg':(w.ops.getD w.said.length ⟨0,0,0,0⟩).dD:=by rw [hV.ops,hV.said];exact hg
      rw [Wk.go,if_neg (fun h=>h hst),hV.j.trans hj]
      simp only
      rw [if_neg (by rw [hV.bu,hi];decide),if_neg (by rw [hV.ops,hV.said];omega),if_neg (fun h=>h hg'),if_neg (by rw [b1];decide)]
    | some j =>
     rcases hV.next ho ht hj hm with ⟨k1,-,b2⟩ | ⟨k1,-,b1,b2⟩
     ·refine key _ b2 ?_
      rw [Wk.go,if_neg (fun h=>h hst),hV.j.trans hj]
      simp only
      rw [if_pos k1]
     ·refine key _ b2 ?_
      rw [Wk.go,if_neg (fun h=>h hst),hV.j.trans hj]
      simp only
      rw [if_neg k1,if_neg (by rw [b1];decide)]
   ·refine ⟨w,v,none,c,m+1,K,?_,hV,hA,by omega,.inr ⟨rfl,h0,.inr (.inr ⟨h0,p',x,ha,h⟩),Nat.le_refl _⟩⟩
    unfold Wk.go
    rw [if_pos (by rw [hV.rep.step];exact h0)]
theorem VW.bM (h:VW v w) (ho:v.l.OK) (hs:v.t.kL v.l) (h0:v.t.ig≠0) (x:Rp):(w.r.bM x).2=true∧VW (v.with (RT.bM v.l v.t x)) {w with r:=(w.r.bM x).1}:=by
 have hk:=h.rep.bM ho hs.fits h0 x
 exact ⟨hk.2,hk.1,h.ops,h.j,h.bu,h.said⟩
structure TJ (T:Int) (Q:Vk→PS→Prop) (m:Nat) (w:Wk) (p:PS):Prop where
 ex:∃v c K,Fin Q c m v p∧VW v w∧AV K v p∧c≤150∧K+201 * m≤T
structure TE (T:Int) (Q:Vk→PS→Prop) (w:Wk) (p:PS):Prop where
 ex:∃v K,v.done∧Q v p∧VW v w∧AV K v p∧K≤T+200
theorem TE.idle {T:Int} (h:TE T Q w p):w.idle:=by
 obtain ⟨v,K,⟨d1,d2,d3,d4⟩,-,hV,-⟩:=h.ex
 exact ⟨hV.rep.step.trans d1,hV.j.trans d2,hV.bu.trans d3,by rw [hV.ops,hV.said];exact d4⟩
theorem TJ.step {T:Int} {m:Nat} (h:TJ T Q m w p):∃w' p' b,w.step p=(w',p',b)∧((b=true∧∃m',m'<m∧TJ T Q m' w' p')∨(b=false∧p'=p∧TE T Q w' p')):=by
 obtain ⟨v,c,K,hF,hV,hA,hc,hK⟩:=h.ex
 obtain ⟨w1,v1,b,c',m',K',e,g1,g2,g3,g4⟩:=K9 200 hF hV hA (by omega)
 have hK':K'≤K+200:=g3
 unfold Wk.step
 rw [e]
 rcases g4 with ⟨rfl,hd,hq⟩ | ⟨rfl,h0,hF1,hm⟩
 ·exact ⟨w1,p,false,rfl,.inr ⟨rfl,rfl,v1,K',hd,hq,g1,g2,by omega⟩⟩
 ·simp only
  rw [if_neg (by rw [g1.rep.step];exact h0)]
  cases m' with
  | zero=>exact absurd hF1.1.1 h0
  | succ m' =>
   rcases hF1 with hd | ⟨x,ht,-⟩ | ⟨-,p',x,ha,hF2⟩
   ·exact absurd hd.1.1 h0
   ·rw [ht] at h0
    exact absurd rfl h0
   ·have hac:=g1.rep.acc h0
    rw [hac,ha]
    simp only
    obtain ⟨k1,k2⟩:=g1.bM g2.ou.ok g2.ou.kL h0 x
    refine ⟨_,p',_,rfl,.inl ⟨k1,m',by omega,⟨_,150,K'+1,hF2,k2,(g2.bM ha).1,Nat.le_refl _,?_⟩⟩⟩
    have:((m':Nat):Int)+1≤m:=by omega
    omega
end
end Go.Proofs.YthomdlajobnmnaaGreatDoor.Cq
namespace Go.Proofs.YthomdlajobnmnaaGreatDoor.Cq
open Go.RowKit Go.Rex
def IF (Q:Vk→PS→Prop) (p:PS) (n:Nat) (k:Wk):Prop:=∃v c m K,VW v k∧AV K v p∧K+n≤800000∧Fin Q c m v p
theorem RU (Q:Vk→PS→Prop) (p:PS):Bc (IF Q p) where
 rt:=fun n k ⟨v,c,m,K,hV,hA,hK,hF⟩=>RG hA.ou hV.rep (by omega)
 len:=fun n k ⟨v,c,m,K,hV,hA,hK,hF⟩=>by rw [hV.ops];exact hA.ops.1
 leave:=fun n k ⟨v,c,m,K,hV,hA,hK,hF⟩ h0 hj hi=>by
  obtain ⟨x,ht⟩:=RT.Ga (hV.rep.step.symm.trans h0)
  obtain ⟨c',m',hm,hF'⟩:=A9 hF ht fun hd=>by
   have:=hd.2.2.1
   rw [←hV.bu,hi] at this
   cases this
  obtain ⟨b1,b2⟩:=hV.leave hA.ou.ok ht (hV.j.symm.trans hj) (hV.bu.symm.trans hi)
  exact ⟨b1,_,c',m',K+1,b2,hA.gL ht hm,by omega,hF'⟩
 start:=fun n k ⟨v,c,m,K,hV,hA,hK,hF⟩ h0 hj hi hl=>by
  obtain ⟨x,ht⟩:=RT.Ga (hV.rep.step.symm.trans h0)
  obtain ⟨c',m',hm,hF'⟩:=A9 hF ht fun hd=>by
   have:=hd.2.2.2
   rw [←hV.ops,←hV.said] at this
   omega
  have hj':=hV.j.symm.trans hj
  have hi':=hV.bu.symm.trans hi
  obtain ⟨b1,b2⟩:=hV.start hA.ou.ok ht hj' hi'
  refine ⟨?_,b1,_,c',m',K+1,b2,hA.gL ht hm,by omega,hF'⟩
  unfold Vk.may at hm
  rw [hj'] at hm
  simp only at hm
  rcases hm with hm | ⟨-,-,hm⟩
  ·rw [hi'] at hm;cases hm
  ·rw [hV.ops,hV.said];exact hm
 next:=fun n k j ⟨v,c,m,K,hV,hA,hK,hF⟩ h0 hj=>by
  obtain ⟨x,ht⟩:=RT.Ga (hV.rep.step.symm.trans h0)
  have hj':=hV.j.symm.trans hj
  obtain ⟨c',m',hm,hF'⟩:=A9 hF ht fun hd=>by
   have:=hd.2.1
   rw [hj'] at this
   cases this
  obtain ⟨-,q2,q5,q6,-⟩:=(hA.uz j hj').1
  have hw1:=q2.t
  have hw2:=q5.t
  have hw3:=q6.t
  have h0':=hA.ou.k0
  refine ⟨⟨⟨by omega,by omega⟩,⟨by omega,by omega⟩,by omega,by omega⟩,?_⟩
  rcases hV.next hA.ou.ok ht hj' hm with ⟨k1,k2,b2⟩ | ⟨k1,k2,b1,b2⟩
  ·exact .inl ⟨k1,k2,_,c',m',K+1,b2,hA.gL ht hm,by omega,hF'⟩
  ·exact .inr ⟨k1,k2,b1,_,c',m',K+1,b2,hA.gL ht hm,by omega,hF'⟩
where
 A9 {Q:Vk→PS→Prop} {c m:Nat} {v:Vk} {p:PS} {x:Rp} (hF:Fin Q c m v p) (ht:v.t=.idle x) (hd:¬v.done):∃c' m',v.may x∧Fin Q c' m' (v.gL x) p:=by
  cases m with
  | zero=>exact absurd hF.1 hd
  | succ m =>
   rcases hF with h | ⟨y,hy,hm,c',rfl,h⟩ | ⟨h0,-⟩
   ·exact absurd h.1 hd
   ·rw [ht] at hy
    cases hy
    exact ⟨c',m,hm,h⟩
   ·rw [ht] at h0
    exact absurd rfl h0
theorem Zm {T:Int} {Q:Vk→PS→Prop} {m:Nat} {w:Wk} {p:PS} (h:TJ T Q m w p) (hT:T≤700000) :
  IF Q p 200 w∧p.OK∧p.steps≤1000000∧∀w',w.go 200=(w',none)→w'.r.step≠0∧∃p' x,p.act w'.r.acc=(p',some x)∧oZ w'.r x∧(w'.r.bM x).2=true:=by
 obtain ⟨v,c,K,hF,hV,hA,hc,hK⟩:=h.ex
 have hst:=hA.ou.st
 refine ⟨⟨v,c,m,K,hV,hA,by omega,hF⟩,hA.ou.M8,by omega,fun w' e=>?_⟩
 obtain ⟨w1,v1,b,c',m',K',e',g1,g2,g3,g4⟩:=K9 200 hF hV hA (by omega)
 rw [e] at e'
 have g3':K'≤K+200:=g3
 simp only [Prod.mk.injEq] at e'
 obtain ⟨rfl,rfl⟩:=e'
 rcases g4 with ⟨q,-⟩ | ⟨-,h0,hF1,-⟩
 ·cases q
 ·refine ⟨by rw [g1.rep.step];exact h0,?_⟩
  cases m' with
  | zero=>exact absurd hF1.1.1 h0
  | succ m' =>
   rcases hF1 with hd | ⟨x,ht,-⟩ | ⟨-,p',x,ha,hF2⟩
   ·exact absurd hd.1.1 h0
   ·rw [ht] at h0
    exact absurd rfl h0
   ·rw [g1.rep.acc h0]
    exact ⟨p',x,ha,Zi g2.ou g1.rep (by omega) h0 (g2.bM ha).2,(g1.bM g2.ou.ok g2.ou.kL h0 x).1⟩
section
variable {Q:Vk→PS→Prop} {T:Int} {w:Wk} {p:PS} {m:Nat}
theorem TE.stay (h:TE T Q w p):w.step p=(w,p,false)∧w.go 200=(w,some false):=by
 obtain ⟨i1,i2,i3,i4⟩:=h.idle
 have:=Nb (n:=199) i1 i2 i3 i4
 refine ⟨?_,this⟩
 unfold Wk.step
 rw [this]
theorem TE.acc (h:TE T Q w p) (hT:T≤700000):IF Q p 200 w∧p.OK∧p.steps≤1000000∧∀w',w.go 200=(w',none)→w'.r.step≠0∧∃p' x,p.act w'.r.acc=(p',some x)∧oZ w'.r x∧(w'.r.bM x).2=true:=by
 obtain ⟨v,K,hd,hq,hV,hA,hK⟩:=h.ex
 have hst:=hA.ou.st
 refine ⟨⟨v,0,0,K,hV,hA,by omega,hd,hq⟩,hA.ou.M8,by omega,fun w' e=>?_⟩
 rw [h.stay.2] at e
 cases e
theorem TJ.idle (h:TJ T Q m w p) (hi:w.idle):TE T Q w p:=by
 obtain ⟨v,c,K,hF,hV,hA,hc,hK⟩:=h.ex
 obtain ⟨i1,i2,i3,i4⟩:=hi
 have hd:v.done:=⟨hV.rep.step.symm.trans i1,hV.j.symm.trans i2,hV.bu.symm.trans i3,by rw [←hV.ops,←hV.said];exact i4⟩
 refine ⟨v,K,hd,?_,hV,hA,by omega⟩
 cases m with
 | zero=>exact hF.2
 | succ m =>
  rcases hF with hF | ⟨x,ht,hm,-⟩ | ⟨h0,-⟩
  ·exact hF.2
  ·unfold Vk.may at hm
   rw [hd.2.1] at hm
   simp only at hm
   rcases hm with hm | ⟨-,hm,-⟩
   ·rw [hd.2.2.1] at hm;cases hm
   ·exact absurd hd.2.2.2 (Nat.not_le.2 hm)
  ·exact absurd hd.1 h0
end
end Go.Proofs.YthomdlajobnmnaaGreatDoor.Cq
namespace Go.Proofs.YthomdlajobnmnaaGreatDoor.Cq
open Go.RowKit Go.Rex
def lU:Op:=⟨5,0,0,0⟩
def xU (val:Int):Op:=⟨4,0,val,0⟩
structure Bq (p:PS) (s g:Int):Prop where
 nb:p.nb=85
 dD:p.dD=true
 Hy:1≤(p.bd 24).num
 head:p.bd 0=⟨s,g,0,0,false⟩
 tail:p.bd 1=⟨s,g,0,0,false⟩
 node:p.pW s g
 link:p.cell (s-1).toNat 2=Wd.zero
 nf:p.nf=0
theorem Bq.ap {p p':PS} {s g:Int} (h:Bq p s g) (ha:Ap p p'):Bq p' s g :=
 ⟨ha.nb.trans h.nb,ha.dD.trans h.dD,ha.Hy h.Hy,(ha.bd 0 (by decide)).trans h.head,(ha.bd 1 (by decide)).trans h.tail,Xz ha h.node,by rw [ha.cell];exact h.link,ha.nf.trans h.nf⟩
section
variable {Q:Vk→PS→Prop} {c n:Nat} {l:Lo} {ops:List Op} {said:List (Int × Int)} {p:PS} {y:Rp} {s g val:Int}
theorem RV (hB:Bq p s g):CR (fun l' x p'=>x=Rp.no∧Bq p' s g∧Lk l l') 2 (RT.begin l (Ca.of 8)).1 (RT.begin l (Ca.of 8)).2 p:=by
 have key:∀{q:PS} (w:Wd),Ap p q→CR (fun l' x p'=>x=Rp.no∧Bq p' s g∧Lk l l') 1 l (.one ⟨4,0,0,0,Wd.zero,w⟩) q:=fun {q} w hq=>by
  have hq1:=hq.trans (Ap.steps q (q.steps+1))
  have hnf:({q with steps:=q.steps+1}:PS).nf=0:=hq1.nf.trans hB.nf
  have e:PS.alloc {q with steps:=q.steps+1} w.num=({q with steps:=q.steps+1},Rp.no):=by
   unfold PS.alloc
   rw [if_pos hnf]
  have ha:=AZ (p:=q) (s:=0) (g:=0) (f:=0) (o:=Wd.zero) (w:=w)
  rw [e] at ha
  exact CR.acc (t:=.one _) (show (1:Int)≠0 by decide) ha (CR.idle ⟨rfl,hB.ap hq1,Lk.refl l⟩)
 have e:RT.begin l (Ca.of 8)=if l.bN then (l,.xB) else (l,.one ⟨4,0,0,0,Wd.zero,Wd.zero⟩):=rfl
 rw [e]
 refine CR.ite (fun _=>?_) fun _=>(key _ (Ap.refl p)).more (by decide)
 exact CR.acc (t:=.xB) (show (8:Int)≠0 by decide) (zV hB.nb) (key _ (Ap.steps p _))
theorem La (ho:l.OK) (hl:said.length<ops.length) (hop:ops.getD said.length ⟨0,0,0,0⟩=lU) (hB:Bq p s g) (hc:10≤c∧c≤100)
  (K:∀l' y p',Bq p' s g→Lk l l'→Fin Q 100 n ⟨l',.idle y,ops,none,false,said ++ [(2,0)]⟩ p'):Fin Q c (n+40) ⟨l,.idle y,ops,none,false,said⟩ p:=by
 refine Fin.more (n:=n+10+1+1+2+5+1+2+5+1+2+1) (c:=2+1) ?_ (by omega) (by omega)
 refine Fin.start hl hop (show lU.dD by decide) ?_
 refine Fin.call (d:=2) (v:=⟨_,_,ops,some (Jb.new lU),true,said⟩) (K3 ho hB.nb) (by decide) fun l1 x1 p1 ⟨a1,a2⟩=>?_
 have ho1:l1.OK:=a2.sm.ok ho
 have hB1:=hB.ap a1
 refine Fin.next (c:=1) (j:=Jb.new lU) (j':={Jb.new lU with at':=1}) (ca:=HZ 0) rfl (show (6:Int)≠12 by decide) (K4 (k:=6) (by decide)) ?_
 refine Fin.call (d:=5) (v:=⟨_,_,ops,some {Jb.new lU with at':=1},true,said⟩) (K8 ho1 hB1.nb hB1.Hy (HZ 0) rfl (by decide) ⟨s,g,0,0,false⟩ fun q hq=>?_) (by decide) ?_
 ·have:=A8 (p:=q) ((hB1.ap hq).nb) (f:=0) (by decide)
  rw [show q.bd (0:Int).toNat=_ from (hB1.ap hq).head] at this
  exact this
 rintro l2 x2 p2 ⟨⟨b1,b2⟩,rfl⟩
 have hB2:=hB1.ap b1
 have ho2:l2.OK:=b2.sm.ok ho1
 have e3:=A8 (p:=p2) hB2.nb (f:=1) (by decide)
 rw [show p2.bd (1:Int).toNat=_ from hB2.tail] at e3
 refine Fin.Nc (c:=0) (j':={Jb.new lU with at':=2,h:=⟨s,g,0,0,false⟩}) (ca:=RH 1) rfl (show (3:Int)≠12 by decide) (K4 (k:=3) (by decide)) rfl e3 ?_
 have hB3:=hB2.ap (Ap.steps p2 (p2.steps+1))
 generalize ({p2 with steps:=p2.steps+1}:PS)=p3 at hB3
 refine Fin.more (c:=149+1) ?_ (Nat.le_refl _) (by decide)
 refine Fin.next (j':={Jb.new lU with at':=3,h:=⟨s,g,0,0,false⟩,t:=⟨s,g,0,0,false⟩}) (ca:=Zk ⟨s,g,0,0,false⟩ 2 1) rfl (show (6:Int)≠12 by decide) ⟨(by decide:(1:Int)≤6),(by decide:(6:Int)≤11),(by decide:(0:Int)≤1),(by decide:(1:Int)<9),(by decide:(0:Int)≤0),(by decide:(0:Int)<9)⟩ ?_
 refine Fin.call (d:=5) (v:=⟨_,_,ops,some {Jb.new lU with at':=3,h:=⟨s,g,0,0,false⟩,t:=⟨s,g,0,0,false⟩},true,said⟩) (K8 ho2 hB3.nb hB3.Hy (Zk ⟨s,g,0,0,false⟩ 2 1) rfl (show (0:Int)≤1∧(1:Int)<9 by decide) Wd.zero fun q hq=>?_) (by decide) ?_
 ·have:=RF (hB3.ap hq).node (f:=2) (by decide)
  rw [show q.cell (s-1).toNat (2:Int).toNat=_ from (hB3.ap hq).link] at this
  exact this
 rintro l4 x4 p4 ⟨⟨d1,d2⟩,rfl⟩
 have hB4:=hB3.ap d1
 have ho4:l4.OK:=d2.sm.ok ho2
 have e5:=A8 (p:=p4) hB4.nb (f:=0) (by decide)
 rw [show p4.bd (0:Int).toNat=_ from hB4.head] at e5
 refine Fin.Nc (c:=148) (j':={Jb.new lU with at':=4,h:=⟨s,g,0,0,false⟩,t:=⟨s,g,0,0,false⟩,n:=Wd.zero}) (ca:=RH 0) rfl (show (3:Int)≠12 by decide) (K4 (k:=3) (by decide)) rfl e5 ?_
 have Zn:=hB4.ap (Ap.steps p4 (p4.steps+1))
 generalize ({p4 with steps:=p4.steps+1}:PS)=p5 at Zn
 refine Fin.more (c:=100+1+1) (n:=n+10+1+1) ?_ (by omega) (by decide)
 have n6:({Jb.new lU with at':=4,h:=⟨s,g,0,0,false⟩,t:=⟨s,g,0,0,false⟩,n:=Wd.zero}:Jb).next ⟨⟨s,g,0,0,false⟩,true⟩=({Jb.new lU with at':=-1,h:=⟨s,g,0,0,false⟩,t:=⟨s,g,0,0,false⟩,n:=Wd.zero,last:={Ca.of 12 with code:=2,val:=0}},{Ca.of 12 with code:=2,val:=0}):=by
  show (if ¬je (⟨s,g,0,0,false⟩:Wd) ⟨s,g,0,0,false⟩ then _ else _)=_
  rw [if_neg fun h=>h ⟨rfl,rfl,rfl,rfl⟩]
  rfl
 refine Fin.answer n6 hl ?_
 refine Fin.leave ?_
 refine Fin.call (d:=10) (v:=⟨_,_,ops,none,false,said ++ [(2,0)]⟩) (Db 9 ho4 Zn.nb 0 rfl) (by decide) fun l6 x6 p7 ⟨q1,q2⟩=>?_
 exact K l6 x6 p7 (Zn.ap q1) (a2.trans (b2.trans (d2.trans q2)))
theorem UT (ho:l.OK) (hl:said.length<ops.length) (hop:ops.getD said.length ⟨0,0,0,0⟩=xU val) (hv:0≤val∧val≤1000) (hB:Bq p s g) (hc:20≤c∧c≤100)
  (K:∀l' y p',Bq p' s g→Lk l l'→Fin Q 10 n ⟨l',.idle y,ops,none,false,said ++ [(4,0)]⟩ p'):Fin Q c (n+40) ⟨l,.idle y,ops,none,false,said⟩ p:=by
 refine Fin.more (n:=n+10+1+1+2+1+2+1) (c:=13+1) ?_ (by omega) (by omega)
 refine Fin.start hl hop ⟨rfl,rfl,hv.1,by show val≤1073741824;omega⟩ ?_
 refine Fin.call (d:=2) (v:=⟨_,_,ops,some (Jb.new (xU val)),true,said⟩) (K3 ho hB.nb) (by decide) fun l1 x1 p1 ⟨a1,a2⟩=>?_
 have ho1:l1.OK:=a2.sm.ok ho
 have hB1:=hB.ap a1
 refine Fin.next (c:=12) (j:=Jb.new (xU val)) (j':={Jb.new (xU val) with at':=1}) (ca:=Ca.of 8) rfl (by decide) (Dc (by decide)) ?_
 refine Fin.call (d:=2) (v:=⟨_,_,ops,some {Jb.new (xU val) with at':=1},true,said⟩) (RV hB1) (by decide) ?_
 rintro l2 x2 p2 ⟨rfl,hB2,b2⟩
 have ho2:l2.OK:=b2.sm.ok ho1
 refine Fin.answer (c:=11) (j':={Jb.new (xU val) with at':=-1,last:={Ca.of 12 with code:=4,val:=0}}) (co:=4) (va:=0) rfl hl ?_
 refine Fin.leave ?_
 refine Fin.call (d:=10) (v:=⟨_,_,ops,none,false,said ++ [(4,0)]⟩) (Db 9 ho2 hB2.nb 0 rfl) (by decide) fun l4 x4 p7 ⟨q1,q2⟩=>?_
 exact K l4 x4 p7 (hB2.ap q1) (a2.trans (b2.trans q2))
end
def xV:List Op:=[lU,xU 3,lU]
def QL (v:Vk) (p:PS):Prop:=v.said=[(2,0),(4,0),(2,0)]
def V9 (E N:Int):Lo:=⟨E,0,1,N,fun _=>Wd.zero,Sp.zero,[],0⟩
theorem XF (E N:Int):ik (V9 E N) (.idle ⟨Wd.zero,false⟩) (RS.new E 0 1 N):=⟨rfl,rfl,rfl,rfl,rfl,rfl,rfl,rfl,rfl,fun h=>absurd rfl h,rfl⟩
theorem EU {E N:Int} (hE:1≤E∧E≤5) (hN:1≤N):(V9 E N).OK:=⟨hE,by show (0:Int)≤0∧(0:Int)<1;decide,by show (1:Int)≤1∧(1:Int)≤6;decide,hN⟩
theorem Zo {E N K:Int} {p:PS} {ops:List Op} (hE:1≤E∧E≤5) (hN:1≤N) (hp:p.OK) (hw:p.wb K) (hs:p.steps≤K) (hK:0≤K) (ho:ops.length≤100∧∀o∈ops,0≤o.val∧o.val≤3000) :
  AV K ⟨V9 E N,.idle ⟨Wd.zero,false⟩,ops,none,false,[]⟩ p:=by
 refine ⟨⟨EU hE hN,trivial,hp,⟨fun _=>Wb.zero hK,?_,?_⟩,Wb.zero hK,hw,?_,?_,hs,hK⟩,fun j hj=>(by cases hj),ho⟩
 ·show -(2000 * K+3000)≤0∧0≤2000 * K+3000
  omega
 ·show -(2000 * K+3000)≤0∧0≤2000 * K+3000
  omega
 ·show (0:Int)≤0∧0≤K
  omega
 ·show ((0:Nat):Int)≤K
  omega
theorem Zp (E N:Int) (ops:List Op):VW ⟨V9 E N,.idle ⟨Wd.zero,false⟩,ops,none,false,[]⟩ (Wk.new E 0 1 N ops):=⟨XF E N,rfl,rfl,rfl,rfl⟩
theorem aac {E N K s g:Int} {p:PS} (hE:1≤E∧E≤5) (hN:1≤N) (hp:p.OK) (hw:p.wb K) (hs:p.steps≤K) (hK:0≤K∧K≤1000) (hB:Bq p s g):TJ 100000 QL 120 (Wk.new E 0 1 N xV) p:=by
 refine ⟨_,100,K,?_,Zp E N _,Zo hE hN hp hw hs hK.1 ⟨by decide,fun o ho=>?_⟩,by decide,by omega⟩
 ·refine (La (n:=0+40+40) (ops:=xV) (said:=[]) (EU hE hN) (by decide) rfl hB (by decide) fun l1 y1 p1 h1 k1=>?_:Fin QL 100 (0+40+40+40) _ _)
  refine UT (n:=0+40) (ops:=xV) (said:=[(2,0)]) (c:=100) (val:=3) (k1.sm.ok (EU hE hN)) (by decide) rfl (by decide) h1 (by decide) fun l2 y2 p2 h2 k2=>?_
  refine La (n:=0) (ops:=xV) (said:=[(2,0),(4,0)]) (c:=10) (k2.sm.ok (k1.sm.ok (EU hE hN))) (by decide) rfl h2 (by decide) fun l3 y3 p3 h3 k3=>?_
  exact Fin.end ⟨rfl,rfl,rfl,Nat.le_refl 3⟩ rfl
 ·simp only [xV,List.mem_cons,List.not_mem_nil,or_false] at ho
  rcases ho with rfl | rfl | rfl <;> exact ⟨by decide,by decide⟩
structure Laid (m:Int) (p:PS):Prop where
 nb:p.nb=85
 ns:p.ns=m
 nf:p.nf=m-1
 dD:p.dD=true
 steps:p.steps=4
 gen:∀i,p.gen i=if i=0 then 1 else 0
 used:∀i,p.used i=if i=0 then true else false
 cell:∀i k,p.cell i k=Wd.zero
 fr:∀i:Nat,(i:Int)<m→p.fr i=m-i
 bd:∀i,p.bd i=if i=1 then ⟨1,1,0,0,false⟩ else if i=0 then ⟨1,1,0,0,false⟩ else if i=24 then ⟨0,0,0,1,false⟩ else Wd.zero
 ok:p.OK
theorem We (k:Nat):gQ 0 k=Wd.zero:=by
 unfold gQ
 split <;> rfl
theorem UU {p0:PS} {m:Int} (h:xL p0 85 m) (hm:0<m∧m≤1024):∃p1 p2 p3 p,(p0.act EP=(p1,some ⟨Wd.zero,true⟩)∧p1.act ⟨4,0,0,0,Wd.zero,Wd.zero⟩=(p2,some ⟨⟨1,1,0,0,false⟩,true⟩)∧p2.act (Ac.store 0 0 0 ⟨1,1,0,0,false⟩)=(p3,some ⟨Wd.zero,true⟩)∧p3.act (Ac.store 0 0 1 ⟨1,1,0,0,false⟩)=(p,some ⟨Wd.zero,true⟩))∧(p1.OK∧p2.OK∧p3.OK)∧(p1.steps=1∧p2.steps=2∧p3.steps=3)∧Laid m p:=by
 obtain ⟨p1,hp1,e1⟩:=Rt h
 have hok0:=h.ok ⟨by omega,hm.2⟩ ⟨by decide,by decide⟩
 have hfr:p1.fr (p1.nf-1).toNat=1:=by
  rw [e1]
  show p0.fr (p0.nf-1).toNat=1
  rw [h.nf,h.fr _ (by omega)]
  omega
 have hnf:¬({p1 with steps:=p1.steps+1}:PS).nf=0:=by
  rw [e1]
  show ¬p0.nf=0
  rw [h.nf]
  omega
 have hg:p1.gen (1-1:Int).toNat=0:=by rw [e1];exact h.gen _
 have ea:PS.alloc {p1 with steps:=p1.steps+1} 0=({p1 with steps:=p1.steps+1,nf:=p1.nf-1,made:=p1.made+1,gen:=fun i=>if i=(1-1:Int).toNat then 0+1 else p1.gen i,used:=fun i=>if i=(1-1:Int).toNat then true else p1.used i,cell:=fun i k=>if i=(1-1:Int).toNat∧k<10 then gQ 0 k else p1.cell i k},⟨⟨1,0+1,0,0,false⟩,true⟩):=by
  unfold PS.alloc
  rw [if_neg hnf]
  simp only [hfr,hg]
 have h2:=AZ (p:=p1) (s:=0) (g:=0) (f:=0) (o:=Wd.zero) (w:=Wd.zero)
 rw [show Wd.zero.num=0 from rfl,ea] at h2
 generalize hp2:({p1 with steps:=p1.steps+1,nf:=p1.nf-1,made:=p1.made+1,gen:=fun i=>if i=(1-1:Int).toNat then 0+1 else p1.gen i,used:=fun i=>if i=(1-1:Int).toNat then true else p1.used i,cell:=fun i k=>if i=(1-1:Int).toNat∧k<10 then gQ 0 k else p1.cell i k}:PS)=p2 at h2
 have hnb:p2.nb=85:=by rw [←hp2,e1];exact h.nb
 have h3:=oo (p:=p2) (s:=0) (g:=0) (f:=0) (o:=Wd.zero) (w:=⟨1,1,0,0,false⟩) (Gg hnb (by decide)) (.inl rfl)
 have h4:=oo (p:=PS.put {p2 with steps:=p2.steps+1} 0 0 ⟨1,1,0,0,false⟩) (s:=0) (g:=0) (f:=1) (o:=Wd.zero) (w:=⟨1,1,0,0,false⟩) (Gg (show _=(85:Int) from hnb) (by decide)) (.inl rfl)
 have o1:p1.OK:=by have:=hok0.act EP;rw [hp1] at this;exact this
 have o2:p2.OK:=by have:=o1.act ⟨4,0,0,0,Wd.zero,Wd.zero⟩;rw [h2] at this;exact this
 have o3:=o2.act (Ac.store 0 0 0 ⟨1,1,0,0,false⟩)
 rw [show p2.act (Ac.store 0 0 0 ⟨1,1,0,0,false⟩)=_ from h3] at o3
 have o4:=PS.OK.act o3 (Ac.store 0 0 1 ⟨1,1,0,0,false⟩)
 rw [show PS.act _ (Ac.store 0 0 1 ⟨1,1,0,0,false⟩)=_ from h4] at o4
 have s1:p1.steps=1:=by rw [e1];show p0.steps+1=1;rw [h.steps];rfl
 have s2:p2.steps=2:=by rw [←hp2];show p1.steps+1=2;rw [s1];rfl
 have s3:(PS.put {p2 with steps:=p2.steps+1} 0 0 ⟨1,1,0,0,false⟩).steps=3:=by show p2.steps+1=3;rw [s2];rfl
 refine ⟨p1,p2,_,_,⟨hp1,h2,h3,h4⟩,⟨o1,o2,o3⟩,⟨s1,s2,s3⟩,⟨hnb,?_,?_,?_,?_,fun i=>?_,fun i=>?_,fun i k=>?_,fun i hi=>?_,fun i=>?_,o4⟩⟩
 ·show p2.ns=m
  rw [←hp2,e1];exact h.ns
 ·show p2.nf=m-1
  rw [←hp2,e1]
  show p0.nf-1=m-1
  rw [h.nf]
 ·show p2.dD=true
  rw [←hp2,e1];exact h.dD
 ·show (PS.put {p2 with steps:=p2.steps+1} 0 0 ⟨1,1,0,0,false⟩).steps+1=4
  rw [s3];rfl
 ·show p2.gen i=_
  rw [←hp2,e1]
  show (if i=0 then (0:Int)+1 else p0.gen i)=_
  rw [h.gen i]
  rfl
 ·show p2.used i=_
  rw [←hp2,e1]
  show (if i=0 then true else p0.used i)=_
  rw [h.used i]
 ·show p2.cell i k=_
  rw [←hp2,e1]
  show (if i=0∧k<10 then gQ 0 k else p0.cell i k)=_
  rw [h.cell i k,We]
  split <;> rfl
 ·show p2.fr i=_
  rw [←hp2,e1]
  exact h.fr i hi
 ·show (if i=1 then (⟨1,1,0,0,false⟩:Wd) else if i=0 then ⟨1,1,0,0,false⟩ else p2.bd i)=_
  rw [←hp2,e1]
  show (if i=1 then (⟨1,1,0,0,false⟩:Wd) else if i=0 then ⟨1,1,0,0,false⟩ else if i=24 then ⟨0,0,0,1,false⟩ else p0.bd i)=_
  rw [h.bd i]
theorem Laid.wb {m:Int} {p:PS} (h:Laid m p):p.wb 10:=by
 have hz:Wb 10 Wd.zero:=Wb.zero (by decide)
 have h1:Wb 10 (⟨1,1,0,0,false⟩:Wd):=⟨by decide,by decide,by decide,by decide⟩
 refine ⟨fun i=>?_,fun i j=>by rw [h.cell];exact hz⟩
 rw [h.bd i]
 split
 ·exact h1
 split
 ·exact h1
 split
 ·exact ⟨by decide,by decide,by decide,by decide⟩
 ·exact hz
theorem Laid.bq {p:PS} (h:Laid 1 p):Bq p 1 1 :=
 ⟨h.nb,h.dD,by rw [h.bd];decide,by rw [h.bd];rfl,by rw [h.bd];rfl,⟨⟨by decide,by rw [h.ns];decide⟩,by rw [h.used];rfl,by rw [h.gen];rfl⟩,h.cell _ _,by rw [h.nf];rfl⟩
def SL (k m:Nat) (p:PS) (W:Nat→Wk):Prop:=(k=0∧(TJ 100000 QL m (W 0) p∨TE 100000 QL (W 0) p))∨(k=1∧TE 100000 QL (W 0) p)
theorem SL.end {m:Nat} {p:PS} {W:Nat→Wk} (h:SL 1 m p W):(W 0).said=[(2,0),(4,0),(2,0)]:=by
 rcases h with ⟨h,-⟩ | ⟨-,h⟩
 ·cases h
 ·obtain ⟨v,K,-,hq,hV,-⟩:=h.ex
  exact hV.said.trans hq
theorem SL.new {E N:Int} {p:PS} {W:Nat→Wk} (hE:1≤E∧E≤5) (hN:1≤N) (h:Laid 1 p) (hW:W 0=Wk.new E 0 1 N xV):SL 0 120 p W :=
 .inl ⟨rfl,.inl (by rw [hW];exact aac (K:=10) hE hN h.ok h.wb (by rw [h.steps];decide) ⟨by decide,by decide⟩ h.bq)⟩
end Go.Proofs.YthomdlajobnmnaaGreatDoor.Cq
namespace Go.Proofs.YthomdlajobnmnaaGreatDoor.Cq
open Go.RowKit Go.Rex
theorem Lb (d:Wd) (w:World):Calls Tryz.prog 46 #[.agg #[.int .i64 d.slot,.int .i64 d.gen,.int .i64 d.tag,.int .i64 d.num,.bool d.mark]] w fun ev w'=>ev=.returned (.agg #[.int .i64 d.slot,.int .i64 d.gen,.int .i64 0,.int .i64 0,.bool false])∧Nw w w':=by
 go_enter Tryz.func46,Tryz.ntmps46
 go_wp2
 simp [bodyPost,results,Tryz.results46,go_sem]
 exact ((bC.refl w _).alloc _).alloc _
theorem XG (p:Int) (T:TypeId) (x:Value) (w:World):Calls Tryz.prog 45 #[.int .i64 p,.iface T x] w fun e w'=>(∃a,e=.returned (.iface 161 (.pointer (some a))))∧Nw w w':=by
 go_enter Tryz.func45,Tryz.ntmps45
 go_wp2
 go_ret
 exact ⟨⟨_,rfl⟩,(bC.refl w _).alloc _⟩
theorem UW {w:World} {aP:Addr} {p p':PS} {B:Nat→Prop} {cZ:Nat→Addr} {y:Addr} (hs:jA w cZ) (hp:fu w aP p B) (hz:∀k,k<8→¬B (cZ k).block) (hok:p.OK) (hst:p.steps≤1000000) (hx:p.act ⟨4,0,0,0,Wd.zero,Wd.zero⟩=(p',some Rp.no))
  (hE:w.cell? ⟨3,0,none⟩=some (.iface 224 (.pointer (some y)))) (hB:¬B 3) :
  Calls Tryz.prog 18 #[.pointer (some aP)] w fun e w'=>(∃a,e=.returned (.iface 161 (.pointer (some a))))∧∃B',fu w' aP p' B'∧(∀b,B' b→w.heap.size≤b∨B b)∧bC w B w':=by
 have hd:=EI hs hp hz hok hst hx
 rw [show mX ⟨4,0,0,0,Wd.zero,Wd.zero⟩=.agg #[.int .i64 4,.int .i64 0,.int .i64 0,.int .i64 0,.int .i64 0,.int .i64 0,.int .i64 0,.int .i64 0,.bool false,.int .i64 0,.int .i64 0,.int .i64 0,.int .i64 0,.bool false] from rfl] at hd
 rw [show iM Rp.no=.agg #[.int .i64 0,.int .i64 0,.int .i64 0,.int .i64 0,.bool false,.bool false] from rfl] at hd
 have ha:=XG
 have A0:Aside (w.cell? ⟨3,0,none⟩=some (.iface 224 (.pointer (some y)))∧¬B 3):=⟨hE,hB⟩
 clear hs hp hz hE hB
 go_enter Tryz.func18,Tryz.ntmps18
 go_wp2_with (first
   | (go_at_call 32;(with_reducible refine hd.mono ?_);intro ev w2 hp2;obtain ⟨rfl,B',lD,hB',hw2⟩:=hp2;have hE1:w2.cell? ⟨3,0,none⟩=some (.iface 224 (.pointer (some y))):=((mr (hw2.block _ (World.block_lt_of_cell? _ _ A0.out.1) A0.out.2) 0).trans A0.out.1);have hE2:∀o,(w2.alloc o).cell? ⟨3,0,none⟩=some (.iface 224 (.pointer (some y))):=(fun o=>Nw.fw (w:=w2) (w':=w2.alloc o) ((bC.refl _ _).alloc o) hE1);have A1:Aside (fu w2 aP p' B'∧(∀b,B' b→w.heap.size≤b∨B b)∧bC w B w2):=⟨lD,hB',hw2⟩;clear lD hB' hw2 hd)
   | (go_at_call 45;(with_reducible refine (ha _ _ _ _).mono ?_);intro ev w3 hp3;obtain ⟨⟨a,rfl⟩,hw3⟩:=hp3))
 go_ret
 obtain ⟨q1,q2,q3⟩:=A1.out
 have n4:Nw w2 w3:=Nw.trans ((bC.refl w2 _).alloc _) hw3
 exact ⟨⟨a,rfl⟩,fun b=>B' b∧b<w2.heap.size,(q1.mono (B':=fun b=>B' b∧b<w2.heap.size) fun b x y=>⟨x,y⟩).frame fun b hb=>n4.block b hb.2 id,fun b hb=>q2 b hb.1,il q3 n4 fun x hx _=>absurd hx id⟩
structure tC (w wr:World) (aP:Addr) (p:PS) (B:Nat→Prop) (bx:Nat):Prop where
 ex:∃B1,fu wr aP p B1∧(∀b,B1 b→(w.heap.size≤b∨B b)∧b≠bx∧b<wr.heap.size)
 zS:bC w B wr
def kQ (bx:Nat) (wx:World):Prop:=wx.cell? ⟨bx,0,none⟩=some (.int .i64 1)∧wx.cell? ⟨bx,1,none⟩=some (.int .i64 1)∧wx.cell? ⟨bx,2,none⟩=some (.int .i64 0)∧wx.cell? ⟨bx,3,none⟩=some (.int .i64 0)∧wx.cell? ⟨bx,4,none⟩=some (.bool false)
abbrev Zq:Obj:=.cells #[.int .i64 0,.int .i64 0,.int .i64 0,.int .i64 0,.bool false,.bool false] 86
structure Lc (wr:World) (bx:Nat) (wx:World):Prop where
 nw:Nw wr wx
 c:kQ bx wx
structure Wh (wr:World) (bx a:Nat) (wx:World):Prop where
 nw:Nw wr wx
 c:kQ bx wx
 ge:wr.heap.size≤a
 z:wx.heap[a]?=some Zq
theorem kQ.nw {bx:Nat} {a b:World} (h:kQ bx a) (hn:Nw a b):kQ bx b:=⟨hn.fw h.1,hn.fw h.2.1,hn.fw h.2.2.1,hn.fw h.2.2.2.1,hn.fw h.2.2.2.2⟩
theorem kQ.aC {bx:Nat} {a b:World} (h:kQ bx a) (hn:b.heap[bx]?=a.heap[bx]?):kQ bx b:=⟨(mr hn 0).trans h.1,(mr hn 1).trans h.2.1,(mr hn 2).trans h.2.2.1,(mr hn 3).trans h.2.2.2.1,(mr hn 4).trans h.2.2.2.2⟩
theorem kQ.al {bx:Nat} {a:World} (h:kQ bx a) (o:Obj):kQ bx (a.alloc o):=h.nw ((bC.refl _ _).alloc o)
theorem Lc.n {wr:World} {bx:Nat} {x y:World} (h:Lc wr bx x) (hn:Nw x y):Lc wr bx y:=⟨h.nw.trans hn,h.c.nw hn⟩
theorem Lc.q {wr:World} {bx:Nat} {x:World} (h:Lc wr bx x):Wh wr bx x.heap.size (x.alloc Zq):=⟨h.nw.trans ((bC.refl _ _).alloc _),h.c.al _,h.nw.size,mD _ _⟩
theorem gU {a:Nat} {x:World} {o:Obj} (h:x.heap[a]?=some o):a<x.heap.size:=by
 rcases Nat.lt_or_ge a x.heap.size with h' | h'
 ·exact h'
 ·rw [Array.getElem?_eq_none h'] at h
  cases h
theorem Wh.n {wr:World} {bx a:Nat} {x y:World} (h:Wh wr bx a x) (hn:Nw x y):Wh wr bx a y :=
 ⟨h.nw.trans hn,h.c.nw hn,h.ge,by
   rw [hn.block a ?_ id]
   · exact h.z
   · rcases Nat.lt_or_ge a x.heap.size with h' | h'
     · exact h'
     · have:=h.z
       rw [Array.getElem?_eq_none h'] at this
       cases this⟩
set_option maxHeartbeats 3000000 in
set_option maxRecDepth 100000 in
theorem RX {w:World} {aP:Addr} {p1 p2 p3 p:PS} {B:Nat→Prop} {cZ:Nat→Addr} (hs:jA w cZ) (hp:fu w aP p1 B) (hz:∀k,k<8→¬B (cZ k).block) (hz':∀k,k<8→(cZ k).block<w.heap.size) (ho:p1.OK∧p2.OK∧p3.OK) (hst:p1.steps≤1000000∧p2.steps≤1000000∧p3.steps≤1000000)
  (h2:p1.act ⟨4,0,0,0,Wd.zero,Wd.zero⟩=(p2,some ⟨⟨1,1,0,0,false⟩,true⟩)) (h3:p2.act (Ac.store 0 0 0 ⟨1,1,0,0,false⟩)=(p3,some ⟨Wd.zero,true⟩)) (h4:p3.act (Ac.store 0 0 1 ⟨1,1,0,0,false⟩)=(p,some ⟨Wd.zero,true⟩)) :
  Calls Tryz.prog 18 #[.pointer (some aP)] w fun e w'=>e=.returned .nilIface∧∃B',fu w' aP p B'∧(∀b,B' b→w.heap.size≤b∨B b)∧bC w B w':=by
 have hd:=EI hs hp hz ho.1 hst.1 h2
 rw [show mX ⟨4,0,0,0,Wd.zero,Wd.zero⟩=.agg #[.int .i64 4,.int .i64 0,.int .i64 0,.int .i64 0,.int .i64 0,.int .i64 0,.int .i64 0,.int .i64 0,.bool false,.int .i64 0,.int .i64 0,.int .i64 0,.int .i64 0,.bool false] from rfl] at hd
 rw [show iM ⟨⟨1,1,0,0,false⟩,true⟩=.agg #[.int .i64 1,.int .i64 1,.int .i64 0,.int .i64 0,.bool false,.bool true] from rfl] at hd
 have Ld:=fun w=>ry w 0 (by decide)
 have Le:=fun w=>ry w 1 (by decide)
 have Ph:=Lb ⟨1,1,0,0,false⟩
 have i0:∀w,(Instr.index 22 (.agg #[.int .i64 0,.int .i64 1]) (.int .i64 0)).run Tryz.prog w=.ok (.int .i64 0) w:=fun _=>by kernel_rfl
 have i1:∀w,(Instr.index 22 (.agg #[.int .i64 0,.int .i64 1]) (.int .i64 1)).run Tryz.prog w=.ok (.int .i64 1) w:=fun _=>by kernel_rfl
 have Pj:∀(wr:World) (bx:Nat) (q q':PS) (f:Int),tC w wr aP q B bx→q.OK→q.steps≤1000000→q.act (Ac.store 0 0 f ⟨1,1,0,0,false⟩)=(q',some ⟨Wd.zero,true⟩)→∀wx,Nw wr wx→kQ bx wx→bx<wr.heap.size →
   Calls Tryz.prog 32 #[.pointer (some aP),.agg #[.int .i64 2,.int .i64 0,.int .i64 0,.int .i64 f,.int .i64 0,.int .i64 0,.int .i64 0,.int .i64 0,.bool false,.int .i64 1,.int .i64 1,.int .i64 0,.int .i64 0,.bool false]] wx fun e w'=>e=.returned (.tuple #[.agg #[.int .i64 0,.int .i64 0,.int .i64 0,.int .i64 0,.bool false,.bool true],.nilIface])∧kQ bx w'∧(∀y,wr.heap.size≤y→y<wx.heap.size→w'.heap[y]?=wx.heap[y]?)∧Aside (∀w5,bC w' (fun y=>wr.heap.size≤y∧y<wx.heap.size) w5→tC w w5 aP q' B bx):=by
  intro wr bx q q' f hL hok hq ha wx hn hc hbx
  obtain ⟨⟨B1,g1,g2⟩,g3⟩:=hL
  have hP:=(g1.mono (B':=fun b=>B1 b∧b<wr.heap.size) fun b x y=>⟨x,y⟩).frame (w':=wx) fun b hb=>hn.block b hb.2 id
  have hW:bC w B wx:=il g3 hn fun x hx _=>absurd hx id
  have hsx:jA wx cZ:=hs.frame hW.size fun k hk=>hW.block _ (hz' k hk) (hz k hk)
  refine (EI hsx hP (fun k hk hb=>?_) hok hq ha).mono ?_
  ·rcases (g2 _ hb.1).1 with h | h
   ·exact absurd (hz' k hk) (Nat.not_lt.2 h)
   ·exact hz k hk h
  ·rintro e w' ⟨rfl,B',x1,x2,x3⟩
   have hbw:bx<wx.heap.size:=Nat.lt_of_lt_of_le hbx hn.size
   have Zr:∀b,B' b→(w.heap.size≤b∨B b)∧b≠bx∧(wx.heap.size≤b∨b<wr.heap.size):=fun b hb=>by
    rcases x2 b hb with h | h
    ·exact ⟨.inl (Nat.le_trans hW.size h),by omega,.inl h⟩
    ·exact ⟨(g2 b h.1).1,(g2 b h.1).2.1,.inr h.2⟩
   refine ⟨rfl,hc.aC (x3.block bx hbw fun h=>(g2 bx h.1).2.1 rfl),fun y h1 h2=>x3.block y h2 fun h=>by omega,fun w5 h5=>⟨⟨fun b=>B' b∧b<w'.heap.size,(x1.mono fun b x y=>⟨x,y⟩).frame fun b hb=>h5.block b hb.2 fun h=>?_,fun b hb=>?_⟩,?_⟩⟩
   ·have:=(Zr b hb.1).2.2
    omega
   ·exact ⟨(Zr b hb.1).1,(Zr b hb.1).2.1,Nat.lt_of_lt_of_le hb.2 h5.size⟩
   ·exact il (il hW x3 fun x hx _=>(g2 x hx.1).1.symm) h5 fun x hx _=>.inr (by have:=g3.size;omega)
 have A0:Aside ((p1.OK∧p2.OK∧p3.OK)∧(p1.steps≤1000000∧p2.steps≤1000000∧p3.steps≤1000000)∧p2.act (Ac.store 0 0 0 ⟨1,1,0,0,false⟩)=(p3,some ⟨Wd.zero,true⟩)∧p3.act (Ac.store 0 0 1 ⟨1,1,0,0,false⟩)=(p,some ⟨Wd.zero,true⟩)):=⟨ho,hst,h3,h4⟩
 clear hs hp hz hz' ho hst h2 h3 h4
 go_enter Tryz.func18,Tryz.ntmps18
 go_wp2_with (first
   | (go_at_call 32;(with_reducible refine hd.mono ?_);intro ev w2 hp2;obtain ⟨rfl,B',lD,hB',hw2⟩:=hp2;have A1:Aside (fu w2 aP p2 B'∧(∀b,B' b→w.heap.size≤b∨B b)∧bC w B w2):=⟨lD,hB',hw2⟩;clear lD hB' hw2 hd))
 go_loopg [27] 2 (fun k i wr=>((i=.int .i64 0∧k=2∧Aside (tC w wr aP p2 B w2.heap.size))∨(i=.int .i64 1∧k=1∧Aside (tC w wr aP p3 B w2.heap.size))∨(i=.int .i64 2∧k=0∧Aside (tC w wr aP p B w2.heap.size)))∧(wr.cell? ⟨w2.heap.size,0,none⟩=some (.int .i64 1)∧wr.cell? ⟨w2.heap.size,1,none⟩=some (.int .i64 1)∧wr.cell? ⟨w2.heap.size,2,none⟩=some (.int .i64 0)∧wr.cell? ⟨w2.heap.size,3,none⟩=some (.int .i64 0)∧wr.cell? ⟨w2.heap.size,4,none⟩=some (.bool false)))
 case atStart =>
  obtain ⟨q1,q2,q3⟩:=A1.out
  have n4:∀o,Nw w2 (w2.alloc o):=fun o=>(bC.refl w2 _).alloc o
  refine ⟨.inl ⟨rfl,rfl,⟨⟨fun b=>B' b∧b<w2.heap.size,(q1.mono (B':=fun b=>B' b∧b<w2.heap.size) fun b x y=>⟨x,y⟩).frame fun b hb=>(n4 _).block b hb.2 id,fun b hb=>⟨q2 b hb.1,Nat.ne_of_lt hb.2,Nat.lt_of_lt_of_le hb.2 (n4 _).size⟩⟩,il q3 (n4 _) fun x hx _=>absurd hx id⟩⟩,by simp,by simp,by simp,by simp,by simp⟩
 case round =>
  rename World=>wr
  obtain ⟨⟨rfl,rfl,hL⟩ | ⟨rfl,rfl,hL⟩ | ⟨rfl,rfl,hL⟩,c0,c1,c2,c3,c4⟩:=hrel
  ·have hdo:=Pj wr w2.heap.size p2 p3 0 hL.out A0.out.1.2.1 A0.out.2.1.2.1 A0.out.2.2.1
   have hbx:w2.heap.size<wr.heap.size:=World.block_lt_of_cell? _ _ c0
   have vV:Lc wr w2.heap.size wr.drew:=⟨Nw.drew (bC.refl _ _),⟨c0,c1,c2,c3,c4⟩⟩
   have hroot:=Ld
   clear Ld Le Pj
   clear c0 c1 c2 c3 c4 hL
   go_wp2_with fail
   go_region_held3 (fun wx=>wx.cell? ⟨w2.heap.size,0,none⟩=some (.int .i64 1)∧wx.cell? ⟨w2.heap.size,1,none⟩=some (.int .i64 1)∧wx.cell? ⟨w2.heap.size,2,none⟩=some (.int .i64 0)∧wx.cell? ⟨w2.heap.size,3,none⟩=some (.int .i64 0)∧wx.cell? ⟨w2.heap.size,4,none⟩=some (.bool false))
    (first | exact vV.c | exact jT.c | exact jU.c | exact mE.c | exact mF.c | exact vV.q.c | exact jT.q.c | exact jU.q.c | exact jV | exact jV.al _ | exact hS5)
    (first
      | (go_at_call 49;(with_reducible refine (hroot _).mono ?_);rintro ev w7 ⟨rfl,hw7⟩;first | have jT:=vV.n hw7 | have jT:=jU.n hw7 | have mE:=vV.q.n hw7 | have mE:=jU.q.n hw7 | have mE:=mF.n hw7)
      | (go_at_call 46;(with_reducible refine (Ph _).mono ?_);rintro ev w8 ⟨rfl,hw8⟩;first | have jU:=vV.n hw8 | have jU:=jT.n hw8 | have mF:=vV.q.n hw8 | have mF:=jT.q.n hw8 | have mF:=mE.n hw8)
      | (go_at_call 32;(first | (with_reducible refine (hdo _ jU.nw jU.c hbx).mono ?_) | (with_reducible refine (hdo _ jT.nw jT.c hbx).mono ?_));rintro ev w9 ⟨rfl,jV,-,o7⟩;have jV:kQ w2.heap.size w9:=jV)
      | (go_at_call 32;(first | (with_reducible refine (hdo _ jU.q.nw jU.q.c hbx).mono ?_;rintro ev w9 ⟨rfl,jV,tF,o7⟩;have EW:=(tF _ jU.q.ge (gU jU.q.z)).trans jU.q.z;have EX:=jU.q.ge;have EY:=gU jU.q.z) | (with_reducible refine (hdo _ jT.q.nw jT.q.c hbx).mono ?_;rintro ev w9 ⟨rfl,jV,tF,o7⟩;have EW:=(tF _ jT.q.ge (gU jT.q.z)).trans jT.q.z;have EX:=jT.q.ge;have EY:=gU jT.q.z) | (with_reducible refine (hdo _ mF.nw mF.c hbx).mono ?_;rintro ev w9 ⟨rfl,jV,tF,o7⟩;have EW:=(tF _ mF.ge (gU mF.z)).trans mF.z;have EX:=mF.ge;have EY:=gU mF.z) | (with_reducible refine (hdo _ mE.nw mE.c hbx).mono ?_;rintro ev w9 ⟨rfl,jV,tF,o7⟩;have EW:=(tF _ mE.ge (gU mE.z)).trans mE.z;have EX:=mE.ge;have EY:=gU mE.z));have jV:kQ w2.heap.size w9:=jV)
      | ((with_reducible change Oper.upon _ _ _ _ _ _);refine xP [.int .i64 0,.int .i64 0,.int .i64 0,.int .i64 0,.bool false,.bool true] EW rfl ?_;intro w5 gM Zt;have hS5:kQ w2.heap.size w5:=jV.aC (gM.block _ (World.block_lt_of_cell? _ _ jV.1) (fun e=>by omega))))
   all_goals (
     first
       | (have hLn:tC w w5 aP p3 B w2.heap.size:=o7.out w5 ⟨gM.os,gM.tape,gM.output,gM.size,fun y hy hn=>gM.block y hy fun e=>hn (by rw [e];exact ⟨EX,EY⟩)⟩;have hSw:=hS5)
       | (have hLn:tC w (w9.alloc (.cells #[.int .i64 0,.int .i64 0,.int .i64 0,.int .i64 0,.bool false,.bool true] 86)) aP p3 B w2.heap.size:=o7.out _ ((bC.refl _ _).alloc _);have hSw:=jV.al (.cells #[.int .i64 0,.int .i64 0,.int .i64 0,.int .i64 0,.bool false,.bool true] 86))
     have AL:Aside (tC w _ aP p3 B w2.heap.size):=hLn
     clear hLn o7 jV hdo
     go_wp2_with fail
     go_roundg 1
     case measure=>omega
     case rel=>exact ⟨.inr (.inl ⟨by go_num,rfl,AL.out⟩),hSw⟩)
  ·have hdo:=Pj wr w2.heap.size p3 p 1 hL.out A0.out.1.2.2 A0.out.2.1.2.2 A0.out.2.2.2
   have hbx:w2.heap.size<wr.heap.size:=World.block_lt_of_cell? _ _ c0
   have vV:Lc wr w2.heap.size wr.drew:=⟨Nw.drew (bC.refl _ _),⟨c0,c1,c2,c3,c4⟩⟩
   have hroot:=Le
   clear Ld Le Pj
   clear c0 c1 c2 c3 c4 hL
   go_wp2_with fail
   go_region_held3 (fun wx=>wx.cell? ⟨w2.heap.size,0,none⟩=some (.int .i64 1)∧wx.cell? ⟨w2.heap.size,1,none⟩=some (.int .i64 1)∧wx.cell? ⟨w2.heap.size,2,none⟩=some (.int .i64 0)∧wx.cell? ⟨w2.heap.size,3,none⟩=some (.int .i64 0)∧wx.cell? ⟨w2.heap.size,4,none⟩=some (.bool false))
    (first | exact vV.c | exact jT.c | exact jU.c | exact mE.c | exact mF.c | exact vV.q.c | exact jT.q.c | exact jU.q.c | exact jV | exact jV.al _ | exact hS5)
    (first
      | (go_at_call 49;(with_reducible refine (hroot _).mono ?_);rintro ev w7 ⟨rfl,hw7⟩;first | have jT:=vV.n hw7 | have jT:=jU.n hw7 | have mE:=vV.q.n hw7 | have mE:=jU.q.n hw7 | have mE:=mF.n hw7)
      | (go_at_call 46;(with_reducible refine (Ph _).mono ?_);rintro ev w8 ⟨rfl,hw8⟩;first | have jU:=vV.n hw8 | have jU:=jT.n hw8 | have mF:=vV.q.n hw8 | have mF:=jT.q.n hw8 | have mF:=mE.n hw8)
      | (go_at_call 32;(first | (with_reducible refine (hdo _ jU.nw jU.c hbx).mono ?_) | (with_reducible refine (hdo _ jT.nw jT.c hbx).mono ?_));rintro ev w9 ⟨rfl,jV,-,o7⟩;have jV:kQ w2.heap.size w9:=jV)
      | (go_at_call 32;(first | (with_reducible refine (hdo _ jU.q.nw jU.q.c hbx).mono ?_;rintro ev w9 ⟨rfl,jV,tF,o7⟩;have EW:=(tF _ jU.q.ge (gU jU.q.z)).trans jU.q.z;have EX:=jU.q.ge;have EY:=gU jU.q.z) | (with_reducible refine (hdo _ jT.q.nw jT.q.c hbx).mono ?_;rintro ev w9 ⟨rfl,jV,tF,o7⟩;have EW:=(tF _ jT.q.ge (gU jT.q.z)).trans jT.q.z;have EX:=jT.q.ge;have EY:=gU jT.q.z) | (with_reducible refine (hdo _ mF.nw mF.c hbx).mono ?_;rintro ev w9 ⟨rfl,jV,tF,o7⟩;have EW:=(tF _ mF.ge (gU mF.z)).trans mF.z;have EX:=mF.ge;have EY:=gU mF.z) | (with_reducible refine (hdo _ mE.nw mE.c hbx).mono ?_;rintro ev w9 ⟨rfl,jV,tF,o7⟩;have EW:=(tF _ mE.ge (gU mE.z)).trans mE.z;have EX:=mE.ge;have EY:=gU mE.z));have jV:kQ w2.heap.size w9:=jV)
      | ((with_reducible change Oper.upon _ _ _ _ _ _);refine xP [.int .i64 0,.int .i64 0,.int .i64 0,.int .i64 0,.bool false,.bool true] EW rfl ?_;intro w5 gM Zt;have hS5:kQ w2.heap.size w5:=jV.aC (gM.block _ (World.block_lt_of_cell? _ _ jV.1) (fun e=>by omega))))
   all_goals (
     first
       | (have hLn:tC w w5 aP p B w2.heap.size:=o7.out w5 ⟨gM.os,gM.tape,gM.output,gM.size,fun y hy hn=>gM.block y hy fun e=>hn (by rw [e];exact ⟨EX,EY⟩)⟩;have hSw:=hS5)
       | (have hLn:tC w (w9.alloc (.cells #[.int .i64 0,.int .i64 0,.int .i64 0,.int .i64 0,.bool false,.bool true] 86)) aP p B w2.heap.size:=o7.out _ ((bC.refl _ _).alloc _);have hSw:=jV.al (.cells #[.int .i64 0,.int .i64 0,.int .i64 0,.int .i64 0,.bool false,.bool true] 86))
     have AL:Aside (tC w _ aP p B w2.heap.size):=hLn
     clear hLn o7 jV hdo
     go_wp2_with fail
     go_roundg 0
     case measure=>omega
     case rel=>exact ⟨.inr (.inr ⟨by go_num,rfl,AL.out⟩),hSw⟩)
  ·clear c0 c1 c2 c3 c4
   go_wp2
   go_ret
   obtain ⟨⟨B1,g1,g2⟩,g3⟩:=hL.out
   exact ⟨rfl,B1,g1,fun b hb=>(g2 b hb).1,g3⟩
end Go.Proofs.YthomdlajobnmnaaGreatDoor.Cq
