/- part 18 of the proof -/
import Derived.Maps.AppendAt
import Derived.Deep.RegionLaw
import Derived.Test.YthomdlajobnmnaaGreatDoorX17
set_option linter.unusedSimpArgs false
set_option linter.unusedVariables false
namespace Go.Proofs.YthomdlajobnmnaaGreatDoor
open Go.RowKit Go.Rex
structure Wx (wr wx:World) (X:Nat→Prop) (b base A:Nat) (Ba:Nat→Prop) (k:Wk):Prop where
 ex:∃B':Nat→Prop,aQ wx b base A k B'∧∀x,B' x→(Ba x∨wr.heap.size≤x)∧¬X x∧x<wx.heap.size
 Cc:bA wr Ba wx
 nx:∀x,X x→wr.heap.size≤x∧x<wx.heap.size
 a:A<wr.heap.size
section
variable {w wr wx w':World} {X:Nat→Prop} {b base A rb:Nat} {Ba B BP:Nat→Prop} {k k':Wk} {aP:Addr} {p:PS}
theorem Wx.alloc (h:Wx wr wx X b base A Ba k) (o:Obj):Wx wr (wx.alloc o) (fun x=>X x∨x=wx.heap.size) b base A Ba k:=by
 obtain ⟨B',h1,h2⟩:=h.ex
 have hn:Nw wx (wx.alloc o):=(bA.refl _ _).alloc o
 have hs:(wx.alloc o).heap.size=wx.heap.size+1:=by simp
 refine ⟨⟨_,h1.nw hn,fun x hx=>⟨(h2 x hx.1).1,fun q=>q.elim (h2 x hx.1).2.1 fun e=>by have:=hx.2;omega,by rw [hs];have:=hx.2;omega⟩⟩,He h.Cc hn,fun x hx=>?_,h.a⟩
 rw [hs]
 rcases hx with hx | rfl
 ·have:=h.nx x hx
  omega
 ·have:=h.Cc.size
  omega
end
noncomputable def st1 (P:Program) (x:Nat) (w:World) (i:Nat) (v:Value):Result Unit :=
 match w.cell? ⟨x,i,none⟩ with
 | some val=>if w.frozen? ⟨x,i,none⟩=true then Result.halt (Halt.unsupported (Unsupported.unsafePointer "a write to bytes that a string shares")) w else Result.ok () (w.setCell ⟨x,i,none⟩ v)
 | none=>match World.farStore P w ⟨x,i,none⟩ v (Mode.plain == Mode.atomic) with
  | Except.ok (w',snd)=>Result.ok () w'
  | Except.error h=>Result.halt h w
noncomputable def sts (P:Program) (x:Nat):List Value→Nat→World→Result Unit
 | [],_,w=>.ok () w
 | [v],i,w=>st1 P x w i v
 | v :: u :: vs,i,w=>(st1 P x w i v).andThen fun _ w'=>sts P x (u :: vs) (i+1) w'
section
variable {P:Program} {x:Nat} {ty:TypeId}
theorem Wv {w:World} {cs:Array Value} {i:Nat} {v:Value} (h:w.heap[x]?=some (.cells cs ty (0,0))) (hi:i<cs.size):st1 P x w i v=.ok () (w.setCell ⟨x,i,none⟩ v)∧bA w (·=x) (w.setCell ⟨x,i,none⟩ v)∧(w.setCell ⟨x,i,none⟩ v).heap[x]?=some (.cells (cs.setIfInBounds i v) ty (0,0)):=by
 have hc:w.cell? ⟨x,i,none⟩=some cs[i]:=by
  unfold World.cell?
  rw [h]
  exact Array.getElem?_eq_getElem hi
 have hf:w.frozen? ⟨x,i,none⟩=false:=by
  unfold World.frozen?
  rw [h]
  simp
 refine ⟨?_,⟨rfl,rfl,rfl,by simp [World.setCell],fun y hy hn=>heap_setCell_other w ⟨x,i,none⟩ y _ hn⟩,heap_setCell_same w x i _ _ v h⟩
 unfold st1
 rw [hc]
 simp only
 rw [if_neg (by rw [hf];decide)]
theorem Ww:∀(vs:List Value) (i:Nat) {w:World} {cs:Array Value},w.heap[x]?=some (.cells cs ty (0,0))→i+vs.length≤cs.size →
  ∃w' cs',sts P x vs i w=.ok () w'∧bA w (·=x) w'∧w'.heap[x]?=some (.cells cs' ty (0,0))∧cs'.size=cs.size∧(∀j,j<i→cs'[j]?=cs[j]?)∧∀j,j<vs.length→cs'[i+j]?=vs[j]?
 | [],i,w,cs,h,hl=>⟨w,cs,rfl,bA.refl _ _,h,rfl,fun _ _=>rfl,fun j hj=>absurd hj (Nat.not_lt_zero _)⟩
 | [v],i,w,cs,h,hl=>by
  have hi:i<cs.size:=hl
  obtain ⟨a,b,c⟩:=Wv (P:=P) (v:=v) h hi
  refine ⟨_,_,a,b,c,by simp,fun j hj=>by simp [Array.getElem?_setIfInBounds,Nat.ne_of_gt hj],fun j hj=>?_⟩
  obtain rfl:j=0:=by simpa using hj
  simp [hi]
 | v :: u :: vs,i,w,cs,h,hl=>by
  have hl':i+(vs.length+1+1)≤cs.size:=hl
  have hi:i<cs.size:=by omega
  obtain ⟨a,b,c⟩:=Wv (P:=P) (v:=v) h hi
  obtain ⟨w',cs',d1,d2,d3,d4,d5,d6⟩:=Ww (u :: vs) (i+1) c (by simp;omega)
  refine ⟨w',cs',?_,ab6 b d2,d3,by rw [d4];simp,fun j hj=>?_,fun j hj=>?_⟩
  ·unfold sts
   rw [a]
   exact d1
  ·rw [d5 j (by omega)]
   simp [Array.getElem?_setIfInBounds,Nat.ne_of_gt hj]
  ·cases j with
   | zero =>
    rw [d5 (i+0) (by omega)]
    simp [hi]
   | succ j =>
    have:=d6 j (by simpa using hj)
    rw [show i+(j+1)=i+1+j by omega,this]
    rfl
theorem uF {o:Oper} {a:Act} {K:Act→World→Prop} {Q:Exit→Act→World→Prop} {w:World} {cs:Array Value} (vs:List Value) (h:w.heap[x]?=some (.cells cs ty (0,0))) (hl:vs.length=cs.size)
  (hk:∀w',bA w (·=x) w'→w'.heap[x]?=some (.cells vs.toArray ty (0,0))→K (a.put o.dst undef) w'):Oper.upon P o a K Q ((sts P x vs 0 w).andThen fun _ w'=>.ok .skip w'):=by
 obtain ⟨w',cs',d1,d2,d3,d4,d5,d6⟩:=Ww (P:=P) vs 0 h (by omega)
 rw [d1]
 have e:cs'=vs.toArray:=by
  refine Array.ext_getElem? fun j=>?_
  rcases Nat.lt_or_ge j vs.length with hj | hj
  ·have:=d6 j hj
   rw [Nat.zero_add] at this
   rw [this]
   simp
  ·rw [Array.getElem?_eq_none (by omega),Array.getElem?_eq_none (by simpa using hj)]
 subst e
 exact hk w' d2 d3
end
theorem oH {w w':World} {b:Nat} (h:w'.heap[b]?=w.heap[b]?) (i:Nat):w'.cell? ⟨b,i,none⟩=w.cell? ⟨b,i,none⟩:=by
 unfold World.cell?
 rw [h]
def TF (c:Ca):List Value:=[.int .i64 c.kind,.int .i64 c.slot,.int .i64 c.gen,.int .i64 c.field,.int .i64 c.old.slot,.int .i64 c.old.gen,.int .i64 c.old.tag,.int .i64 c.old.num,.bool c.old.mark,.int .i64 c.new.slot,.int .i64 c.new.gen,.int .i64 c.new.tag,.int .i64 c.new.num,.bool c.new.mark,.int .i64 c.i,.int .i64 c.j,.int .i64 c.code,.int .i64 c.val]
theorem Zo {w:World} {x:Nat} {c:Ca} (h:w.heap[x]?=some (.cells (TF c).toArray 83 (0,0))):(w.cell? ⟨x,0,none⟩=some (.int .i64 c.kind)∧w.cell? ⟨x,1,none⟩=some (.int .i64 c.slot)∧w.cell? ⟨x,2,none⟩=some (.int .i64 c.gen)∧w.cell? ⟨x,3,none⟩=some (.int .i64 c.field)∧w.cell? ⟨x,4,none⟩=some (.int .i64 c.old.slot)∧w.cell? ⟨x,5,none⟩=some (.int .i64 c.old.gen)∧w.cell? ⟨x,6,none⟩=some (.int .i64 c.old.tag)∧w.cell? ⟨x,7,none⟩=some (.int .i64 c.old.num)∧w.cell? ⟨x,8,none⟩=some (.bool c.old.mark)) ∧
  (w.cell? ⟨x,9,none⟩=some (.int .i64 c.new.slot)∧w.cell? ⟨x,10,none⟩=some (.int .i64 c.new.gen)∧w.cell? ⟨x,11,none⟩=some (.int .i64 c.new.tag)∧w.cell? ⟨x,12,none⟩=some (.int .i64 c.new.num)∧w.cell? ⟨x,13,none⟩=some (.bool c.new.mark)∧w.cell? ⟨x,14,none⟩=some (.int .i64 c.i)∧w.cell? ⟨x,15,none⟩=some (.int .i64 c.j)∧w.cell? ⟨x,16,none⟩=some (.int .i64 c.code)∧w.cell? ⟨x,17,none⟩=some (.int .i64 c.val)):=by
 have hc:∀i,w.cell? ⟨x,i,none⟩=(TF c).toArray[i]?:=fun i=>by
  unfold World.cell?
  rw [h]
  rfl
 simp only [hc]
 exact ⟨⟨rfl,rfl,rfl,rfl,rfl,rfl,rfl,rfl,rfl⟩,rfl,rfl,rfl,rfl,rfl,rfl,rfl,rfl,rfl⟩
theorem Hf {P:Program} {ops:Array Oper} {o:Oper} {a:Act} {w:World} {K:Act→World→Prop} {Q:Exit→Act→World→Prop} {E:Prop} (hgd:o.guard=none) (s x:Operand) (t:TypeId)
  (ho:o.op=.call {callee:=.builtin .append,args:=#[s,x],argTypes:=#[t,t]})
  (base:Nat) (e:TypeId) (i:TypeInfo) (z:Value) (size bytes:Nat) (ht:P.underlying t=some (.slice e)) (hi:P.info? e=some i) (hz:i.zero=some z)
  (hsize:i.size=size) (hby:i.bytes=bytes) (hzs:z.cells.size=size) (hsz:0<size)
  (v:Value) (n:Nat) (xs:List Value) (hs:a.eval s=v) (hown:w.ownsRow base e size v n xs)
  (ad:Addr) (m c:Nat) (news:List Value) (hx:a.eval x=.slice (some ad) m c) (hl:news.length=m * size) (hnews:∀j u,news[j]?=some u→w.cell? (ad.add j)=some u) (h1:∀u∈news,u.oneCell'=true)
  (h63:n+m≤maxLen) (hbytes:(n+m) * bytes≤140737488355328) (hbase:base≤w.heap.size)
  (h:∀v' w',w'.ownsRow base e size v' (n+m) (xs ++ news)→w.grownBy w' v.ownBlock→(v'.ownBlock=v.ownBlock∨v'.ownBlock=some w.heap.size)→K (a.put o.dst v') w') :
  if Region.wanted o (yielded ops a.tmps)=true then Oper.wp P o a w K Q else E:=by
 have hw:Region.wanted o (yielded ops a.tmps)=true:=by simp [Region.wanted,hgd]
 rw [if_pos hw]
 obtain ⟨v',w',hr,h2,h3,h4,h5⟩:=run_append_own_at (P:=P) w base t o.type e i z size bytes ht hi hz hsize hby hzs hsz v n xs hown ad m c news hl hnews h1 h63 hbytes hbase
 unfold Oper.wp execOp
 simp only [ho,resolve,invoke,builtin,Sem.run_bind,Sem.run_pure,Result.andThen_ok,List.map_toArray,List.map_cons,List.map_nil,hs,hx,hr]
 exact h v' w' h2 h3 h5
theorem vQ {w:World} {base n size:Nat} {e:TypeId} {v:Value} {xs:List Value} (h:w.ownsRow base e size v (n+1) xs):∃g c,v=.slice (some ⟨g,0,none⟩) (n+1) c:=by
 obtain ⟨-,⟨-,h⟩ | ⟨g,cap,cur,h,-⟩⟩:=h
 ·cases h
 ·exact ⟨g,cap,h⟩
theorem ace (w:World) (x y:Value) (t:TypeId):∀j u,[x,y][j]?=some u→((w.alloc (.cells #[x,y] t)).drew).cell? ((⟨w.heap.size,0,none⟩:Addr).add j)=some u:=by
 intro j u hj
 match j,hj with
 | 0,hj =>
  simp at hj
  subst hj
  simp [Addr.add]
 | 1,hj =>
  simp at hj
  subst hj
  simp [Addr.add]
 | j+2,hj=>simp at hj
theorem acf (x y:Int):∀u∈[Value.int .i64 x,.int .i64 y],u.oneCell'=true:=by
 intro u hu
 simp at hu
 rcases hu with rfl | rfl <;> rfl
end Go.Proofs.YthomdlajobnmnaaGreatDoor
