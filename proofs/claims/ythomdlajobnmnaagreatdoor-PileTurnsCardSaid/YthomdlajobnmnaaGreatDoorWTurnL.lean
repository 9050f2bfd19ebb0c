/- 'PileTurns' -/
import Derived.Test.YthomdlajobnmnaaGreatDoorT20
import Derived.Test.YthomdlajobnmnaaGreatDoorT27
import Derived.Test.YthomdlajobnmnaaGreatDoorT28
set_option linter.unusedSimpArgs false
set_option linter.unusedVariables false
namespace Go.Proofs.YthomdlajobnmnaaGreatDoor
open Go.RowKit Go.Rex
theorem YX:(Tryz.prog.info? 28).map (fun i=>(i.zero,i.size,i.bytes))=some (some (.agg #[.int .i64 0,.int .i64 0,.int .i64 0,.int .i64 0]),4,32):=by kernel_rfl
def tv (x:Int):Int:=(IntKind.u64.wrap x).tmod 1000
theorem OL (x:Int):0≤tv x∧tv x≤1000:=by
 have:=tmP (IntKind.u64.wrap x) 1000 (by decide) (wrP x)
 unfold tv
 omega
structure Um (w0 w:World) (l:List Int) (j:Nat) (s s':Value):Prop where
 a:w.ownsRow w0.heap.size 28 4 s j (((l.take j).map fun x=>eO (tv x)).flatMap lX)
 b:w.ownsRow w0.heap.size 28 4 s' j ((List.replicate j ek).flatMap lX)
 sa:∃g c,s=.slice (some ⟨g,0,none⟩) j c
 ne:∀g,s.ownBlock=some g→s'.ownBlock≠some g
 nw:Nw w0 w
theorem jg.pl {w1 w:World} {aP:Addr} {aW A:Nat→Nat} {base g n:Nat} {p:PS} {W:Nat→Wk} (R:jg w1 w aP aW A base g n p W):∃BP,jf w aP p BP:=by
 obtain ⟨F,hC,-⟩:=R.cr
 obtain ⟨BP,BM,h1,-⟩:=hC.ex
 exact ⟨BP,h1⟩
theorem OM:∀(l:List (Int × Int)) (i:Nat) (x:Int × Int),l[i]?=some x→(jU l)[i * 2]?=some (.int .i64 x.1)∧(jU l)[i * 2+1]?=some (.int .i64 x.2)
 | [],i,x,h=>by simp at h
 | a :: l,0,x,h=>by
  obtain rfl:a=x:=by simpa using h
  exact ⟨rfl,rfl⟩
 | a :: l,i+1,x,h=>by
  have h':l[i]?=some x:=by simpa using h
  obtain ⟨h1,h2⟩:=OM l i x h'
  have e:jU (a :: l)=[.int .i64 a.1,.int .i64 a.2] ++ jU l:=rfl
  rw [e,List.getElem?_append_right (by simp;omega),List.getElem?_append_right (by simp;omega)]
  refine ⟨?_,?_⟩
  ·rw [←h1];congr 1;simp;omega
  ·rw [←h2];congr 1;simp;omega
theorem bF.Zq {w:World} {b base A:Nat} {k:Wk} {B:Nat→Prop} (h:bF w b base A k B) (hs:k.said≠[]):∃gs cs,w.cell? ⟨b,4,none⟩=some (.slice (some ⟨gs,0,none⟩) k.said.length cs)∧∀i x,k.said[i]?=some x→w.cell? ⟨gs,i * 2,none⟩=some (.int .i64 x.1)∧w.cell? ⟨gs,i * 2+1,none⟩=some (.int .i64 x.2):=by
 obtain ⟨aR,jv,sv,c,BR,BJ,h1,h2,h3,h4,h5,-⟩:=h.ex
 have Vu:w.cell? ⟨b,4,none⟩=some sv:=by
  unfold World.cell?
  rw [h1]
  rfl
 have h5':=h5
 obtain ⟨-,⟨-,h6⟩ | ⟨g,cap,cur,rfl,-⟩⟩:=h5'
 ·exact absurd (List.length_eq_zero_iff.1 h6) hs
 ·have hc:∀j x,(jU k.said)[j]?=some x→w.cell? ⟨g,j,none⟩=some x:=fun j x hx=>by
   have:=h5.cells (g:=g) rfl j x hx
   rw [←this]
   congr 1
   unfold Addr.add
   split
   ·rename_i h;subst h;rfl
   ·simp
  exact ⟨g,cap,Vu,fun i x hx=>⟨hc _ _ (OM _ i x hx).1,hc _ _ (OM _ i x hx).2⟩⟩
def AU (l:List Int) (i:Nat):List Op:=if i=0 then (l.map tv).map eO else List.replicate ((l.map tv).length+1) ek
structure OO (w1 w':World) (ν:Nat→Addr) (l:List Int) (E N:Int) (aP:Addr) (g g5:Nat):Prop where
 ex:∃wx aW AA p W m,jg wx w' aP aW AA wx.heap.size g 2 p W∧Nw w1 wx∧qF wx ν∧m≤1000∧ST (l.map tv) E N 0 m p W∧mX wx g5 ((l.map tv).map eO)∧g5<wx.heap.size∧∃bp,aP=⟨bp,0,none⟩
theorem OO.nw1 {w1 w':World} {ν:Nat→Addr} {l:List Int} {E N:Int} {aP:Addr} {g g5:Nat} (h:OO w1 w' ν l E N aP g g5):Nw w1 w':=by
 obtain ⟨wx,aW,AA,p,W,m,h1,h2,-⟩:=h.ex
 exact h2.trans h1.nw
theorem Cy (w:World) (x y z u:Value) (t:TypeId):∀j v,[x,y,z,u][j]?=some v→(w.alloc (.cells #[x,y,z,u] t)).cell? ((⟨w.heap.size,0,none⟩:Addr).add j)=some v:=by
 intro j v hj
 match j,hj with
 | 0,hj=>simp at hj;subst hj;simp [Addr.add]
 | 1,hj=>simp at hj;subst hj;simp [Addr.add]
 | 2,hj=>simp at hj;subst hj;simp [Addr.add]
 | 3,hj=>simp at hj;subst hj;simp [Addr.add]
 | j+4,hj=>simp at hj
theorem Rw (w:World) (x y z u:Value) (t:TypeId):∀j v,[x,y,z,u][j]?=some v→(w.alloc (.cells #[x,y,z,u] t)).drew.cell? ((⟨w.heap.size,0,none⟩:Addr).add j)=some v :=
 Cy w x y z u t
theorem Cz (x y z u:Int):∀v∈[Value.int .i64 x,.int .i64 y,.int .i64 z,.int .i64 u],v.oneCell'=true:=by
 intro v hv
 simp at hv
 rcases hv with rfl | rfl | rfl | rfl <;> rfl
set_option maxHeartbeats 3000000 in
set_option maxRecDepth 100000 in
theorem OP (w:World) (ν:Nat→Addr) (a0 a1:Int) (v:Value) (l:List Int) (hs:qF w ν) (hv:Rd w v l) :
  Calls Tryz.prog 3 #[.agg #[.int .i64 a0,.int .i64 a1],v] w fun e w'=>e=.returned (.bool true)∧Nw w w':=by
 obtain ⟨i0,hi,hy0,hy1,hy2⟩:=info_parts YX
 have hn0:Nw w (w.alloc (.cells #[.int .i64 a0,.int .i64 a1] 22)):=(bU.refl w _).alloc _
 have ha:=K9 (hs.nw hn0)
 obtain ⟨A,c,rfl,hlc,hc,hA⟩:=hv
 have A0:Aside (qF w ν∧(l.length≤c∧c≤9223372036854775807)∧∀k,k<l.length→∃ad,A=some ad∧w.cell? (ad.add k)=some (.int .i64 (l.getD k 0))):=⟨hs,⟨hlc,hc⟩,hA⟩
 clear hs hlc hc hA
 by_cases hl:12<l.length
 ·have hl1:(12:Int)<(l.length:Int):=by omega
  go_enter Tryz.func3,Tryz.ntmps3
  go_wp2_with (go_at_call 8;(with_reducible refine ha.mono ?_);rintro ev w1 ⟨rfl,hw1⟩)
  go_ret
  exact ⟨rfl,hn0.trans hw1⟩
 ·have hl1:¬(12:Int)<(l.length:Int):=by omega
  go_enter Tryz.func3,Tryz.ntmps3
  go_wp2_with (go_at_call 8;(with_reducible refine ha.mono ?_);rintro ev w1 ⟨rfl,hw1⟩)
  have A1:Aside (Nw w w1):=hn0.trans hw1
  have AC:Aside (w1.cell? ⟨w.heap.size,0,none⟩=some (.int .i64 a0)∧w1.cell? ⟨w.heap.size,1,none⟩=some (.int .i64 a1)):=⟨hw1.dD (by simp),hw1.dD (by simp)⟩
  clear hw1 hn0 ha hl1
  go_loopg [5,6,7] l.length (fun k s s' i wr=>∃j:Nat,i=.int .i64 j∧j+k=l.length∧Aside (Um w1 wr l j s s'))
  case atStart =>
   refine ⟨0,rfl,by omega,⟨rfl,.inr ⟨w1.heap.size,0,#[],rfl,Nat.le_refl _,?_,Nat.le_refl _,Nat.zero_le _,rfl,rfl⟩⟩,⟨rfl,.inr ⟨w1.heap.size+1,0,#[],?_,Nat.le_succ _,?_,Nat.le_refl _,Nat.zero_le _,rfl,rfl⟩⟩,⟨_,_,rfl⟩,fun g h1 h2=>?_,((bU.refl _ _).alloc _).alloc _⟩
   ·exact (heap_alloc_old _ _ (by simp)).trans (sI _ _)
   ·rfl
   ·have:=sI (w1.alloc (.cells #[] 28)) (.cells #[] 28)
    simpa using this
   ·have h1:=Option.some.inj h1
    have h2:=Option.some.inj h2
    simp at h1 h2
    omega
  case round =>
   obtain ⟨j,rfl,hjk,hY⟩:=hrel
   by_cases hlt:j<l.length
   ·have hlt':(j:Int)<(l.length:Int):=by omega
    obtain ⟨ha,hb,hsa,hne,hnw⟩:=hY.out
    obtain ⟨ad,rfl,hcell⟩:=A0.out.2.2 j hlt
    replace hcell:=(A1.out.trans hnw).dD hcell
    obtain ⟨x,hx⟩:∃x,x=l.getD j 0:=⟨_,rfl⟩
    rw [←hx] at hcell
    generalize hxs:((l.take j).map fun x=>eO (tv x)).flatMap lX=xs at ha
    generalize hys:(List.replicate j ek).flatMap lX=ys at hb
    have ab6:j<12:=by omega
    have hsz:=hnw.size
    have hm1:j+1≤maxLen:=by unfold maxLen;omega
    have hm2:(j+1) * 32≤140737488355328:=by omega
    have A4:Aside (x=l.getD j 0∧((l.take j).map fun x=>eO (tv x)).flatMap lX=xs∧(List.replicate j ek).flatMap lX=ys∧(∀g,u5.ownBlock=some g→u6.ownBlock≠some g)∧Nw w1 wr∧j+gk=l.length∧j<l.length):=⟨hx,hxs,hys,hne,hnw,hjk,hlt⟩
    clear hx hxs hys hne hnw hY hjk hlt
    have Mo:∀o,w1.heap.size≤(wr.alloc o).heap.size:=fun o=>by simp;omega
    go_wp2_with (first
      | (at_builtin;refine wpList_append_own_at _ rfl _ _ 25 rfl w1.heap.size 28 i0 (.agg #[.int .i64 0,.int .i64 0,.int .i64 0,.int .i64 0]) 4 32 Tryz.underlying25 hi hy0 hy1 hy2 rfl (by decide) _ _ _ rfl (ha.alloc _) _ 1 1 [.int .i64 1,.int .i64 0,.int .i64 (wrap64 ((IntKind.u64.wrap x).tmod 1000)),.int .i64 0] rfl rfl (Cy _ _ _ _ _ _) (Cz _ _ _ _) hm1 hm2 (Mo _) ?_;intro v' w6 hown' hgrow _ hat;have hz6:wr.heap.size+1≤w6.heap.size:=(by have:=hgrow.size;simpa using this);have hb6:=iH (w':=w6) hb (fun y hy ho=>(hgrow.block y (by simp;omega) (fun e=>A4.out.2.2.2.1 y e.symm ho)).trans (heap_alloc_old _ _ hy));have VF:∀o,w1.heap.size≤(w6.alloc o).heap.size:=(fun o=>by simp;omega))
      | (at_builtin;refine wpList_append_own_at _ rfl _ _ 25 rfl w1.heap.size 28 i0 (.agg #[.int .i64 0,.int .i64 0,.int .i64 0,.int .i64 0]) 4 32 Tryz.underlying25 hi hy0 hy1 hy2 rfl (by decide) _ _ _ rfl (hb6.alloc _) _ 1 1 [.int .i64 2,.int .i64 0,.int .i64 0,.int .i64 0] rfl rfl (Cy _ _ _ _ _ _) (Cz _ _ _ _) hm1 hm2 (VF _) ?_;intro v2 w7 hown2 hgrow2 _ KP)
      | fail)
    obtain ⟨hx,hxs,hys,hne,hnw,hjk,hlt⟩:=A4.out
    have hg5:=fun g=>ha.lt g
    have LZ:=fun g=>hb.lt g
    have hz7:w6.heap.size+1≤w7.heap.size:=by
     have:=hgrow2.size
     simpa using this
    have YY:∀y,v'.ownBlock=some y→y<w6.heap.size:=fun y hy=>(hown'.lt y hy).2
    have hvu:∀y,v'.ownBlock=some y→u6.ownBlock≠some y:=fun y hy e=>by
     have h6:=(LZ y e).2
     rcases hat with h | h
     ·exact hne y (h.symm.trans hy) e
     ·rw [h,Option.some.injEq] at hy
      simp at hy
      omega
    have hfin:Um w1 w7 l (j+1) v' v2:=by
     have hlj:l[j]?=some x:=by rw [hx,List.getElem?_eq_getElem hlt,List.getD_eq_getElem?_getD,List.getElem?_eq_getElem hlt];rfl
     refine ⟨?_,?_,zw hown',fun y hy e=>?_,?_⟩
     ·have e:((l.take (j+1)).map fun x=>eO (tv x)).flatMap lX=xs ++ [.int .i64 1,.int .i64 0,.int .i64 (wrap64 ((IntKind.u64.wrap x).tmod 1000)),.int .i64 0]:=by
       have hw:wrap64 ((IntKind.u64.wrap x).tmod 1000)=tv x:=w64 (OL x).1 (by have:=(OL x).2;unfold tv at this;omega)
       rw [List.take_add_one,hlj,List.map_append,List.flatMap_append,hxs,hw]
       rfl
      rw [e]
      exact iH hown' fun y hy ho=>(hgrow2.block y (by simp;omega) fun e=>hvu y ho e.symm).trans (heap_alloc_old _ _ hy)
     ·have e:(List.replicate (j+1) ek).flatMap lX=ys ++ [.int .i64 2,.int .i64 0,.int .i64 0,.int .i64 0]:=by
       rw [List.replicate_succ',List.flatMap_append,hys]
       rfl
      rw [e]
      exact hown2
     ·rcases KP with h | h
      ·exact hvu y hy (h.symm.trans e)
      ·rw [h,Option.some.injEq] at e
       have:=YY y hy
       simp at e
       omega
     ·exact Aj ((Aj (hnw.alloc _) hgrow fun g hg=>(hg5 g hg).1).alloc _) hgrow2 fun g hg=>(LZ g hg).1
    have A5:Aside (Um w1 w7 l (j+1) v' v2):=hfin
    clear hfin hvu YY hz7 hg5 LZ hown2 hgrow2 KP hb6 hz6 hown' hgrow hat ha hb hx hxs hys hne hnw
    go_wp2
    go_roundg (gk-1)
    case measure=>omega
    case rel=>exact ⟨j+1,by go_num,by omega,A5.out⟩
   ·have hlt':¬(j:Int)<(l.length:Int):=by omega
    obtain rfl:j=l.length:=by omega
    obtain ⟨ha,hb,⟨g5,c5,rfl⟩,hne,hnw⟩:=hY.out
    rw [List.take_length] at ha
    have hlen:l.length≤12:=by omega
    have Es:=(A0.out.1.nw A1.out).nw hnw
    have hsz:=hnw.size
    generalize hys:(List.replicate l.length ek).flatMap lX=ys at hb
    have hm1:l.length+1≤maxLen:=by unfold maxLen;omega
    have hm2:(l.length+1) * 32≤140737488355328:=by omega
    have c20:wr.cell? ⟨w.heap.size,0,none⟩=some (.int .i64 a0):=hnw.dD AC.out.1
    have c21:wr.cell? ⟨w.heap.size,1,none⟩=some (.int .i64 a1):=hnw.dD AC.out.2
    obtain ⟨E,e0,e1,e2⟩:=VB a0 5 (by decide) (by decide)
    obtain ⟨N,n0,n1,n2⟩:=VB a1 9 (by decide) (by decide)
    have A4:Aside ((wrap64 (1+wrap64 ((IntKind.u64.wrap a0).tmod 5))=(E:Int)∧1≤E∧(E:Int)≤5)∧(wrap64 (1+wrap64 ((IntKind.u64.wrap a1).tmod 9))=(N:Int)∧1≤N∧(N:Int)≤9)∧qF wr ν∧(List.replicate l.length ek).flatMap lX=ys∧Nw w1 wr∧l.length≤12):=⟨⟨e0,e1,e2⟩,⟨n0,n1,n2⟩,Es,hys,hnw,hlen⟩
    have A5:Aside (wr.ownsRow w1.heap.size 28 4 (.slice (some ⟨g5,0,none⟩) l.length c5) l.length ((l.map fun x=>eO (tv x)).flatMap lX)∧∀g,(Value.slice (some ⟨g5,0,none⟩) l.length c5).ownBlock=some g→u6.ownBlock≠some g):=⟨ha,hne⟩
    clear e0 e1 e2 n0 n1 n2 Es hys hnw hY ha hne
    have Mo:∀o,w1.heap.size≤(wr.alloc o).drew.heap.size:=fun o=>by simp [World.drew];omega
    have VF:∀o,(wr.alloc o).drew.ownsRow w1.heap.size 28 4 u6 l.length ys:=fun o=>Rc hb (Nw.drew ((bU.refl _ _).alloc o))
    go_wp2_with fail
    have hS:wr.cell? ⟨w.heap.size,0,none⟩=some (.int .i64 a0)∧wr.cell? ⟨w.heap.size,1,none⟩=some (.int .i64 a1):=⟨c20,c21⟩
    have VG:∀o,(wr.alloc o).cell? ⟨w.heap.size,0,none⟩=some (.int .i64 a0)∧(wr.alloc o).cell? ⟨w.heap.size,1,none⟩=some (.int .i64 a1):=fun o=>⟨Nw.dD (w:=wr) (w':=wr.alloc o) ((bU.refl _ _).alloc o) c20,Nw.dD (w:=wr) (w':=wr.alloc o) ((bU.refl _ _).alloc o) c21⟩
    have hwl:w.heap.size<w1.heap.size:=World.block_lt_of_cell? _ _ AC.out.1
    have hn6:u6.ownBlock≠some w.heap.size:=fun e=>by have:=(hb.lt _ e).1;omega
    have VH:∀o w7,(wr.alloc o).drew.grownBy w7 u6.ownBlock→w7.cell? ⟨w.heap.size,0,none⟩=some (.int .i64 a0)∧w7.cell? ⟨w.heap.size,1,none⟩=some (.int .i64 a1):=fun o w7 h=>by
     have hk:=h.block w.heap.size (by simp [World.drew];omega) fun e=>hn6 e.symm
     exact ⟨(xm hk 0).trans (VG o).1,(xm hk 1).trans (VG o).2⟩
    have hS8:∀o w7,(wr.alloc o).drew.grownBy w7 u6.ownBlock→∀o2,(w7.alloc o2).cell? ⟨w.heap.size,0,none⟩=some (.int .i64 a0)∧(w7.alloc o2).cell? ⟨w.heap.size,1,none⟩=some (.int .i64 a1):=fun o w7 h o2=>⟨Nw.dD (w:=w7) (w':=w7.alloc o2) ((bU.refl _ _).alloc o2) (VH o w7 h).1,Nw.dD (w:=w7) (w':=w7.alloc o2) ((bU.refl _ _).alloc o2) (VH o w7 h).2⟩
    have hcr:∀o w7 g6 c6,(wr.alloc o).drew.grownBy w7 u6.ownBlock→w7.ownsRow w1.heap.size 28 4 (.slice (some ⟨g6,0,none⟩) (l.length+1) c6) (l.length+1) (ys ++ [.int .i64 2,.int .i64 0,.int .i64 0,.int .i64 0])→(Value.ownBlock (.slice (some ⟨g6,0,none⟩) (l.length+1) c6)=u6.ownBlock∨Value.ownBlock (.slice (some ⟨g6,0,none⟩) (l.length+1) c6)=some (wr.alloc o).drew.heap.size) →
      Calls Tryz.prog 9 #[.int .i64 (IntKind.i64.wrap (1+IntKind.i64.wrap ((IntKind.u64.wrap a0).tmod 5))),.int .i64 (IntKind.i64.wrap (1+IntKind.i64.wrap ((IntKind.u64.wrap a1).tmod 9))),.int .i64 12,.slice (some ⟨w7.heap.size,0,none⟩) 2 2] (w7.alloc (.cells #[.slice (some ⟨g5,0,none⟩) l.length c5,.slice (some ⟨g6,0,none⟩) (l.length+1) c6] 25)) fun e w' =>
       ∃aP g c,e=.returned (.tuple #[.pointer (some aP),.slice (some ⟨g,0,none⟩) 2 c])∧Aside (OO w1 w' ν l E N aP g g5):=by
     intro o w7 g6 c6 hg hown hat
     obtain ⟨⟨e0,e1,e2⟩,⟨n0,n1,n2⟩,Es,hys,hnw,hlen⟩:=A4.out
     obtain ⟨ha,hne⟩:=A5.out
     have e0':IntKind.i64.wrap (1+IntKind.i64.wrap ((IntKind.u64.wrap a0).tmod 5))=(E:Int):=by have h:=e0;unfold wrap64 at h;simp only [IntKind.wrap_i64];exact h
     have n0':IntKind.i64.wrap (1+IntKind.i64.wrap ((IntKind.u64.wrap a1).tmod 9))=(N:Int):=by have h:=n0;unfold wrap64 at h;simp only [IntKind.wrap_i64];exact h
     rw [e0',n0']
     have hn7:Nw w1 w7:=Aj (hnw.trans (Nw.drew ((bU.refl _ _).alloc o))) hg fun y hy=>(hb.lt y hy).1
     have ab7:∀y,u6.ownBlock=some y→y<wr.heap.size:=fun y hy=>(hb.lt y hy).2
     have YZ:=iH (w':=w7) ha fun y hy ho=>(hg.block y (by simp [World.drew];omega) fun e=>hne y ho e.symm).trans (heap_alloc_old _ _ hy)
     have h56:g5≠g6:=fun e=>by
      rcases hat with h | h
      ·exact hne g5 rfl (h.symm.trans (by rw [e];rfl))
      ·have h5:=(ha.lt g5 rfl).2
       have:g6=(wr.alloc o).drew.heap.size:=Option.some.inj h
       simp [World.drew] at this
       omega
     have hO:Ak (w7.alloc (.cells #[.slice (some ⟨g5,0,none⟩) l.length c5,.slice (some ⟨g6,0,none⟩) (l.length+1) c6] 25)) w7.heap.size 2 (fun i=>if i=0 then g5 else g6) (AU l):=by
      have n8:Nw w7 (w7.alloc (.cells #[.slice (some ⟨g5,0,none⟩) l.length c5,.slice (some ⟨g6,0,none⟩) (l.length+1) c6] 25)):=(bU.refl _ _).alloc _
      refine ⟨fun i hi=>?_⟩
      match i,hi with
      | 0,_ =>
       refine ⟨⟨c5,?_⟩,?_,?_⟩
       ·simp [AU]
       ·have:=Mv (w:=w7) (g:=g5) (l:=AU l 0) (by
           have e:(AU l 0).flatMap lX=(l.map fun x=>eO (tv x)).flatMap lX:=by simp [AU,Function.comp_def]
           rw [e];exact YZ) rfl
        exact this.frame (n8.block _ (YZ.lt g5 rfl).2 id)
       ·exact Nat.lt_of_lt_of_le (YZ.lt g5 rfl).2 n8.size
      | 1,_ =>
       refine ⟨⟨c6,?_⟩,?_,?_⟩
       ·simp [AU]
       ·have:=Mv (w:=w7) (g:=g6) (l:=AU l 1) (by
           have e:(AU l 1).flatMap lX=ys ++ [.int .i64 2,.int .i64 0,.int .i64 0,.int .i64 0]:=by
             show (List.replicate ((l.map tv).length+1) ek).flatMap lX=_
             rw [List.length_map,List.replicate_succ',List.flatMap_append,hys]
             rfl
           rw [e];exact hown) rfl
        exact this.frame (n8.block _ (hown.lt g6 rfl).2 id)
       ·exact Nat.lt_of_lt_of_le (hown.lt g6 rfl).2 n8.size
     generalize hwx:w7.alloc (.cells #[.slice (some ⟨g5,0,none⟩) l.length c5,.slice (some ⟨g6,0,none⟩) (l.length+1) c6] 25)=wx at hO
     have nx:Nw w1 wx:=hn7.trans (by rw [←hwx];exact (bU.refl _ _).alloc _)
     have Un:qF wx ν:=(A0.out.1.nw A1.out).nw nx
     have OQ:∀k,k<8→(ν (vB k)).block<wx.heap.size:=fun k hk=>Un.lt (by unfold vB;split <;> omega)
     have h0:(AU l 0)=(l.map tv).map eO:=rfl
     have hO1:=(hO.ex 0 (by decide)).2.1
     refine Calls.mono (Re E N 12 2 w7.heap.size 2 ⟨by omega,by omega⟩ ⟨by decide,by decide⟩ ⟨by omega,by omega⟩ ⟨by decide,by decide⟩ wx hO _ Un.sn OQ) ?_
     rintro e w' ⟨aP,g,c,p,p0,rfl,hY,hF,hact⟩
     obtain ⟨aW,hR⟩:=hY.run
     obtain ⟨m,hm,hst⟩:=ST.new (vals:=l.map tv) (E:=E) (N:=N) (W:=fun i=>Wk.new E i 2 N (AU l i)) hF hact ⟨by omega,by omega⟩ (by omega) (fun v hv=>by obtain ⟨x,-,rfl⟩:=List.mem_map.1 hv;exact OL x) (by rw [List.length_map];exact hlen) rfl rfl
     obtain ⟨BP,xJ⟩:=hR.pl
     obtain ⟨bp,hbp,-⟩:=xJ.cells (Xa hF ⟨by decide,by decide⟩ hact).1.dF
     exact ⟨aP,g,c,rfl,wx,aW,_,p,_,m,hR,nx,Un,hm,hst,hO1,(hO.ex 0 (by decide)).2.2,bp,hbp⟩
    go_region_held3 (fun w'=>w'.cell? ⟨w.heap.size,0,none⟩=some (.int .i64 a0)∧w'.cell? ⟨w.heap.size,1,none⟩=some (.int .i64 a1))
     (first | exact hS | exact hS9 | exact VG _ | exact VH _ _ hgrow2 | exact hS8 _ _ hgrow2 _ | assumption)
     (first
       | (refine tY rfl (.tmp 53) (.tmp 55) 25 rfl w1.heap.size 28 i0 (.agg #[.int .i64 0,.int .i64 0,.int .i64 0,.int .i64 0]) 4 32 Tryz.underlying25 hi hy0 hy1 hy2 rfl (by decide) _ _ _ rfl (VF _) _ 1 1 [.int .i64 2,.int .i64 0,.int .i64 0,.int .i64 0] rfl rfl (Rw _ _ _ _ _ _) (Cz _ _ _ _) hm1 hm2 (Mo _) ?_;intro v2 w7 hown2 hgrow2 KP;obtain ⟨g6,c6,rfl⟩:=zw hown2;have hg3:World.grownBy _ w7 u6.ownBlock:=hgrow2;have Y0:(Value.slice (some ⟨g6,0,none⟩) (l.length+1) c6).ownBlock=u6.ownBlock∨(Value.slice (some ⟨g6,0,none⟩) (l.length+1) c6).ownBlock=some (World.drew _).heap.size:=KP)
       | (go_at_call 9;(with_reducible refine (hcr _ _ _ _ hg3 hown2 Y0).mono ?_);intro ev w8 hp8;obtain ⟨aP,g,c8,rfl,VI⟩:=hp8;have hS9:w8.cell? ⟨w.heap.size,0,none⟩=some (.int .i64 a0)∧w8.cell? ⟨w.heap.size,1,none⟩=some (.int .i64 a1):=⟨VI.out.nw1.dD AC.out.1,VI.out.nw1.dD AC.out.2⟩))
    obtain ⟨wx,aW,AA,p,W,m,hR,hnx,Es,hm,hST,hOp,Y1,bp,rfl⟩:=VI.out.ex
    obtain ⟨⟨-,E1,E2⟩,⟨-,N1,-⟩,-,-,-,hlen⟩:=A4.out
    have VJ:=YW (vals:=l.map tv) (E:=(E:Int)) (N:=(N:Int)) ⟨by omega,by omega⟩ (by omega) (by rw [List.length_map];exact hlen)
    have OQ:∀k,k<8→(ν (vB k)).block<wx.heap.size:=fun k hk=>Es.lt (by unfold vB;split <;> omega)
    have hrest:=Rb (c:=c8) VJ hR hST (by omega) (by decide) Es.sn OQ
    have A6:Aside (Nw w wx∧mX wx g5 ((l.map tv).map eO)∧g5<wx.heap.size∧l.length≤12):=⟨A1.out.trans hnx,hOp,Y1,hlen⟩
    clear hR hnx Es hm hST hOp Y1 VI VJ OQ E1 E2 N1 hlen hS VG hwl hn6 VH hS8 hcr hS9 c20 c21 Mo VF hown2 hgrow2 KP hg3 Y0 hb
    go_wp2_with (first
      | (go_at_call 10;(with_reducible refine hrest.mono ?_);rintro ev w9 ⟨rfl,m3,p3,W3,kM,xK⟩;obtain ⟨hgood,hsaid⟩:=kM.end;obtain ⟨BP3,Kv⟩:=xK.pl;obtain ⟨b3,hb3,-,Rx⟩:=Kv.cells hgood;obtain rfl:bp=b3:=(by simpa using hb3);have hfw:=Oh Rx;have A7:Aside (((W3 1).said=(l.map tv).reverse.map (fun x=>(1,x)) ++ [(2,0)])∧jg wx w9 ⟨bp,0,none⟩ aW AA wx.heap.size g 2 p3 W3):=⟨hsaid,xK⟩;clear kM xK Kv hsaid hgood hrest Rx hb3)
      | (go_at_call 11;(with_reducible refine hfw.mono ?_);rintro ev w10 ⟨rfl,rfl⟩))
    clear hfw
    obtain ⟨hsaid,xK⟩:=A7.out
    obtain ⟨B9,hW9⟩:=xK.wk (i:=1) (by decide)
    obtain ⟨gs,cs,hsl,hse⟩:=hW9.Zq (by rw [hsaid];simp)
    rw [hsaid] at hse
    have Y2:w10.cell? ⟨aW 1,4,none⟩=some (.slice (some ⟨gs,0,none⟩) (l.length+1) cs):=by
     rw [hsl,hsaid]
     simp
    have hrow:=xK.row 1 (by decide)
    have hin:∀q,q<l.length→w10.cell? ⟨g5,q * 4+2,none⟩=some (.int .i64 (tv (l.getD q 0))):=fun q hq=>by
     obtain ⟨-,z2,z3,-⟩:=A6.out
     have:=(z2.ex q (eO (tv (l.getD q 0))) (by rw [List.getElem?_map,List.getElem?_map,List.getElem?_eq_getElem hq,List.getD_eq_getElem?_getD,List.getElem?_eq_getElem hq];rfl)).2.2.1
     rw [Nat.mul_comm] at this
     exact xK.nw.dD this
    have A8:Aside ((∀q,q<l.length→w10.cell? ⟨g5,q * 4+2,none⟩=some (.int .i64 (tv (l.getD q 0))))∧(∀i x,((l.map tv).reverse.map (fun x=>((1:Int),x)) ++ [((2:Int),(0:Int))])[i]?=some x→w10.cell? ⟨gs,i * 2,none⟩=some (.int .i64 x.1)∧w10.cell? ⟨gs,i * 2+1,none⟩=some (.int .i64 x.2))∧Nw w w10):=⟨hin,hse,A6.out.1.trans xK.nw⟩
    clear hsaid xK hW9 hsl hse hin A7
    go_loopg [10] l.length (fun kk i wy=>∃k:Nat,i=.int .i64 k∧k+kk=l.length∧Aside (Nw w10 wy))
    case atStart=>exact ⟨0,rfl,by omega,bU.refl _ _⟩
    case round =>
     rename World=>wy
     obtain ⟨k,rfl,hkk,hN⟩:=hrel
     replace hrow:=hN.out.dD hrow
     replace Y2:=hN.out.dD Y2
     by_cases hkl:k<l.length
     ·obtain ⟨n1,hn1⟩:∃n1,n1+1=l.length:=⟨l.length-1,by omega⟩
      obtain ⟨q,hq⟩:∃q,q+k=n1:=⟨n1-k,by omega⟩
      have hk1:(k:Int)<(l.length:Int):=by omega
      have hk0:(0:Int)≤(k:Int):=by omega
      have e1:IntKind.i64.wrap ((l.length:Int)-1)=(n1:Int):=by simp only [IntKind.wrap_i64];omega
      have e2:IntKind.i64.wrap ((n1:Int)-(k:Int))=(q:Int):=by simp only [IntKind.wrap_i64];omega
      have hq1:(q:Int)<(l.length:Int):=by omega
      have hq0:(0:Int)≤(q:Int):=by omega
      have hkn:(k:Int)<(l.length:Int)+1:=by omega
      obtain ⟨z1,z2,-⟩:=A8.out
      obtain ⟨x,hx⟩:∃x,x=tv (l.getD q 0):=⟨_,rfl⟩
      have hi:=z1 q (by omega)
      rw [←hx] at hi
      replace hi:=hN.out.dD hi
      obtain ⟨c1,c2⟩:=z2 k (1,x) (by
        rw [List.getElem?_append_left (by simpa using hkl),List.getElem?_map,List.getElem?_reverse (by simpa using hkl),List.getElem?_map,List.length_map,show l.length-1-k=q by omega,List.getElem?_eq_getElem (by omega:q<l.length),hx,List.getD_eq_getElem?_getD,List.getElem?_eq_getElem (by omega:q<l.length)]
        rfl)
      replace c1:=hN.out.dD c1
      replace c2:=hN.out.dD c2
      have A9:Aside (k<l.length∧k+gk=l.length):=⟨hkl,hkk⟩
      clear hx z1 z2 hn1 hq hkl hkk
      go_wp2_with fail
      go_quiet (fail)
      go_wp2_with fail
      go_roundg (gk-1)
      case measure=>have:=A9.out;omega
      case rel=>exact ⟨k+1,by go_num,by have:=A9.out;omega,Nw.drewN hN.out _⟩
     ·have hk1:¬(k:Int)<(l.length:Int):=by omega
      obtain rfl:k=l.length:=by omega
      obtain ⟨-,z2,hnw⟩:=A8.out
      obtain ⟨c1,c2⟩:=z2 l.length (2,0) (by rw [List.getElem?_append_right (by simp)];simp)
      have hkn:(l.length:Int)<(l.length:Int)+1:=by omega
      have hk0:(0:Int)≤(l.length:Int):=by omega
      replace c1:=hN.out.dD c1
      replace c2:=hN.out.dD c2
      clear z2
      go_wp2_with fail
      go_ret
      exact ⟨rfl,hnw.trans hN.out⟩
theorem Ry:bf Tryz.prog (gU 36 nL 3 (KC 2)) (yX (KC 2)) (wH nL (KC 2)) :=
 aaW ⟨_,Tryz.func3,by kernel_rfl,by kernel_rfl⟩ OP
end Go.Proofs.YthomdlajobnmnaaGreatDoor
