/- 'PileEmpty' -/
import Derived.Maps.AppendAt
import Derived.Test.YthomdlajobnmnaaGreatDoorV23
set_option linter.unusedSimpArgs false
set_option linter.unusedVariables false
namespace Go.Proofs.YthomdlajobnmnaaGreatDoor
open Go.RowKit Go.Rex
theorem Wi:(Tryz.prog.info? 25).map (fun i=>(i.zero,i.size,i.bytes))=some (some (.slice none 0 0),1,24):=by kernel_rfl
structure TH (w0 w:World) (j:Nat) (s:Value):Prop where
 ex:∃A:Nat→Nat,w.ownsRow w0.heap.size 25 1 s j ((List.range j).map fun i=>.slice (some ⟨A i,0,none⟩) 3 3)∧∀i,i<j→mV w (A i) gF∧w0.heap.size≤A i∧A i<w.heap.size∧s.ownBlock≠some (A i)
 nw:Nw w0 w
def Oq:Obj:=.cells #[.int .i64 2,.int .i64 0,.int .i64 0,.int .i64 0,.int .i64 3,.int .i64 0,.int .i64 0,.int .i64 0,.int .i64 2,.int .i64 0,.int .i64 0,.int .i64 0] 28 (0,0)
theorem Q5 {w:World} {a:Nat} (h:w.heap[a]?=some Oq):mV w a gF:=by
 have hc:∀i,w.cell? ⟨a,i,none⟩=(match Oq with | .cells cs _ _=>cs[i]? | _=>none):=fun i=>by
  unfold World.cell?
  rw [h]
  rfl
 refine ⟨fun i o hi=>?_⟩
 simp only [hc]
 match i,hi with
 | 0,hi=>cases hi;exact ⟨rfl,rfl,rfl,rfl⟩
 | 1,hi=>cases hi;exact ⟨rfl,rfl,rfl,rfl⟩
 | 2,hi=>cases hi;exact ⟨rfl,rfl,rfl,rfl⟩
 | i+3,hi=>cases hi
theorem iT.pl {w1 w:World} {aP:Addr} {aW A:Nat→Nat} {base g n:Nat} {p:PS} {W:Nat→Wk} (R:iT w1 w aP aW A base g n p W):∃BP,iK w aP p BP:=by
 obtain ⟨F,hC,-⟩:=R.cr
 obtain ⟨BP,BM,h1,-⟩:=hC.ex
 exact ⟨BP,h1⟩
theorem bD.YK {w:World} {b base A:Nat} {k:Wk} {B:Nat→Prop} (h:bD w b base A k B) (hs:k.said=[(2,0),(2,0),(2,0)]):∃gs cs,w.cell? ⟨b,4,none⟩=some (.slice (some ⟨gs,0,none⟩) 3 cs)∧∀i,i<3→w.cell? ⟨gs,i * 2,none⟩=some (.int .i64 2)∧w.cell? ⟨gs,i * 2+1,none⟩=some (.int .i64 0):=by
 obtain ⟨aR,jv,sv,c,BR,BJ,h1,h2,h3,h4,h5,-⟩:=h.ex
 have UO:w.cell? ⟨b,4,none⟩=some sv:=by
  unfold World.cell?
  rw [h1]
  rfl
 rw [hs] at h5
 have h5':=h5
 obtain ⟨-,⟨-,h6⟩ | ⟨g,cap,cur,rfl,-⟩⟩:=h5'
 ·cases h6
 ·have hc:∀j x,(mW [(2,0),(2,0),(2,0)])[j]?=some x→w.cell? ⟨g,j,none⟩=some x:=fun j x hx=>by
   have:=h5.cells (g:=g) rfl j x hx
   rw [←this]
   congr 1
   unfold Addr.add
   split
   ·rename_i h;subst h;rfl
   ·simp
  refine ⟨g,cap,UO,fun i hi=>?_⟩
  match i,hi with
  | 0,_=>exact ⟨hc 0 _ rfl,hc 1 _ rfl⟩
  | 1,_=>exact ⟨hc 2 _ rfl,hc 3 _ rfl⟩
  | 2,_=>exact ⟨hc 4 _ rfl,hc 5 _ rfl⟩
theorem KL {w:World} {ν:Nat→Addr} (h:sD w ν):Calls Tryz.prog 14 #[.pointer none] w fun e w'=>∃a,e=.returned (.tuple #[.slice none 0 0,.slice none 0 0,.iface 224 (.pointer (some a))])∧Nw w w':=by
 obtain ⟨⟨ρ,h1⟩,h2⟩:=h
 refine Calls.mono (Ol.run ρ ν w h1 h2 trivial) ?_
 rintro e w' ⟨ρ',aK,hA,rfl,gB,hwr,how,-⟩
 exact ⟨_,rfl,hwr.os,hwr.tape,hwr.output,hwr.size,fun k hk _=>hwr.block k hk fun h=>rX (by kernel_rfl) h⟩
set_option maxHeartbeats 3000000 in
set_option maxRecDepth 100000 in
theorem Ot (w:World) (ν:Nat→Addr) (a0 a1:Int) (v:Value) (l:List Int) (hs:sD w ν) (hv:Rd w v l) :
  Calls Tryz.prog 4 #[.int .i64 a0,.int .i64 a1,v] w fun e w'=>e=.returned (.bool true)∧Nw w w':=by
 obtain ⟨i0,hi,hy0,hy1,hy2⟩:=info_parts Wi
 have ha:=KI hs
 obtain ⟨A,c,rfl,hlc,hc,hA⟩:=hv
 obtain ⟨n,n0,n1,n2⟩:=U0 a1 6 (by decide) (by decide)
 obtain ⟨E,e0,e1,e2⟩:=U0 a0 5 (by decide) (by decide)
 have A0:Aside (sD w ν∧(l.length≤c∧c≤9223372036854775807)∧(∀k,k<l.length→∃ad,A=some ad∧w.cell? (ad.add k)=some (.int .i64 (l.getD k 0)))∧(1≤n∧n≤6)∧1≤(E:Int)∧(E:Int)≤5):=⟨hs,⟨hlc,hc⟩,hA,⟨by omega,by omega⟩,by omega,by omega⟩
 have AE:Aside (wrap64 (1+wrap64 ((IntKind.u64.wrap a0).tmod 5))=(E:Int)):=e0
 have hn6:n≤6:=by omega
 clear hs hlc hc hA n1 n2 e1 e2 e0
 go_enter Tryz.func4,Tryz.ntmps4
 go_wp2_with (go_at_call 8;(with_reducible refine ha.mono ?_);rintro ev w1 ⟨rfl,hw1⟩)
 have A1:Aside (Nw w w1):=hw1
 clear hw1 ha
 go_loopg [7,8] n (fun k s i wr=>∃j:Nat,i=.int .i64 j∧j+k=n∧Aside (TH w1 wr j s))
 case atStart =>
  refine ⟨0,rfl,by omega,⟨fun _=>0,⟨rfl,.inr ⟨w1.heap.size,0,#[],rfl,Nat.le_refl _,rZ _ _,Nat.le_refl _,Nat.zero_le _,rfl,rfl⟩⟩,fun i hi=>absurd hi (Nat.not_lt_zero _)⟩,(bX.refl _ _).alloc _⟩
 case round =>
  obtain ⟨j,rfl,hjk,hY⟩:=hrel
  by_cases hlt:j<n
  ·have hlt':(j:Int)<(n:Int):=by omega
   obtain ⟨⟨Ar,hown,hF⟩,hnw⟩:=hY.out
   generalize hxs:(List.range j).map (fun i=>Value.slice (some (⟨Ar i,0,none⟩:Addr)) 3 3)=xs at hown
   have A4:Aside ((List.range j).map (fun i=>Value.slice (some (⟨Ar i,0,none⟩:Addr)) 3 3)=xs∧(∀i,i<j→mV wr (Ar i) gF∧w1.heap.size≤Ar i∧Ar i<wr.heap.size∧u7.ownBlock≠some (Ar i))∧Nw w1 wr):=⟨hxs,hF,hnw⟩
   have hsz:=hnw.size
   clear hxs hF hnw hY
   go_wp2_with (first
     | (at_builtin;refine wpList_append_own_at _ rfl _ _ 33 rfl w1.heap.size 25 i0 (.slice none 0 0) 1 24 Tryz.underlying33 hi hy0 hy1 hy2 rfl (by decide) _ _ _ rfl ((hown.alloc _).alloc _) _ 1 1 [.slice (some ⟨wr.heap.size,0,none⟩) 3 3] rfl rfl ?c1 ?c2 ?c3 ?c4 ?c5 ?_)
     | fail)
   case c1 =>
    intro i u hi'
    match i,hi' with
    | 0,hi'=>simp at hi';subst hi';simp [Addr.add]
    | i+1,hi'=>simp at hi'
   case c2=>intro u hu;simp at hu;subst hu;rfl
   case c3=>unfold maxLen;omega
   case c4=>omega
   case c5 =>
    simp
    omega
   ·intro v' w6 hown' hgrow _ hat
    obtain ⟨q3,hF,hnw⟩:=A4.out
    have hlt:=hown.lt
    have xk:∀b,b<wr.heap.size+1→u7.ownBlock≠some b→w6.heap[b]?=(wr.alloc Oq).heap[b]?:=fun b hb hn=>by
     rw [hgrow.block b (by simp;omega) fun e=>hn e.symm]
     exact heap_alloc_old _ _ (by simp;omega)
    have hold:∀b,wr.heap.size≤b→u7.ownBlock≠some b:=fun b hb e=>absurd (hlt b e).2 (Nat.not_lt.2 hb)
    have h6:wr.heap.size+2≤w6.heap.size:=by
     have:=hgrow.size
     simp at this
     omega
    have hY:TH w1 w6 (j+1) v':=by
     refine ⟨⟨lS Ar j wr.heap.size,?_,fun i hi=>?_⟩,LW (hnw.alloc _ |>.alloc _) hgrow fun g hg=>(hlt g hg).1⟩
     ·have e:(List.range (j+1)).map (fun i=>Value.slice (some (⟨lS Ar j wr.heap.size i,0,none⟩:Addr)) 3 3)=xs ++ [.slice (some ⟨wr.heap.size,0,none⟩) 3 3]:=by
       rw [List.range_succ,List.map_append,List.map_cons,List.map_nil,dC,←q3]
       congr 1
       refine List.map_congr_left fun i hi=>?_
       rw [gq _ _ (Nat.ne_of_lt (List.mem_range.1 hi))]
      rw [e]
      exact hown'
     ·have Dk:∀b,b<wr.heap.size+2→u7.ownBlock≠some b→v'.ownBlock≠some b:=fun b h1 h2 h3=>by
       rcases hat with h | h
       ·exact h2 (h.symm.trans h3)
       ·rw [h,Option.some.injEq] at h3
        omega
      by_cases hij:i=j
      ·rw [hij,dC]
       refine ⟨Q5 ?_,hsz,by omega,Dk _ (by omega) (hold _ (Nat.le_refl _))⟩
       rw [xk _ (by omega) (hold _ (Nat.le_refl _))]
       exact rZ _ _
      ·rw [gq _ _ hij]
       obtain ⟨a1,a2,a3,a4⟩:=hF i (by omega)
       refine ⟨a1.frame ?_,a2,by omega,Dk _ (by omega) a4⟩
       rw [xk _ (by omega) a4]
       exact heap_alloc_old _ _ a3
    have A5:Aside (TH w1 w6 (j+1) v'):=hY
    clear hY h6 hold hlt xk hF hnw hown' hgrow hat hown
    go_wp2
    go_roundg (gk-1)
    case measure=>omega
    case rel=>exact ⟨j+1,by go_num,by omega,A5.out⟩
  ·have hlt':¬(j:Int)<(n:Int):=by omega
   obtain rfl:j=n:=by omega
   obtain ⟨gO,cO,rfl⟩:∃g c,u7=.slice (some ⟨g,0,none⟩) j c:=by
    obtain ⟨⟨Ar,hown,-⟩,-⟩:=hY.out
    obtain ⟨-,h2 | ⟨g,cap,cur,h2,-⟩⟩:=hown
    ·have:=A0.out.2.2.2.1
     omega
    ·exact ⟨g,cap,h2⟩
   obtain ⟨⟨Ar,hown,hF⟩,hnw⟩:=hY.out
   have hO:Af wr gO j Ar fun _=>gF:=⟨fun i hi=>⟨⟨3,by
     have hc:=hown.cells (g:=gO) rfl i (.slice (some ⟨Ar i,0,none⟩) 3 3) (by simp [hi])
     rw [show (gF.length:Nat)=3 from rfl,←hc]
     congr 1
     unfold Addr.add
     split
     · rename_i h;subst h;rfl
     · simp⟩,(hF i hi).1,(hF i hi).2.2.1⟩⟩
   have LZ:=(A0.out.1.nw A1.out).nw hnw
   have hsz:∀k,k<8→(ν (qa k)).block<wr.heap.size:=fun k hk=>LZ.lt (by unfold qa;split <;> omega)
   have hy:=QV E 2 3 j gO cO A0.out.2.2.2.2 A0.out.2.2.2.1 ⟨by decide,by decide⟩ ⟨by decide,by decide⟩ wr hO _ LZ.sn hsz
   have A2:Aside (Nw w wr∧sD wr ν):=⟨A1.out.trans hnw,LZ⟩
   have hE0:=AE.out
   clear hY hown hF hnw hO LZ hsz
   go_wp2_with (first
     | (go_at_call 9;(with_reducible refine hy.mono ?_);intro ev w2 hp2;obtain ⟨aP,g,c2,p,p0,rfl,hY,hF,hact⟩:=hp2))
   obtain ⟨aW,hR⟩:=hY.run
   obtain ⟨Ou,Kl⟩:=Wh hF ⟨by decide,by decide⟩ hact
   have hall:=TG (E:=E) (n:=j) Ou A0.out.2.2.2.2 A0.out.2.2.2.1
   obtain ⟨BP,vk⟩:=hR.pl
   obtain ⟨bp,rfl,-⟩:=vk.cells Ou.gL
   have A3:Aside (uu j p (fun i=>Wk.new E i j 2 gF)∧p.steps≤1∧iT wr w2 ⟨bp,0,none⟩ aW Ar wr.heap.size g j p (fun i=>Wk.new E i j 2 gF)):=⟨hall,Kl,hR⟩
   clear hy hY hF hact hR Ou Kl hall vk n0 hE0 hn6 hlt'
   go_loopg [11] 500 (fun k i wx=>∃t:Nat,i=.int .i64 t∧(t+k=500∧t≤l.length)∧Aside (∃p W,uu j p W∧p.steps≤1+(t:Int)∧iT wr wx ⟨bp,0,none⟩ aW Ar wr.heap.size g j p W))
   case atStart=>exact ⟨0,rfl,⟨by omega,by omega⟩,_,_,A3.out.1,A3.out.2.1,A3.out.2.2⟩
   case round =>
    rename World=>wx
    obtain ⟨t,rfl,htk,hR⟩:=hrel
    obtain ⟨p1,W1,hall,Kl,xH⟩:=hR.out
    clear hR
    by_cases hlt:t<l.length∧t<500
    ·obtain ⟨ad,rfl,hcell⟩:=A0.out.2.2.1 t hlt.1
     replace hcell:=(A2.out.1.trans xH.nw).gY hcell
     obtain ⟨x,hx⟩:∃x,x=l.getD t 0:=⟨_,rfl⟩
     rw [←hx] at hcell
     obtain ⟨q,hq,Ma⟩:=YJ x j A0.out.2.2.2.1
     have hrow:wx.cell? ⟨g,(wrap64 ((IntKind.u64.wrap x).tmod (IntKind.u64.wrap (j:Int)))).toNat,none⟩=some (.pointer (some ⟨aW q,0,none⟩)):=by
      rw [hq]
      exact xH.row q Ma
     have hq0:0≤wrap64 ((IntKind.u64.wrap x).tmod (IntKind.u64.wrap (j:Int))):=by omega
     have hq1:wrap64 ((IntKind.u64.wrap x).tmod (IntKind.u64.wrap (j:Int)))<(j:Int):=by omega
     have hdz:¬IntKind.u64.wrap (j:Int)=0:=by have:=A0.out.2.2.2.1;rw [Zv (x:=(j:Int)) (by omega) (by omega)];omega
     obtain ⟨lq,tq,Zw⟩:=hall.pe q Ma
     obtain ⟨i1,i2,i3⟩:=Ee Zw hall.bare
     have hsz:∀k,k<8→(ν (qa k)).block<wr.heap.size:=fun k hk=>A2.out.2.lt (by unfold qa;split <;> omega)
     have hst:=xH.step Ma QZ i1 A2.out.2.sn hsz i2 (by omega) i3
     obtain ⟨n1,n2⟩:=hall.step Ma
     have A4:Aside (uu j ((W1 q).step p1).2.1 (lS W1 q ((W1 q).step p1).1)∧((W1 q).step p1).2.1.steps≤1+((t:Int)+1)):=⟨n1,by omega⟩
     have A5:Aside (x=l.getD t 0∧(wrap64 ((IntKind.u64.wrap x).tmod (IntKind.u64.wrap (j:Int)))=(q:Int)∧q<j)):=⟨hx,hq,Ma⟩
     have h1:(t:Int)<(l.length:Int):=by omega
     have h2:(t:Int)<500:=by omega
     clear hx hq Ma xH hall Kl Zw i1 i2 i3 hsz n1 n2 lq tq
     go_wp2_with (first
       | (go_at_call 12;(with_reducible refine hst.mono ?_);rintro ev w3 ⟨rfl,Gw⟩))
     go_roundg (gk-1)
     case measure=>omega
     case rel=>exact ⟨t+1,by go_num,⟨by omega,by omega⟩,_,_,A4.out.1,by have:=A4.out.2;push_cast;omega,Gw⟩
    ·have hsz:∀k,k<8→(ν (qa k)).block<wr.heap.size:=fun k hk=>A2.out.2.lt (by unfold qa;split <;> omega)
     have hrest:=QT (c:=c2) (Yk A0.out.2.2.2.1.2) xH (hall.start (by omega)) (by decide) A0.out.2.2.2.1.2 A2.out.2.sn hsz
     have hex:¬(t:Int)<(l.length:Int)∨((t:Int)<(l.length:Int)∧¬(t:Int)<500):=by omega
     clear xH hall Kl hsz hlt htk
     rcases hex with h1 | ⟨h1,h2⟩
     all_goals (
       go_wp2_with (first
         | (go_at_call 10;(with_reducible refine hrest.mono ?_);rintro ev w3 ⟨rfl,m3,p3,W3,qp,Gw⟩;have hbare:=qp.all.bare;obtain ⟨BP3,Kc⟩:=Gw.pl;obtain ⟨b3,hb3,Ov,Q6⟩:=Kc.cells hbare.gL;obtain rfl:bp=b3:=(by simpa using hb3);rw [hbare.made] at Ov;have hmw:=QA Ov;have hfw:=NN Q6;have A6:Aside (SE j j m3 p3 W3∧iT wr w3 ⟨bp,0,none⟩ aW Ar wr.heap.size g j p3 W3):=⟨qp,Gw⟩;clear qp Gw hbare Kc hb3 hrest Ov Q6)
         | (go_at_call 13;(with_reducible refine hmw.mono ?_);rintro ev w4 ⟨rfl,rfl⟩)
         | (go_at_call 11;(with_reducible refine hfw.mono ?_);rintro ev w5 ⟨rfl,rfl⟩))
       clear hmw hfw
       go_loopg [12] j (fun kk i wy=>∃k:Nat,i=.int .i64 k∧k+kk=j∧w5=wy)
       case atStart=>exact ⟨0,rfl,by omega,rfl⟩
       case round =>
         obtain ⟨k,rfl,hkk,rfl⟩:=hrel
         by_cases hkj:k<j
         · obtain ⟨B7,Zx⟩:=A6.out.2.wk hkj
           obtain ⟨gs,cs,hsc,hse⟩:=Zx.YK (A6.out.1.said hkj)
           have aa8:=A6.out.2.row k hkj
           have hk1:(k:Int)<(j:Int):=by omega
           have hk0:(0:Int)≤(k:Int):=by omega
           obtain ⟨QU,hgk⟩:∃x,x=gk:=⟨_,rfl⟩
           have A8:Aside (k+QU=j∧k<j):=⟨by omega,hkj⟩
           have A7:Aside (∀i,i<3→w5.cell? ⟨gs,i * 2,none⟩=some (.int .i64 2)∧w5.cell? ⟨gs,i * 2+1,none⟩=some (.int .i64 0)):=hse
           clear Zx hse
           go_wp2_with fail
           go_loopg [13] 3 (fun kk i wz=>∃q:Nat,i=.int .i64 q∧q+kk=3∧w5=wz)
           case atStart=>exact ⟨0,rfl,rfl,rfl⟩
           case round =>
             obtain ⟨q,rfl,hqk,rfl⟩:=hrel
             by_cases hq3:q<3
             · obtain ⟨z1,z2⟩:=A7.out q hq3
               have hq1:(q:Int)<3:=by omega
               have hq0:(0:Int)≤(q:Int):=by omega
               go_wp2_with fail
               go_roundg (gk-1)
               case measure=>omega
               case rel=>exact ⟨q+1,by go_num,by omega,rfl⟩
             · have hq1:¬(q:Int)<3:=by omega
               go_wp2_with fail
               go_roundg (QU-1)
               case measure=>have:=A8.out;omega
               case rel =>
                 have hk6:(k:Int)<6:=by have:=A0.out.2.2.2.1;omega
                 obtain ⟨x1,x2⟩:=A8.out
                 have hk0':(0:Int)≤(k:Int)+1:=by omega
                 have hk7:(k:Int)+1<9223372036854775808:=by omega
                 refine ⟨k+1,congrArg (Value.int .i64) ((w64 hk0' hk7).trans ?_),by omega,rfl⟩
                 exact (Int.natCast_add k 1).symm
         · have hk1:¬(k:Int)<(j:Int):=by omega
           obtain ⟨BP7,Yl⟩:=A6.out.2.pl
           have hsz:∀k,k<8→(ν (qa k)).block<wr.heap.size:=fun k hk=>A2.out.2.lt (by unfold qa;split <;> omega)
           have hIt:=NQ (A2.out.2.sn.nw hsz A6.out.2.nw) (fun k hk=>Nat.lt_of_lt_of_le (hsz k hk) A6.out.2.nw.size) Yl A6.out.1.all.bare
           clear Yl hsz
           go_wp2_with (first
             | (go_at_call 14;(with_reducible refine hIt.mono ?_);rintro ev w7 ⟨rfl,Zy⟩;have aae:=KL (A2.out.2.nw (A6.out.2.nw.trans Zy)))
             | (go_at_call 14;(with_reducible refine aae.mono ?_);rintro ev w8 ⟨a8,rfl,hn8⟩))
           go_ret
           exact ⟨rfl,A2.out.1.trans (A6.out.2.nw.trans (Zy.trans hn8))⟩)
theorem Q7:aY Tryz.prog (gQ 36 ma 4 [tV,tV,su]) (yT [tV,tV,su]) (wD ma [tV,tV,su]) :=
 aac ⟨_,Tryz.func4,by kernel_rfl,by kernel_rfl⟩ Ot
end Go.Proofs.YthomdlajobnmnaaGreatDoor
