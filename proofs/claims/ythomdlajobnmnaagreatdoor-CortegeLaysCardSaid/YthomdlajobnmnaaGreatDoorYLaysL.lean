/- 'CortegeLays' -/
import Derived.Test.YthomdlajobnmnaaGreatDoorL27
import Derived.Test.YthomdlajobnmnaaGreatDoorL32
set_option linter.unusedSimpArgs false
set_option linter.unusedVariables false
namespace Go.Proofs.YthomdlajobnmnaaGreatDoor.Cq
open Go.RowKit Go.Rex
theorem aaj (a k:Int) (h0:0<k) (h1:k≤1000):∃n:Nat,wrap64 ((IntKind.u64.wrap a).tmod k)=(n:Int)∧(n:Int)<k:=by
 have h:=tmP (IntKind.u64.wrap a) k h0 (wrP a)
 rw [w64 (by omega) (by omega)]
 exact ⟨((IntKind.u64.wrap a).tmod k).toNat,by omega,by omega⟩
def o6:Obj:=.cells #[.int .i64 5,.int .i64 0,.int .i64 0,.int .i64 0,.int .i64 4,.int .i64 0,.int .i64 3,.int .i64 0,.int .i64 5,.int .i64 0,.int .i64 0,.int .i64 0] 28 (0,0)
theorem ZP {w:World} {a:Nat} (h:w.heap[a]?=some o6):lq w a xV:=by
 have hc:∀i,w.cell? ⟨a,i,none⟩=(match o6 with | .cells cs _ _=>cs[i]? | _=>none):=fun i=>by
  unfold World.cell?
  rw [h]
  rfl
 refine ⟨fun i o hi=>?_⟩
 simp only [hc]
 match i,hi with
 | 0,hi=>cases hi;exact ⟨rfl,rfl,rfl,rfl⟩
 | 1,hi=>cases hi;exact ⟨rfl,rfl,rfl,rfl⟩
 | 2,hi=>cases hi;exact ⟨rfl,rfl,rfl,rfl⟩
 | i+3,hi=>cases hi
theorem aO.aak {w:World} {b base A:Nat} {k:Wk} {B:Nat→Prop} (h:aO w b base A k B) (hs:k.said=[(2,0),(4,0),(2,0)]):∃gs cs,w.cell? ⟨b,4,none⟩=some (.slice (some ⟨gs,0,none⟩) 3 cs)∧(w.cell? ⟨gs,0,none⟩=some (.int .i64 2)∧w.cell? ⟨gs,1,none⟩=some (.int .i64 0))∧(w.cell? ⟨gs,2,none⟩=some (.int .i64 4)∧w.cell? ⟨gs,3,none⟩=some (.int .i64 0))∧(w.cell? ⟨gs,4,none⟩=some (.int .i64 2)∧w.cell? ⟨gs,5,none⟩=some (.int .i64 0)):=by
 obtain ⟨aR,jv,sv,c,BR,BJ,h1,h2,h3,h4,h5,-⟩:=h.ex
 have KU:w.cell? ⟨b,4,none⟩=some sv:=by
  unfold World.cell?
  rw [h1]
  rfl
 rw [hs] at h5
 have h5':=h5
 obtain ⟨-,⟨-,h6⟩ | ⟨g,cap,cur,rfl,-⟩⟩:=h5'
 ·cases h6
 ·have hc:∀j x,(lQ [(2,0),(4,0),(2,0)])[j]?=some x→w.cell? ⟨g,j,none⟩=some x:=fun j x hx=>by
   have:=h5.cells (g:=g) rfl j x hx
   rw [←this]
   congr 1
   unfold Addr.add
   split
   ·rename_i h;subst h;rfl
   ·simp
  exact ⟨g,cap,KU,⟨hc 0 _ rfl,hc 1 _ rfl⟩,⟨hc 2 _ rfl,hc 3 _ rfl⟩,hc 4 _ rfl,hc 5 _ rfl⟩
theorem Sg {k:Nat} (hk:k<8):vS k<16:=by unfold vS;split <;> omega
set_option maxHeartbeats 3000000 in
set_option maxRecDepth 100000 in
theorem Si (w:World) (ν:Nat→Addr) (a0 a1:Int) (hs:qF w ν) :
  Calls Tryz.prog 5 #[.int .i64 a0,.int .i64 a1] w fun e w'=>e=.returned (.bool true)∧Nw w w':=by
 have ha:=LG hs
 obtain ⟨n,n0,n1⟩:=aaj a0 5 (by decide) (by decide)
 have A0:Aside (qF w ν):=hs
 have hcl:=EO
 have hn:0≤(n:Int)∧(n:Int)≤1024:=by omega
 have hnew:=xM (n:Int) hn
 clear hs
 by_cases hz:n=0
 ·subst hz
  replace hnew:=xM 0 ⟨by decide,by decide⟩
  go_enter Tryz.func5,Tryz.ntmps5
  go_wp2_with (first
    | (go_at_call 15;(with_reducible refine ha.mono ?_);rintro ev w1 ⟨rfl,hw1⟩)
    | (go_at_call 17;(with_reducible refine (hcl _).mono ?_);rintro ev w2 ⟨rfl,rfl⟩)
    | (go_at_call 16;(with_reducible refine (hnew _).mono ?_);intro ev w3 hp3;obtain ⟨aP,p0,B,rfl,lD,hF,hB,hw3⟩:=hp3))
  have hact:p0.act ⟨4,0,0,0,Wd.zero,Wd.zero⟩=({p0 with steps:=p0.steps+1},some Rp.no):=by
   have h:=AZ (p:=p0) (s:=0) (g:=0) (f:=0) (o:=Wd.zero) (w:=Wd.zero)
   have e:PS.alloc {p0 with steps:=p0.steps+1} Wd.zero.num=({p0 with steps:=p0.steps+1},Rp.no):=by
    unfold PS.alloc
    rw [if_pos (show p0.nf=0 from hF.nf)]
   rw [e] at h
   exact h
  have n3:Nw w w3:=hw1.trans hw3
  have hs3:=A0.out.nw n3
  obtain ⟨y,hy,ZQ⟩:=hs3.full
  have hlt:∀k,k<8→(ν (vS k)).block<w.heap.size:=fun k hk=>A0.out.lt (Sg hk)
  have hl:=UW hs3.sn lD (fun k hk hb=>absurd (hB _ hb) (Nat.not_le.2 (Nat.lt_of_lt_of_le (hlt k hk) hw1.size))) (hF.ok ⟨by decide,by decide⟩ ⟨by decide,by decide⟩) (by rw [hF.steps];decide) hact hy (fun hb=>absurd (hB _ hb) (Nat.not_le.2 (by rw [←ZQ];exact Nat.lt_of_lt_of_le (A0.out.lt (by decide)) hw1.size)))
  have A1:Aside (Nw w w3∧(∀b,B b→w.heap.size≤b)∧p0.dD=true∧p0.nb=85∧p0.bd 0=Wd.zero):=⟨n3,fun b hb=>Nat.le_trans hw1.size (hB b hb),hF.dD,hF.nb,hF.bd 0⟩
  clear hs3 hy ZQ n3 hF hB hw3 lD hact ha hw1 hnew hcl
  go_wp2_with (first
    | (go_at_call 18;(with_reducible refine hl.mono ?_);intro ev w4 zZ;obtain ⟨⟨a4,rfl⟩,B4,Gh,hB4,hw4⟩:=zZ))
  have n4:Nw w w4:=vQ A1.out.1 hw4 A1.out.2.1
  have hs4:=A0.out.nw n4
  have hit:=XH hs4.sn (fun k hk=>Nat.lt_of_lt_of_le (hlt k hk) n4.size) Gh A1.out.2.2.1 A1.out.2.2.2.1 A1.out.2.2.2.2
  have A2:Aside (Nw w w4):=n4
  clear n4 hs4 Gh hB4 hw4 hl
  go_wp2_with (first
    | (go_at_call 19;(with_reducible refine hit.mono ?_);rintro ev w5 ⟨rfl,gM⟩;have Pp:=Bw (A0.out.nw (A2.out.trans gM));have A3:Aside (Nw w w5):=A2.out.trans gM;clear gM)
    | (go_at_call 19;(with_reducible refine Pp.mono ?_);rintro ev w6 ⟨a6,rfl,BA⟩;have hLN:=Rz (A0.out.nw (A3.out.trans BA));have A4:Aside (Nw w w6):=A3.out.trans BA;clear BA)
    | (go_at_call 18;(with_reducible refine hLN.mono ?_);rintro ev w7 ⟨a7,rfl,hw7⟩;have A5:Aside (Nw w w7):=A4.out.trans hw7;clear hw7))
  go_ret
  exact ⟨rfl,A5.out⟩
 ·have hn1:1≤n:=by omega
  have hnz:¬(n:Int)=0:=by omega
  obtain ⟨E,e0,e1,e2⟩:=aai a1 5 (by decide) (by decide)
  have AE:Aside ((wrap64 (1+wrap64 ((IntKind.u64.wrap a1).tmod 5))=(E:Int))∧1≤(E:Int)∧(E:Int)≤5):=⟨e0,by omega,e2⟩
  clear e0 e1 e2
  go_enter Tryz.func5,Tryz.ntmps5
  go_wp2_with (first
    | (go_at_call 15;(with_reducible refine ha.mono ?_);rintro ev w1 ⟨rfl,hw1⟩)
    | (go_at_call 17;(with_reducible refine (hcl _).mono ?_);rintro ev w2 ⟨rfl,rfl⟩)
    | (go_at_call 16;(with_reducible refine (hnew _).mono ?_);intro ev w3 hp3;obtain ⟨aP,p0,B,rfl,lD,hF,hB,hw3⟩:=hp3))
  obtain ⟨q1,q2,q3,⟨x1,x2,x3⟩,ho,⟨t1,t2,t3⟩,z1,z2,z3,z4,z5,z6,z7,z8⟩:=aad hF ⟨by omega,by omega⟩
  have n3:Nw w w3:=hw1.trans hw3
  have hs3:=A0.out.nw n3
  have hlt:∀k,k<8→(ν (vS k)).block<w.heap.size:=fun k hk=>A0.out.lt (Sg hk)
  have hl:=RX hs3.sn lD (fun k hk hb=>absurd (hB _ hb) (Nat.not_le.2 (Nat.lt_of_lt_of_le (hlt k hk) hw1.size))) (fun k hk=>Nat.lt_of_lt_of_le (hlt k hk) n3.size) ho ⟨by omega,by omega,by omega⟩ x1 x2 x3
  have A1:Aside ((Nw w w3∧∀b,B b→w.heap.size≤b)∧q3.dD=true∧q3.nb=85∧q3.bd 0=⟨1,1,0,0,false⟩∧q3.pW 1 1∧(∀i k,q3.cell i k=Wd.zero)∧q3.OK∧q3.ns=(n:Int)∧q3.nf=(n:Int)-1):=⟨⟨n3,fun b hb=>Nat.le_trans hw1.size (hB b hb)⟩,z1,z2,z3,z4,z5,z6,z7,z8⟩
  clear hs3 n3 hF hB hw3 lD ha hw1 hnew x1 x2 x3 ho t1 t2 t3 z1 z2 z3 z4 z5 z6 z7 z8 hcl
  go_wp2_with (first
    | (go_at_call 18;(with_reducible refine hl.mono ?_);intro ev w4 zZ;obtain ⟨rfl,B4,Gh,hB4,hw4⟩:=zZ))
  obtain ⟨⟨n3,hBw⟩,z1,z2,z3,z4,z5,z6,z7,z8⟩:=A1.out
  have n4:Nw w w4:=vQ n3 hw4 hBw
  have hs4:=A0.out.nw n4
  have hit:=XI hs4.sn (fun k hk=>Nat.lt_of_lt_of_le (hlt k hk) n4.size) Gh z1 z2 z3 z4 z5 z6
  have hlv:∀wx,Nw w4 wx→Calls Tryz.prog 20 #[.pointer (some aP)] wx fun ev w'=>ev=.returned (.int .i64 1)∧Nw wx w':=fun wx hn=>by
   have:=Xl ((Gh.mono (B':=fun b=>b<w4.heap.size) fun _ _ h=>h).frame fun x hx=>hn.block x hx id) z6 (by omega)
   rw [show q3.ns-q3.nf=1 by omega] at this
   exact this
  have A2:Aside (Nw w w4):=n4
  have hE0:=AE.out.1
  clear n4 hs4 Gh hB4 hw4 hl z1 z2 z3 z4 z5 z6 z7 z8 n3 hBw
  go_wp2_with (first
    | (go_at_call 19;(with_reducible refine hit.mono ?_);rintro ev w5 ⟨⟨g5,c5,rfl⟩,gM⟩;have Pp:=Bw (A0.out.nw (A2.out.trans gM));have A3:Aside (Nw w4 w5):=gM;clear gM)
    | (go_at_call 19;(with_reducible refine Pp.mono ?_);rintro ev w6 ⟨a6,rfl,BA⟩;have n46:=A3.out.trans BA;clear BA)
    | (go_at_call 20;(with_reducible refine (hlv _ n46).mono ?_);rintro ev w7 ⟨rfl,hw7⟩;have A4:Aside (Nw w w7):=A2.out.trans (n46.trans hw7);clear hw7)
    | fail)
  have hO:Bd ((w7.alloc o6).alloc (.cells #[.slice (some ⟨w7.heap.size,0,none⟩) 3 3] 25)) (w7.heap.size+1) 1 (fun _=>w7.heap.size) (fun _=>xV):=by
   refine ⟨fun i hi=>?_⟩
   obtain rfl:i=0:=by omega
   have hz7:(w7.alloc o6).heap.size=w7.heap.size+1:=by simp
   have n8:Nw (w7.alloc o6) ((w7.alloc o6).alloc (.cells #[.slice (some ⟨w7.heap.size,0,none⟩) 3 3] 25)):=(bC.refl _ _).alloc _
   refine ⟨⟨3,?_⟩,(ZP (mD w7 o6)).frame (n8.block _ (by omega) id),?_⟩
   ·have:=mD (w7.alloc o6) (.cells #[.slice (some ⟨w7.heap.size,0,none⟩) 3 3] 25)
    rw [hz7] at this
    unfold World.cell?
    rw [this]
    rfl
   ·have:=n8.size
    omega
  have n7:Nw w ((w7.alloc o6).alloc (.cells #[.slice (some ⟨w7.heap.size,0,none⟩) 3 3] 25)):=(A4.out.alloc _).alloc _
  have hs7:=A0.out.nw n7
  have hy:=Sa E 1 1 1 (w7.heap.size+1) 1 AE.out.2 ⟨by decide,by decide⟩ ⟨by decide,by decide⟩ ⟨by decide,by decide⟩ _ hO _ hs7.sn (fun k hk=>Nat.lt_of_lt_of_le (hlt k hk) n7.size)
  have A6:Aside (Nw w ((w7.alloc o6).alloc (.cells #[.slice (some ⟨w7.heap.size,0,none⟩) 3 3] 25))):=n7
  unfold o6 at hy
  clear hO n7 hs7 hit Pp n46 hlv
  go_wp2_with (first
    | (go_at_call 21;(with_reducible refine hy.mono ?_);intro ev w8 hp8;obtain ⟨aQ,g,c8,p,rfl,hY,hL⟩:=hp8))
  obtain ⟨aW,hR⟩:=hY.run
  have hS:=SL.new (E:=(E:Int)) (N:=1) (W:=fun i=>Wk.new E i 1 1 xV) AE.out.2 (by decide) hL rfl
  have hrest:=R9 (c:=c8) ZO hR hS (by decide) (by decide) (A0.out.nw A6.out).sn (fun k hk=>Nat.lt_of_lt_of_le (hlt k hk) A6.out.size)
  clear hy hY hL hR hS hE0
  go_wp2_with (first
    | (go_at_call 22;(with_reducible refine hrest.mono ?_);rintro ev w9 ⟨rfl,m3,p3,W3,rY,Lm⟩;obtain ⟨B9,hW9⟩:=Lm.wk (i:=0) (by decide);obtain ⟨gs,cs,hsl,⟨s0,s1⟩,⟨s2,s3⟩,s4,s5⟩:=hW9.aak rY.end;have hrow:=Lm.row 0 (by decide);have A7:Aside (Nw w w9):=A6.out.trans Lm.nw;clear hW9 rY Lm hrest)
    | fail)
  go_ret
  exact ⟨rfl,A7.out⟩
theorem U7:aV Tryz.prog (iy 36 lT 5 [uy,uy]) (zB [uy,uy]) (xg lT [uy,uy]) :=
 abD ⟨_,Tryz.func5,by kernel_rfl,by kernel_rfl⟩ Si
end Go.Proofs.YthomdlajobnmnaaGreatDoor.Cq
