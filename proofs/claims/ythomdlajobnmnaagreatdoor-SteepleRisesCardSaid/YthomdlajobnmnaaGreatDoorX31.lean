/- part 31 of the proof -/
import Derived.Maps.AppendAt
import Derived.Test.YthomdlajobnmnaaGreatDoorX12
import Derived.Test.YthomdlajobnmnaaGreatDoorX13
import Derived.Test.YthomdlajobnmnaaGreatDoorX14
import Derived.Test.YthomdlajobnmnaaGreatDoorX18
import Derived.Test.YthomdlajobnmnaaGreatDoorX24
import Derived.Test.YthomdlajobnmnaaGreatDoorX25
import Derived.Test.YthomdlajobnmnaaGreatDoorX26
import Derived.Test.YthomdlajobnmnaaGreatDoorX27
import Derived.Test.YthomdlajobnmnaaGreatDoorX28
import Derived.Test.YthomdlajobnmnaaGreatDoorX29
import Derived.Test.YthomdlajobnmnaaGreatDoorX30
import Derived.Test.YthomdlajobnmnaaGreatDoorX8
set_option linter.unusedSimpArgs false
set_option linter.unusedVariables false
namespace Go.Proofs.YthomdlajobnmnaaGreatDoor.Sk
open Go.RowKit Go.Rex
section
variable {I:Nat->Wk->Prop} {w:World} {b base A:Nat} {k:Wk} {a:Addr} {p:PS} {B d:Nat->Prop} {f:Nat->Addr}
set_option maxHeartbeats 40000000 in
set_option maxRecDepth 100000 in
theorem Wj (HI:Ce I) (hI:I 200 k) (hW:bV w b base A k B) (hP:kr w a p d) (hB:EF w A B d f) (hok:p.OK) (hst:p.steps<=1000000) (hbase:base<=w.heap.size)
  (hend:∀k',k.go 200=(k',none)->k'.r.step≠0/\∃p' x,p.act k'.r.acc=(p',some x)/\uM k'.r x/\(k'.r.aB x).2=true) :
  Calls Tryz.prog 26 #[.pointer (some ⟨b,0,none⟩),.pointer (some a)] w λe w'=>e=.returned (.bool (k.step p).2.2)/\bO w w' b base A a B d (k.step p).1 (k.step p).2.1:=by
 have A0:Aside (I 200 k/\bO w w b base A a B d k p):=⟨hI,bO.of hW hP hB.d⟩
 clear hI hW hP
 go_enter Tryz.func26,Tryz.ntmps26
 go_wp2
 go_loopg [5] 200 (λkk i wr=>∃s:Nat,i=.int .i64 s/\s+kk=200/\Aside (∃k1,I kk k1/\k1.go kk=k.go 200/\bO w wr b base A a B d k1 p))
 case atStart=>exact ⟨0,rfl,rfl,k,A0.out.1,rfl,A0.out.2⟩
 case round =>
  obtain ⟨s,rfl,hsk,hR⟩:=hrel
  obtain ⟨k1,hI1,hgo,hW1⟩:=hR.out
  obtain ⟨rb,Zc,sv0,c0,hc0,-⟩:=hW1.cells
  have kZ:=hW1.busy hc0
  clear hR
  by_cases Kc:s<200
  ·have hsl:(s:Int)<200:=by omega
   by_cases hb0:k1.r.step=0
   ·obtain ⟨n,rfl⟩:∃n,gk=n+1:=⟨gk-1,by omega⟩
    rw [show (decide (k1.r.step≠0))=false by simp [hb0]] at kZ
    cases hj:k1.j with
    | none =>
     have q2:=hW1.We hj
     by_cases hi:k1.aj=true
     ·skip
      obtain ⟨b1,b2⟩:=HI.leave _ _ hI1 hb0 hj hi
      obtain ⟨-,-,-,-,-,-,-,q3,-,q5⟩:=hW1.cells
      rw [hi] at q3
      have q53:=q5 3
      have hWp:=hW1.put 3 (.bool false) k1.j false (λh=>by cases h) (λ_=>rfl) (λ_=>rfl) (λh=>absurd rfl h) (.inr rfl)
      obtain ⟨rb2,-,-,-,hc1,-⟩:=hWp.cells
      have hr:uL k1.r:=HI.rt _ _ hI1
      have EH:=hWp.begin hc1 hr hb0 (c:=Ca.of 2) (adb (by decide))
      rw [caV] at EH
      have A1:Aside (I n {k1 with aj:=false,r:=(k1.r.begin (Ca.of 2)).1}/\Wk.go n {k1 with aj:=false,r:=(k1.r.begin (Ca.of 2)).1}=k.go 200):=⟨b2,(abJ hb0 hj hi b1).trans hgo⟩
      clear hI1 hgo hW1 b1 b2 hWp q5 hr
      go_wp2_with (first
        | (go_at_call 36;(with_reducible refine kZ.mono ?_);rintro ev w1 ⟨rfl,rfl⟩)
        | (go_at_call 37;(with_reducible refine EH.mono ?_);intro ev w2 hp2;obtain ⟨rfl,hW2⟩:=hp2))
      go_roundg n
      case measure=>omega
      case rel=>exact ⟨s+1,by go_num,by omega,_,A1.out.1,A1.out.2,hW2⟩
     ·have hi':k1.aj=false:=by simpa using hi
      by_cases hl:k1.said.length>=k1.ops.length
      ·skip
       obtain ⟨-,-,-,⟨⟨ad,c⟩,hcc⟩,-,q1,-,q3,-,-⟩:=hW1.cells
       replace q1:wr.cell? ⟨b,1,none⟩=some (.slice ad k1.ops.length c):=q1
       clear hcc
       obtain ⟨aS,cS,q4⟩:=hW1.said
       rw [hi'] at q3
       have hge:(k1.ops.length:Int)<=(k1.said.length:Int):=by omega
       have A1:Aside (bO w wr b base A a B d k1 p/\k1.go (n+1)=k.go 200):=⟨hW1,hgo⟩
       clear hI1 hgo hW1
       go_wp2_with (first
         | (go_at_call 36;(with_reducible refine kZ.mono ?_);rintro ev w1 ⟨rfl,rfl⟩))
       go_quiet (fail)
       go_wp2
       go_ret
       have hstep:k.step p=(k1,p,false):=by
        have hgo:=(afh (n:=n) hb0 hj hi' hl).symm.trans A1.out.2
        unfold Wk.step
        rw [<-hgo]
       rw [hstep]
       exact ⟨rfl,A1.out.1.nw (Nw.drewN (cK.refl _ _) _)⟩
      ·have hsn:oz wr f:=by
        obtain ⟨B1,Gc,-,-,-,-,-,h6⟩:=hW1.ex
        exact hB.sn.frame h6.size λj hj=>h6.block _ (hB.z j hj).2.2 λq=>q.elim (hB.z j hj).2.1 (hB.z j hj).1
       have hz:∀j,j<8->(f j).block<wr.heap.size:=λj hj=>Nat.lt_of_lt_of_le (hB.z j hj).2.2 hW1.ge
       by_cases hg0:(k1.ops.getD k1.said.length ⟨0,0,0,0⟩).bP
       ·(apply anW <;> (try assumption)) <;> assumption
       ·(apply an1 <;> (try assumption)) <;> assumption
    | some j=>(apply anX <;> (try assumption)) <;> assumption
   ·rw [show (decide (k1.r.step≠0))=true by simp [hb0]] at kZ
    have hsl2:k1.go gk=(k1,none):=afg hb0
    apply aly <;> assumption
  ·have hsl:¬(s:Int)<200:=by omega
   have hsl2:k1.go gk=(k1,none):=by
    obtain rfl:gk=0:=by omega
    rfl
   apply alz <;> assumption
end
structure sJ (w1 w:World) (aP:Addr) (aW A:Nat->Nat) (base g n:Nat) (p:PS) (W:Nat->Wk):Prop where
 cr:∃F:Nat->Prop,pE w aP aW A base n p W F/\∀b,F b->w1.heap.size<=b/\b≠g
 row:∀i,i<n->w.cell? ⟨g,i,none⟩=some (.pointer (some ⟨aW i,0,none⟩))
 nw:Nw w1 w
 hbase:base<=w.heap.size
section
variable {Z w w':World} {aP:Addr} {aW A:Nat->Nat} {base g n i:Nat} {p:PS} {W:Nat->Wk} {I:Nat->Wk->Prop} {dU:Nat->Addr}
theorem sJ.more (R:sJ Z w aP aW A base g n p W) (a:Nw w w'):sJ Z w' aP aW A base g n p W:=by
 obtain ⟨F,c,f⟩:=R.cr
 exact ⟨⟨F,c.frame (λb d _=>a.block b d id) a.size,f⟩,λi e=>a.iM (R.row i e),R.nw.trans a,Nat.le_trans R.hbase a.size⟩
theorem sJ.step (R:sJ Z w aP aW A base g n p W) (r:i<n) (G:Ce I) (L:I 200 (W i)) (O:oz Z dU) (l:∀j,j<8->(dU j).block<Z.heap.size) (s:p.OK) (o:p.steps<=1000000)
  (c:∀k',(W i).go 200=(k',none)->k'.r.step≠0/\∃p' x,p.act k'.r.acc=(p',some x)/\uM k'.r x/\(k'.r.aB x).2=true) :
  Calls Tryz.prog 26 #[.pointer (some ⟨aW i,0,none⟩),.pointer (some aP)] w λe w'=>e=.returned (.bool ((W i).step p).2.2)/\sJ Z w' aP aW A base g n ((W i).step p).2.1 (bD W i ((W i).step p).1):=by
 obtain ⟨F,y,f⟩:=R.cr
 have t:¬F (A i):=by
  obtain ⟨z,Y,-,-,-,-,-,-,H⟩:=y.ex
  exact H i r
 obtain ⟨z,B,T,C,hd,N,u,h,cont⟩:=y.abD r
 have m:oz w dU:=O.frame R.nw.size λj a=>R.nw.block _ (l j a) id
 have V:EF w (A i) B z dU:=⟨hd,u,N,⟨λq=>t (h _ (.inl q)),C.self.2.2⟩,m,λj a=>⟨λq=>absurd (f _ (h _ (.inr q))).1 (Nat.not_le.2 (l j a)),λq=>absurd (f _ (h _ (.inl q))).1 (Nat.not_le.2 (l j a)),Nat.lt_of_lt_of_le (l j a) R.nw.size⟩⟩
 refine (Wj G L C T V s o R.hbase c).mono ?_
 rintro e w' ⟨U,J⟩
 obtain ⟨D,Q,M,g2,X,K,S,k⟩:=J.ex
 have E:g<w.heap.size:=World.block_lt_of_cell? _ _ (R.row i r)
 refine ⟨U,⟨_,cont w' _ _ Q D M g2 X K S k,λb d=>?_⟩,λj a=>?_,Yr R.nw k λx P=>(f x (h x P)).1,Nat.le_trans R.hbase k.size⟩
 ·rcases d with d | d
  ·exact f b d
  ·exact ⟨Nat.le_trans R.nw.size d,by omega⟩
 ·rw [<-R.row j a]
  exact Q4 (k.block g E λq=>(f g (h g q)).2 rfl) j
end
theorem ajr {α:Type} (f:Nat->α) (i:Nat):bD f i (f i)=f:=by
 funext k
 by_cases h:k=i
 ·rw [h,aG]
 ·rw [bR _ _ h]
theorem Wl (w:World):Calls Tryz.prog 17 #[] w λe w'=>e=.returned (.int .i64 85)/\w'=w:=by
 go_enter Tryz.func17,Tryz.ntmps17
 go_wp2
 go_ret
 exact ⟨rfl,rfl⟩
def xw:dJ:={f:=33,nv:=0,args:=[],hp:=[],iV:=0,ret:=.w (.agg [.int .i64 (.lit 0),.int .i64 (.lit 0),.int .i64 (.lit 24)]),hp':=[]}
noncomputable def ajs:Ex:={sched:=sched,loops:=[],cons:=[],fin:=xw}
theorem afk:exec tab ajs 1000 [] (bZ xw.f xw.nv [] xw.gl xw.hp xw.args)=.fin {lo:=0,ae:=0}:=by kernel_rfl
theorem afl:aK Tryz.prog xw (λ_=>True) (λ_=>True) :=
 bq bM (E:=ajs) (cs:=[]) rfl (λk pre post h=>by cases h) aO rfl afk (by kernel_rfl) (λb _ p a=>by cases a) (λb _=>Sat.fin trivial)
theorem abN (w:World):Calls Tryz.prog 33 #[] w λe w'=>e=.returned (.agg #[.int .i64 0,.int .i64 0,.int .i64 24])/\Nw w w':=by
 refine Calls.mono (afl.run (evI λ_=>0) (λ_=>⟨0,0,none⟩) w NN ⟨λg k _ h=>(by cases h),λg m k n _ _ h=>(by cases h)⟩ trivial) ?_
 rintro e w' ⟨i,l,o,rfl,f,a,d,-⟩
 exact ⟨rfl,a.os,a.tape,a.output,a.size,λk c _=>a.block k c λ⟨j,sb,b,_⟩=>by
   have b:([]:List SB)[j]?=some sb:=b
   simp at b⟩
def yn:Ac:=⟨2,0,0,24,⟨0,0,0,0,false⟩,⟨0,0,0,1,false⟩⟩
theorem M8 {p:PS} {m:Int} (h:vE p 85 m):∃p',p.act yn=(p',some ⟨Wd.zero,true⟩)/\p'={p with steps:=p.steps+1,bd:=λb=>if b=24 then ⟨0,0,0,1,false⟩ else p.bd b}:=by
 have a:p.has 0 0 24:=by simp [PS.has,h.nb]
 refine ⟨_,Eg a (.inl rfl),?_⟩
 unfold PS.put
 rw [if_pos rfl]
 rfl
theorem afm:(Tryz.prog.info? 70).map (λi=>(i.zero,i.size,i.bytes))=some (some (.pointer none),1,8):=by kernel_rfl
theorem ajt {w w':World} {base:Nat} {e:TypeId} {size:Nat} {v:Value} {n:Nat} {d:List Value} (h:w.ownsRow base e size v n d) (j:Nw w w'):w'.ownsRow base e size v n d:=by
 obtain ⟨c,a | ⟨g,cap,cur,a,i,b,f⟩⟩:=h
 ·exact ⟨c,.inl a⟩
 ·refine ⟨c,.inr ⟨g,cap,cur,a,i,?_,f⟩⟩
  rw [j.block g ?_ id]
  ·exact b
  ·rcases Nat.lt_or_ge g w.heap.size with h | h
   ·exact h
   ·rw [Array.getElem?_eq_none h] at b;cases b
theorem afn {b w w':World} {row:Option Nat} (h:Nw b w) (a:w.grownBy w' row) (d:∀g,row=some g->b.heap.size<=g):Nw b w' :=
 h.step a.os a.tape a.output a.size λk c _=>a.block k (Nat.lt_of_lt_of_le c h.size) λe=>by have:=d k e.symm;omega
structure vI (w:World) (gO:Addr) (n:Nat) (A:Nat->Nat) (L:Nat->List Op):Prop where
 ex:∀i,i<n->(∃c:Sl (A i) (L i).length,w.cell? (gO.add i)=some (.slice c.1.1 (L i).length c.1.2)/\pV w c.1.1 (L i))/\A i<w.heap.size
theorem vI.nw {w w':World} {b:Addr} {n:Nat} {A:Nat->Nat} {L:Nat->List Op} (h:vI w b n A L) (a:Nw w w'):vI w' b n A L :=
 ⟨λi g=>by
   obtain ⟨⟨c,f,e⟩,d⟩:=h.ex i g
   exact ⟨⟨c,a.iM f,e.frame (a.block _ d id)⟩,Nat.lt_of_lt_of_le d a.size⟩⟩
structure Ii (w0 w:World) (aP:Addr) (A:Nat->Nat) (L:Nat->List Op) (E N:Int) (n j:Nat) (p:PS) (s:Value):Prop where
 ex:∃aW F,pE w aP aW A w0.heap.size j p (λi=>Wk.new E i n N (L i)) F/\w.ownsRow w0.heap.size 70 1 s j ((List.range j).map λi=>.pointer (some ⟨aW i,0,none⟩))/\∀b,F b->w0.heap.size<=b/\b<w.heap.size/\s.ownBlock≠some b
 nw:Nw w0 w
section
variable {A:Nat->Nat} {L:Nat->List Op}
set_option maxHeartbeats 4000000 in
set_option maxRecDepth 100000 in
theorem Zh (E N m:Int) (n:Nat) (gO:Addr) (cO:Nat) (h1:1<=E/\E<=5) (h3:1<=n/\n<=6) (h4:1<=N/\N<=64) (h:0<=m/\m<=1024) (w:World) (hO:vI w gO n A L) (dU:Nat->Addr) (hs:oz w dU) (hz:∀k,k<8->(dU k).block<w.heap.size) :
  Calls Tryz.prog 25 #[.int .i64 E,.int .i64 N,.int .i64 m,.slice (some gO) n cO] w λe w'=>∃aP g c p p0,e=.returned (.tuple #[.pointer (some aP),.slice (some ⟨g,0,none⟩) n c])/\Ii w w' aP A L E N n n p (.slice (some ⟨g,0,none⟩) n c)/\vE p0 85 m/\p0.act yn=(p,some ⟨Wd.zero,true⟩):=by
 obtain ⟨i0,hi,hy0,hy1,hy2⟩:=info_parts afm
 have hc:=Wl w
 have hp:=Vy m h w
 have A0:Aside ((1<=E/\E<=5)/\(1<=n/\n<=6)/\(1<=N/\N<=64)/\(0<=m/\m<=1024)/\oz w dU/\∀k,k<8->(dU k).block<w.heap.size):=⟨h1,h3,h4,h,hs,hz⟩
 have AO:Aside (vI w gO n A L):=hO
 clear h1 h3 h4 h hs hz hO
 go_enter Tryz.func25,Tryz.ntmps25
 go_wp2_with (go_at_call 17;(with_reducible refine hc.mono ?_);rintro ev w1 ⟨rfl,rfl⟩)
 go_wp2_with (go_at_call 16;(with_reducible refine hp.mono ?_);intro ev w2 hp2;obtain ⟨aP,p0,B,rfl,eZ,hF,hB,hw⟩:=hp2)
 have he:=abN w2
 have A1:Aside (kr w2 aP p0 B/\vE p0 85 m/\(∀b,B b->w1.heap.size<=b)/\Nw w1 w2):=⟨eZ,hF,hB,hw⟩
 clear hp hc eZ hF hB hw
 go_wp2_with (go_at_call 33;(with_reducible refine he.mono ?_);rintro ev w3 ⟨rfl,hw3⟩)
 obtain ⟨eZ,hF,hB,hw⟩:=A1.out
 obtain ⟨h1,h3,h4,h,hs,hz⟩:=A0.out
 obtain ⟨p,hact,hp⟩:=M8 hF
 have Re:=(eZ.mono (B':=λb=>B b/\b<w2.heap.size) λb x y=>⟨x,y⟩).frame (w':=w3) λb hb=>hw3.block b hb.2 id
 have hd:=ac8 (a:=yn) (hs.nw hz (hw.trans hw3)) Re (λk hk hb=>absurd (hB _ hb.1) (Nat.not_le.2 (hz k hk))) (hF.ok h ⟨by decide,by decide⟩) (by rw [hF.steps];decide) hact
 rw [show rZ yn=.agg #[.int .i64 2,.int .i64 0,.int .i64 0,.int .i64 24,.int .i64 0,.int .i64 0,.int .i64 0,.int .i64 0,.bool false,.int .i64 0,.int .i64 0,.int .i64 0,.int .i64 1,.bool false] from rfl] at hd
 have A2:Aside ((vE p0 85 m/\p0.act yn=(p,some ⟨Wd.zero,true⟩))/\(∀b,B b->w1.heap.size<=b)/\Nw w1 w3):=⟨⟨hF,hact⟩,hB,hw.trans hw3⟩
 clear eZ hF hB hw h1 h3 h4 h hs hz hact hp Re hw3 A1 he
 go_wp2_with (go_at_call 32;(with_reducible refine hd.mono ?_);intro ev w4 Zf;obtain ⟨rfl,B',eZ,hB',hw4⟩:=Zf)
 have A3:Aside (kr w4 aP p B'/\(∀b,B' b->w1.heap.size<=b)/\Nw w1 w4):=by
  obtain ⟨-,q2,q3⟩:=A2.out
  refine ⟨eZ,λb hb=>?_,Yr q3 hw4 λx hx=>q2 x hx.1⟩
  rcases hB' b hb with h | h
  ·exact Nat.le_trans q3.size h
  ·exact q2 b h.1
 clear eZ hB' hw4 hd
 go_loopg [12,13] n (λk s i wr=>∃j:Nat,i=.int .i64 j/\j+k=n/\Aside (Ii w1 wr aP A L E N n j p s))
 case atStart =>
  obtain ⟨q1,q2,q3⟩:=A3.out
  have hn:Nw w4 (w4.alloc (.cells #[] 70)):=(cK.refl _ _).alloc _
  refine ⟨0,rfl,by omega,⟨λ_=>0,λb=>B' b/\b<w4.heap.size,pE.nil ((q1.mono (B':=λb=>B' b/\b<w4.heap.size) λb x y=>⟨x,y⟩).frame λb hb=>heap_alloc_old _ _ hb.2),⟨rfl,.inr ⟨w4.heap.size,0,#[],rfl,q3.size,Ie _ _,Nat.le_refl _,Nat.zero_le _,rfl,rfl⟩⟩,λb hb=>⟨q2 b hb.1,?_,λe=>?_⟩⟩,q3.alloc _⟩
  ·have:=hb.2
   simp
   omega
  ·have e:=Option.some.inj e
   have:=hb.2
   simp at e
   omega
 case round =>
  obtain ⟨j,rfl,hjk,hY⟩:=hrel
  rcases Nat.lt_or_ge j n with hlt | hge
  ·have hlt':(j:Int)<(n:Int):=by omega
   obtain ⟨⟨aW,F,Ij,hown,hF⟩,hnw⟩:=hY.out
   obtain ⟨⟨cL,hcO,adO⟩,an2⟩:=(AO.out.nw hnw).ex j hlt
   have AQ:Aside (pV wr cL.1.1 (L j)):=adO
   have hr:=Vz E j n N A0.out.1 ⟨by omega,by omega⟩ (by have:=A0.out.2.1;omega) A0.out.2.2.1 wr
   generalize hxs:(List.range j).map (λi=>Value.pointer (some (⟨aW i,0,none⟩:Addr)))=xs at hown
   have A4:Aside ((j+gk=n/\j<n/\(List.range j).map (λi=>Value.pointer (some (⟨aW i,0,none⟩:Addr)))=xs)/\pE wr aP aW A w1.heap.size j p (λi=>Wk.new E i n N (L i)) F/\(∀b,F b->w1.heap.size<=b/\b<wr.heap.size/\u12.ownBlock≠some b)/\Nw w1 wr):=⟨⟨hjk,hlt,hxs⟩,Ij,hF,hnw⟩
   have hsz:=hnw.size
   have hj6:j<6:=by have:=A0.out.2.1;omega
   clear hjk hlt hxs Ij hF hnw hY adO an2
   go_wp2_with (first
     | (go_at_call 34;(with_reducible refine hr.mono ?_);intro ev w5 hp5;obtain ⟨ρ,ν,rfl,hR,uD⟩:=hp5;have an3:=uD.iM hcO)
     | (at_builtin;refine wpList_append_own_at _ rfl _ _ 67 rfl w1.heap.size 70 i0 (.pointer none) 1 8 Tryz.underlying67 hi hy0 hy1 hy2 rfl (by decide) _ _ _ rfl (((ajt hown uD).alloc _).alloc _) _ 1 1 [.pointer (some ⟨w5.heap.size,0,none⟩)] rfl rfl ?c1 ?c2 ?c3 ?c4 ?c5 ?_)
     | fail)
   case c1 =>
    intro i u hi'
    match i,hi' with
    | 0,hi'=>simp at hi';subst hi';simp [Addr.add]
    | i+1,hi'=>simp at hi'
   case c2=>intro u hu;simp at hu;subst hu;rfl
   case c3=>unfold maxLen;omega
   case c4=>omega
   case c5 =>
    have:=uD.size
    simp
    omega
   ·intro v' w6 hown' hgrow _ hat
    obtain ⟨⟨q1,q2,q3⟩,Ij,hF,hnw⟩:=A4.out
    obtain ⟨CB,hR2,Rh,Ri⟩:=hR
    have hz5:=uD.size
    have Rj:∀b,b<w5.heap.size+1->u12.ownBlock≠some b->w6.heap[b]?=(w5.alloc (.cells #[.pointer (some (ν 0)),.slice cL.1.1 (L j).length cL.1.2,.pointer none,.bool false,.slice none 0 0] 123)).heap[b]?:=λb hb hn=>by
     rw [hgrow.block b (by simp;omega) λe=>hn e.symm]
     exact heap_alloc_old _ _ (by simp;omega)
    have hlt:=hown.lt
    have hold:∀b,wr.heap.size<=b->u12.ownBlock≠some b:=λb hb e=>absurd (hlt b e).2 (Nat.not_lt.2 hb)
    have h6:w5.heap.size+2<=w6.heap.size:=by
     have:=hgrow.size
     simp at this
     omega
    have hAO:=AO.out.ex
    have Ke:∀i,i<n->A i<w1.heap.size:=λi hi=>(hAO i hi).2
    have Mq:∀i,i<n->u12.ownBlock≠some (A i):=λi hi e=>by
     have:=(hlt _ e).1
     have:=Ke i hi
     omega
    have abO:∀i,i<n->w6.heap[A i]?=wr.heap[A i]?:=λi hi=>by
     have:=Ke i hi
     have hs:=hnw.size
     rw [Rj _ (by omega) (Mq i hi),heap_alloc_old _ _ (by omega)]
     exact uD.block _ (by omega) id
    have adP:pE w6 aP aW A w1.heap.size j p (λi=>Wk.new E i n N (L i)) F:=Ij.frame (λb hb Zi=>by
      rcases Zi with Zi | ⟨i,hi,rfl⟩
      · rw [Rj b (by omega) (hF b Zi).2.2,heap_alloc_old _ _ (by omega)]
        exact uD.block b hb id
      · exact abO i (by omega)) (by omega)
    have hR6:aD ρ ν dO w6:=CB.zN Bz λb hb=>by
     have h1:=Ri b hb
     have h2:=o7 CB hb
     rw [Rj b (by omega) (hold b h1),heap_alloc_old _ _ h2]
    have adQ:pV w6 cL.1.1 (L j):=AQ.out.frame (abO j q2)
    have hs1:=hnw.size
    have MX:=aff (base:=w1.heap.size) (A:=A j) (c:=cL) (l:=L j) hR6 hR2 Rh (λh=>absurd (o7 CB h) (Nat.lt_irrefl _)) (by have:=Ke j q2;omega) (by have:=Ke j q2;omega) (λh=>by have:=Ri _ h;have:=Ke j q2;omega) adQ (by
      rw [Rj _ (by omega) (hold _ hz5)]
      exact Ie _ _)
    have hadd:=adP.add MX (λb hb Zi=>by
      have h1:=(hF b Zi).2.1
      rcases hb with rfl | hb
      · omega
      · have:=Ri b hb
        omega) (λi hi hb=>by
      have:=Ke i (by omega)
      rcases hb with e | hb
      · omega
      · have:=Ri _ hb
        omega) (λhb=>by have:=(hF _ hb).1;have:=Ke j q2;omega) (λhb=>by
      have:=Ke j q2
      rcases hb with e | hb
      · omega
      · have:=Ri _ hb
        omega)
    have hY:Ii w1 w6 aP A L E N n (j+1) p v':=by
     refine ⟨⟨bD aW j w5.heap.size,_,cast (congrArg (λM=>pE w6 aP (bD aW j w5.heap.size) A w1.heap.size (j+1) p M _) ?_) hadd,?_,λb hb=>?_⟩,afn ((hnw.trans uD).alloc _ |>.alloc _) hgrow λg hg=>?_⟩
     ·exact ajr (λi:Nat=>Wk.new E i n N (L i)) j
     ·have e:(List.range (j+1)).map (λi=>Value.pointer (some (⟨bD aW j w5.heap.size i,0,none⟩:Addr)))=xs ++ [.pointer (some ⟨w5.heap.size,0,none⟩)]:=by
       rw [List.range_succ,List.map_append,List.map_cons,List.map_nil,aG,<-q3]
       congr 1
       refine List.map_congr_left λi hi=>?_
       rw [bR _ _ (Nat.ne_of_lt (List.mem_range.1 hi))]
      rw [e]
      exact hown'
     ·have Sq:b<w5.heap.size+2->u12.ownBlock≠some b->v'.ownBlock≠some b:=λh1 h2 h3=>by
       rcases hat with h | h
       ·exact h2 (h.symm.trans h3)
       ·rw [h,Option.some.injEq] at h3
        omega
      rcases hb with hb | rfl | hb
      ·obtain ⟨a1,a2,a3⟩:=hF b hb
       exact ⟨a1,by omega,Sq (by omega) a3⟩
      ·exact ⟨by omega,by omega,Sq (by omega) (hold _ hz5)⟩
      ·have a1:=Ri b hb
       have a2:=o7 CB hb
       exact ⟨by omega,by omega,Sq (by omega) (hold _ a1)⟩
     ·exact (hlt g hg).1
    have A5:Aside (Ii w1 w6 aP A L E N n (j+1) p v'):=hY
    clear hY hadd MX hR6 adP h6 hold hlt Rj hz5 CB hR2 Rh Ri Ij hF hnw hown' hgrow hat hown hr uD hAO Ke Mq abO adQ an3 hcO
    go_wp2
    go_roundg (gk-1)
    case measure=>omega
    case rel=>exact ⟨j+1,by go_num,by omega,A5.out⟩
  ·have hlt':¬(j:Int)<(n:Int):=by omega
   have hjn:j=n:=by omega
   subst hjn
   have A4:Aside (Ii w1 wr aP A L E N j j p u12):=hY.out
   obtain ⟨g,c,rfl⟩:∃g c,u12=.slice (some ⟨g,0,none⟩) j c:=by
    obtain ⟨⟨aM,F,-,hown,-⟩,-⟩:=hY.out
    obtain ⟨-,h2 | ⟨g,cap,cur,h2,-⟩⟩:=hown
    ·have:=A0.out.2.1
     omega
    ·exact ⟨g,cap,h2⟩
   clear hY
   go_wp2
   go_ret2
   obtain ⟨⟨q1,q2⟩,-⟩:=A2.out
   exact ⟨aP,g,c,rfl,p,A4.out,p0,q1,q2⟩
theorem Ii.run {w w':World} {j:Addr} {E N:Int} {n g c:Nat} {p:PS} (h:Ii w w' j A L E N n n p (.slice (some ⟨g,0,none⟩) n c)) :
  ∃f,sJ w w' j f A w.heap.size g n p (λi=>Wk.new E i n N (L i)):=by
 obtain ⟨⟨f,F,o,a,l⟩,d⟩:=h
 refine ⟨f,⟨F,o,λb k=>⟨(l b k).1,λe=>(l b k).2.2 (by rw [e];rfl)⟩⟩,λi m=>?_,d,d.size⟩
 have q:=a.cells (g:=g) rfl i (.pointer (some ⟨f i,0,none⟩)) (by simp [m])
 rw [<-q]
 congr 1
 unfold Addr.add
 split
 ·rename_i h;subst h;rfl
 ·simp
end
theorem alA {c p:PS} {m:Int} (h:vE c 85 m) (l:0<=m/\m<=1024) (f:c.act yn=(p,some ⟨Wd.zero,true⟩)):Nu p m/\p.wb 540000:=by
 obtain ⟨q,d,n⟩:=M8 h
 rw [f] at d
 simp only [Prod.mk.injEq] at d
 have a:p={c with steps:=c.steps+1,bd:=λb=>if b=24 then ⟨0,0,0,1,false⟩ else c.bd b}:=d.1.trans n
 have e:p.OK:=by
  have:=(h.ok l ⟨by decide,by decide⟩).act yn
  rw [f] at this
  exact this
 have g:Wb 540000 Wd.zero:=Wb.zero (by decide)
 refine ⟨⟨e,by rw [a];exact h.nb,by rw [a];exact h.ns,by rw [a];exact h.bP,by rw [a];rfl,λi o=>?_,λi=>by rw [a];exact h.gen i,λi=>by rw [a];exact h.used i,λi k=>by rw [a];exact h.cell i k,?_⟩,λi=>?_,λi j=>?_⟩
 ·rw [a]
  show (if i=24 then (⟨0,0,0,1,false⟩:Wd) else c.bd i)=Wd.zero
  rw [if_neg o]
  exact h.bd i
 ·rw [a]
  show c.steps+1<=1
  rw [h.steps]
  decide
 ·rw [a]
  show Wb 540000 (if i=24 then (⟨0,0,0,1,false⟩:Wd) else c.bd i)
  split
  ·exact ⟨by decide,by decide,by decide,by decide⟩
  ·rw [h.bd i];exact g
 ·rw [a]
  show Wb 540000 (c.cell i j)
  rw [h.cell i j]
  exact g
theorem ajv {a p:PS} {m E N:Int} {n:Nat} {L:Nat->List Op} (h:vE a 85 m) (d:0<=m/\m<=1024) (g:a.act yn=(p,some ⟨Wd.zero,true⟩)) (k:1<=n/\n<=6) (c:1<=E/\E<=5) (j:1<=N) (e:∀i,i<n->(L i).length<=12):Tw n E 540000 p (λi=>Wk.new E i n N (L i))/\p.ns=m:=by
 obtain ⟨b,f⟩:=alA h d g
 exact ⟨Tw.new b k c j e f λi l=>rfl,b.ns⟩
def xx:dJ:={f:=24,nv:=1,gl:=eG Ct 0,args:=[],hp:=mO 36 Ct 0,iV:=1,ret:=.w (.one (.bool (.lit true))),hp':=List.replicate 14 dS}
def Ik (b:SB):SB:={b with own:=false,ro:=true,cap:=none}
def Wm:List SB:=mX.map Ik
def iO:dJ:={aeH with hp:=oF ++ (DL 0 2 8).map Ik,nv:=15,args:=[.one (.ptr {ak:=8}),.agg [iv 12,iv 13,iv 14]],iV:=20,ret:=.iB [.agg (l6 15),.one (.bool (.lit true))]}
def kU:dJ:={f:=27,nv:=12,gl:=eG Ct 0,args:=[.one (.ptr {ak:=14})],hp:=mO 36 Ct 0 ++ (DL 0 2 14).map Ik,iV:=20,ret:=.iB [.one (.eu (.var 12) {ak:=19,i1:=.lit 0,s1:=2} (.var 13) (.var 14)),.one (.eu (.var 16) {ak:=20,i1:=.lit 0,s1:=5} (.var 17) (.var 18)),.one .dW],hp':=List.replicate 19 dS ++ [rW 126 [.int .i64,.int .i64] 12,rW 79 kW 16]}
def LIt:iX:={f:=27,p:=[1,1,1,1,1,0,1,0,0,1,1,0,0,1,1,1,0],xE:=[(5,.eu 126),(6,.eu 79),(11,.au)],kill:=[32,33,34,38,39,40,41,42,43,37,44,45,12,13,46,47,48,49,50,51,52,53,2,3,4,54,55,56,57,58,59,60,61,62,63,64,65,66,67,68,69,70,71,72,73,74,75,77,78,79,80,76,81,82,14,15,84,85,86,87,83,88,89,16,17,90,91,92,93,94,95,96,97,98,35,36],mem:=[9,7]}
noncomputable def pkE:Ex:={sched:=sched,loops:=[],cons:=[],fin:=iO,OU:=true}
def adS:Kn:=[(.ag (.var 12) (.lit 0),true),(.and (.and (.ag (.var 13) (.lit 0)) (.ah (.lit 0) (.var 14))) (.aY (.var 14) (.var 0)),true)]
def adT:Kn:=[(.ag (.var 12) (.lit 0),false)]
def ajw:Out :=
 .ob (.or (.not (.and (.ag (.var 13) y0) (.ah y0 (.var 14)))) (.ah y0 (.var 0))) <|
 .ob (.ah y0 (.var 14)) <|
 .ob (.aY (.var 14) (.var 0)) <|
 .fin {lo:=15,ae:=13,iv:=[(18,(.cell 8 (.var 14) y0 3)),(17,(.cell 8 (.var 14) y0 2)),(16,(.cell 8 (.var 14) y0 1)),(15,(.cell 8 (.var 14) y0 0))],bv:=[(19,(.cell 8 (.var 14) y0 4))]}
def ajx:Out :=
 .ob (.or (.not (.ah y1 (.var 12))) (.ah y0 (.var 1))) <|
 .br (.and (.and (.and (.ah y1 (.var 12)) (.ah (.var 12) (.var 1))) (.ah y0 (.var 14))) (.aY (.var 14) (.lit 10)))
 (.ob (.inr .i64 (.sub (.var 12) y1)) <|
  .ob (.ah y0 (.sub (.var 12) y1)) <|
  .ob (.aY (.sub (.var 12) y1) (.var 1)) <|
  .br (.not (.cell 9 (.sub (.var 12) y1) y0 1))
  (.bad 45)
  (.br (.not (.ag (.cell 9 (.sub (.var 12) y1) y0 0) (.var 13)))
   (.bad 45)
   (.fin {lo:=15,ae:=13,iv:=[(18,(.cell 10 (.sub (.var 12) y1) (.var 14) 3)),(17,(.cell 10 (.sub (.var 12) y1) (.var 14) 2)),(16,(.cell 10 (.sub (.var 12) y1) (.var 14) 1)),(15,(.cell 10 (.sub (.var 12) y1) (.var 14) 0))],bv:=[(19,(.cell 10 (.sub (.var 12) y1) (.var 14) 4))]})))
 (.bad 45)
theorem ajy:exec tab pkE 8000 [] (bZ iO.f iO.nv adS iO.gl iO.hp iO.args)=ajw:=by kernel_rfl
theorem ajz:exec tab pkE 8000 [] (bZ iO.f iO.nv adT iO.gl iO.hp iO.args)=ajx:=by kernel_rfl
def Rk (ρ:Env):Prop:=ρ.iv 12=0/\ρ.iv 13=0/\0<=ρ.iv 14/\ρ.iv 14<ρ.iv 0
def Rl (ρ:Env):Prop:=1<=ρ.iv 12/\ρ.iv 12<=1024/\ρ.iv 12<=ρ.iv 1/\(0<=ρ.iv 14/\ρ.iv 14<10)/\ρ.bc 9 (ρ.iv 12-1).toNat 0 1=true/\ρ.ic 9 (ρ.iv 12-1).toNat 0 0=ρ.iv 13
def yt (ρ:Env):Prop:=aC ρ 15=if ρ.iv 12=0 then bu (ρ.ic 8 (ρ.iv 14).toNat 0) (ρ.bc 8 (ρ.iv 14).toNat 0) else bu (ρ.ic 10 (ρ.iv 12-1).toNat (ρ.iv 14).toNat) (ρ.bc 10 (ρ.iv 12-1).toNat (ρ.iv 14).toNat)
theorem ajA:aK Tryz.prog iO Rk yt :=
 bq bM (E:=pkE) (cs:=[]) rfl (λk pre post h=>by cases h) aO rfl ajy (by kernel_rfl) (λa h p b=>by
   obtain ⟨c,d,f,e⟩:a.num.iv 12=0/\a.num.iv 13=0/\0<=a.num.iv 14/\a.num.iv 14<a.num.iv 0:=h
   simp only [adS,List.mem_cons,List.not_mem_nil,or_false] at b
   rcases b with rfl | rfl
   all_goals
     simp only [Da]
     omega) λa h=>by
  obtain ⟨c,d,f,e⟩:a.iv 12=0/\a.iv 13=0/\0<=a.iv 14/\a.iv 14<a.iv 0:=h
  unfold ajw
  exact oS (oS (oS (Sat.fin (Eq.trans rfl (if_pos c).symm))))
theorem ajB:aK Tryz.prog iO Rl yt :=
 bq bM (E:=pkE) (cs:=[]) rfl (λk pre post h=>by cases h) aO rfl ajz (by kernel_rfl) (λa h p d=>by
   have g:1<=a.iv 12:=h.1
   simp only [adT,List.mem_cons,List.not_mem_nil,or_false] at d
   rcases d with rfl
   exact beq_eq_false_iff_ne.2 (show a.iv 12≠0 by omega)) λa h=>by
  obtain ⟨g,e,j,⟨m,l⟩,i,f⟩:1<=a.iv 12/\a.iv 12<=1024/\a.iv 12<=a.iv 1/\(0<=a.iv 14/\a.iv 14<10)/\a.bc 9 (a.iv 12-1).toNat 0 1=true/\a.ic 9 (a.iv 12-1).toNat 0 0=a.iv 13:=h
  unfold ajx
  refine oS (Sat.br (λk=>?_) λk=>?_)
  all_goals simp only [Da] at k
  ·refine oS (oS (oS (Sat.br (λb=>?_) λb=>?_)))
   all_goals simp only [Da] at b
   ·exact absurd i (by rw [b];decide)
   ·refine Sat.br (λc=>?_) λc=>?_
    all_goals simp only [Da] at c
    ·exact absurd f c
    ·exact Sat.fin (Eq.trans rfl (if_neg (show ¬a.iv 12=0 by omega)).symm)
  ·exfalso
   omega
theorem Zj:aK Tryz.prog iO (λρ=>Rk ρ\/Rl ρ) yt:=gG ajA ajB
noncomputable def itE:Ex:={sched:=sched,loops:=[LIt],cons:=[iO,fu],fin:=kU,OU:=true}
abbrev zf:List (Nat × BE):=[(7,yw 7),(2,yw 2)]
abbrev zg:List (Nat × CV):=[(11,yu 11 3 1 yI 0),(10,.up {r:=10,n1:=.var 1,s1:=52,n2:=10,s2:=5,lo:=2,ks:=yW} 1 [] y0),(9,yu 9 1 52 yB 0),(8,yu 8 0 5 yW 0)]
abbrev zh:List (Nat × SA):=[(12,yb 18),(11,yc 17 1),(10,yc 16 52),(9,yc 15 5),(7,yb 11),(6,yb 10),(5,yb 9),(4,yb 8),(3,yb 7),(2,yb 6),(1,yb 1),(0,yb 0),(8,yb 14)]
def Wn:Out :=
 .call 1 {lo:=0,ae:=0,iv:=[yz 0]} 12 <|
 .call 0 {lo:=0,ae:=0,iv:=yO [(14,3)]<|yD 0 FU,bv:=zf,ct:=zg,bk:=zh} 12 <|
 .loop 17 {lo:=17,ae:=23,iv:=yO [(25,1),(23,2),(19,2)]<|yD 14 yK2,bv:=[(30,yw 16),(21,.lit true),(17,.lit true)],ct:=[(31,.up {r:=0,n1:=.lit 1025,s1:=1,ks:=[.bool],z:=true} 0 [] y0)],nb:=[24,23]} <|
 .br (.not (.ag (.var 26) y0))
 (.call 0 {lo:=0,ae:=0,iv:=yU [(14,.lit 2),(13,yv 27),(12,yv 26)]<|yD 0 FU,bv:=zf,ct:=zg,bk:=zh} 32 <|
  .br (.ag (.var 25) (.lit 1024))
  (.bad 45)
  (.ob (.ah y0 (.var 26)) <|
   .ob (.aY (.var 26) (.lit 1025)) <|
   .br (.not (.cell 31 (.var 26) y0 0))
   (.ob (.ah (.mul (.add (.var 22) y1) (.lit 40)) (.lit 140737488355328)) <|
    .ob (.ah y0 (.var 22)) <|
    .ob (.ah (.var 22) (.var 23)) <|
    .ob (.ah (.var 23) (.lit 9223372036854775807)) <|
    .ob (.or (.not (.var 21)) (.ag (.var 22) y0)) <|
    .new 37 [.be (.and (.ah (.add (.var 22) y1) (.var 37)) (.ah (.var 37) (.lit 9223372036854775807)))] <|
    .br (.not (.var 36))
    (.call 0 {lo:=0,ae:=0,iv:=yO [(14,1)]<|yU [(13,yv 27),(12,yv 26)]<|yD 0 FU,bv:=zf,ct:=zg,bk:=zh} 38 <|
     .call 0 {lo:=0,ae:=0,iv:=yU [(14,.lit 1),(13,yv 27),(12,yv 26)]<|yD 0 FU,bv:=zf,ct:=zg,bk:=zh} 43 <|
     .ob (.ah (.mul (.add (.var 18) y1) (.lit 16)) (.lit 140737488355328)) <|
     .ob (.ah y0 (.var 18)) <|
     .ob (.ah (.var 18) (.var 19)) <|
     .ob (.ah (.var 19) (.lit 9223372036854775807)) <|
     .ob (.or (.not (.var 17)) (.ag (.var 18) y0)) <|
     .new 48 [.be (.and (.ah (.add (.var 18) y1) (.var 48)) (.ah (.var 48) (.lit 9223372036854775807)))] <|
     .ob (.inr .i64 (.add (.var 25) y1)) <|
     .back 0 {lo:=17,ae:=23,iv:=yr 29 35 4<|[(25,.add (.var 25) y1),(23,yv 37),(22,.add (.var 22) y1),(19,yv 48),(18,.add (.var 18) y1)],bv:=[(30,yw 36),(21,.lit false),(17,.lit false)],ct:=[(24,.up {r:=24,n1:=.add (.var 22) y1,s1:=5,ks:=yW} 0 [⟨0,(.var 22),y0,0,.int .i64 (.var 26)⟩,⟨0,(.var 22),y0,1,.int .i64 (.var 27)⟩,⟨0,(.var 22),y0,2,y2⟩,⟨0,(.var 22),y0,3,y2⟩,⟨0,(.var 22),y0,4,y3⟩] y0),(20,.up {r:=20,n1:=.add (.var 18) y1,s1:=2,ks:=[.int .i64,.int .i64]} 0 [⟨0,(.var 18),y0,0,.int .i64 (.var 41)⟩,⟨0,(.var 18),y0,1,.int .i64 (.var 46)⟩] y0),(31,.up {r:=31,n1:=.lit 1025,s1:=1,ks:=[.bool]} 0 [⟨0,(.var 26),y0,0,.bool (.lit true)⟩] y0)],bk:=[(24,yc 32 5),(23,yc 40 2)]})
    (.ob (.inr .i64 (.add (.var 25) y1)) <|
     .back 0 {lo:=17,ae:=23,iv:=yr 29 35 4<|[(25,.add (.var 25) y1),(23,yv 37),(22,.add (.var 22) y1),(19,yv 19),(18,yv 18)],bv:=[(30,yw 36),(21,.lit false),(17,yw 17)],ct:=[(24,.up {r:=24,n1:=.add (.var 22) y1,s1:=5,ks:=yW} 0 [⟨0,(.var 22),y0,0,.int .i64 (.var 26)⟩,⟨0,(.var 22),y0,1,.int .i64 (.var 27)⟩,⟨0,(.var 22),y0,2,y2⟩,⟨0,(.var 22),y0,3,y2⟩,⟨0,(.var 22),y0,4,y3⟩] y0),(20,.up {r:=20,n1:=.var 18,s1:=2,ks:=[.int .i64,.int .i64]} 0 [] y0),(31,.up {r:=31,n1:=.lit 1025,s1:=1,ks:=[.bool]} 0 [⟨0,(.var 26),y0,0,.bool (.lit true)⟩] y0)],bk:=[(24,yc 32 5),(23,yc 23 2)]}))
   (.br (.not (.var 36))
    (.call 0 {lo:=0,ae:=0,iv:=yO [(14,1)]<|yU [(13,yv 27),(12,yv 26)]<|yD 0 FU,bv:=zf,ct:=zg,bk:=zh} 37 <|
     .call 0 {lo:=0,ae:=0,iv:=yU [(14,.lit 1),(13,yv 27),(12,yv 26)]<|yD 0 FU,bv:=zf,ct:=zg,bk:=zh} 42 <|
     .ob (.ah (.mul (.add (.var 18) y1) (.lit 16)) (.lit 140737488355328)) <|
     .ob (.ah y0 (.var 18)) <|
     .ob (.ah (.var 18) (.var 19)) <|
     .ob (.ah (.var 19) (.lit 9223372036854775807)) <|
     .ob (.or (.not (.var 17)) (.ag (.var 18) y0)) <|
     .new 47 [.be (.and (.ah (.add (.var 18) y1) (.var 47)) (.ah (.var 47) (.lit 9223372036854775807)))] <|
     .ob (.inr .i64 (.add (.var 25) y1)) <|
     .back 0 {lo:=17,ae:=23,iv:=yr 29 35 4<|[(25,.add (.var 25) y1),(23,yv 23),(22,yv 22),(19,yv 47),(18,.add (.var 18) y1)],bv:=[(30,yw 36),(21,yw 21),(17,.lit false)],ct:=[(24,yu 24 22 5 yW 0),(20,.up {r:=20,n1:=.add (.var 18) y1,s1:=2,ks:=[.int .i64,.int .i64]} 0 [⟨0,(.var 18),y0,0,.int .i64 (.var 40)⟩,⟨0,(.var 18),y0,1,.int .i64 (.var 45)⟩] y0),(31,.up {r:=31,n1:=.lit 1025,s1:=1,ks:=[.bool]} 0 [] y0)],bk:=[(24,yc 24 5),(23,yc 36 2)]})
    (.ob (.inr .i64 (.add (.var 25) y1)) <|
     .back 0 {lo:=17,ae:=23,iv:=yr 29 35 4<|[(25,.add (.var 25) y1),(23,yv 23),(22,yv 22),(19,yv 19),(18,yv 18)],bv:=[(30,yw 36),(21,yw 21),(17,yw 17)],ct:=[(24,yu 24 22 5 yW 0),(20,.up {r:=20,n1:=.var 18,s1:=2,ks:=[.int .i64,.int .i64]} 0 [] y0),(31,.up {r:=31,n1:=.lit 1025,s1:=1,ks:=[.bool]} 0 [] y0)],bk:=[(24,yc 24 5),(23,yc 23 2)]}))))
 (.call 1 {lo:=0,ae:=0,iv:=[(0,.lit 1)]} 32 <|
  .call 0 {lo:=0,ae:=0,iv:=yO [(13,2)]<|yU [(14,.lit 1)]<|yD 0 FU,bv:=zf,ct:=zg,bk:=zh} 32 <|
  .loop 37 {lo:=37,ae:=29,iv:=yO [(45,1)]<|yU [(43,yv 23),(42,yv 22),(39,yv 19),(38,yv 18)]<|yD 14 yK3,bv:=[(50,yw 36),(41,yw 21),(37,yw 17)],ct:=[(44,yu 24 22 5 yW 0),(40,.up {r:=20,n1:=.var 18,s1:=2,ks:=[.int .i64,.int .i64]} 0 [] y0),(51,.up {r:=31,n1:=.lit 1025,s1:=1,ks:=[.bool]} 0 [] y0)],bk:=[(30,yc 24 5),(29,yc 23 2)]} <|
  .br (.not (.ag (.var 46) y0))
  (.call 0 {lo:=0,ae:=0,iv:=yU [(14,.lit 3),(13,yv 47),(12,yv 46)]<|yD 0 FU,bv:=zf,ct:=zg,bk:=zh} 52 <|
   .br (.ag (.var 45) (.lit 1024))
   (.bad 45)
   (.ob (.ah y0 (.var 46)) <|
    .ob (.aY (.var 46) (.lit 1025)) <|
    .br (.not (.cell 51 (.var 46) y0 0))
    (.ob (.ah (.mul (.add (.var 42) y1) (.lit 40)) (.lit 140737488355328)) <|
     .ob (.ah y0 (.var 42)) <|
     .ob (.ah (.var 42) (.var 43)) <|
     .ob (.ah (.var 43) (.lit 9223372036854775807)) <|
     .ob (.or (.not (.var 41)) (.ag (.var 42) y0)) <|
     .new 57 [.be (.and (.ah (.add (.var 42) y1) (.var 57)) (.ah (.var 57) (.lit 9223372036854775807)))] <|
     .ob (.inr .i64 (.add (.var 45) y1)) <|
     .back 0 {lo:=37,ae:=29,iv:=yr 49 55 4<|[(45,.add (.var 45) y1),(43,yv 57),(42,.add (.var 42) y1),(39,yv 39),(38,yv 38)],bv:=[(50,yw 56),(41,.lit false),(37,yw 37)],ct:=[(44,.up {r:=44,n1:=.add (.var 42) y1,s1:=5,ks:=yW} 0 [⟨0,(.var 42),y0,0,.int .i64 (.var 46)⟩,⟨0,(.var 42),y0,1,.int .i64 (.var 47)⟩,⟨0,(.var 42),y0,2,y2⟩,⟨0,(.var 42),y0,3,y2⟩,⟨0,(.var 42),y0,4,y3⟩] y0),(40,.up {r:=40,n1:=.var 38,s1:=2,ks:=[.int .i64,.int .i64]} 0 [] y0),(51,.up {r:=51,n1:=.lit 1025,s1:=1,ks:=[.bool]} 0 [⟨0,(.var 46),y0,0,.bool (.lit true)⟩] y0)],bk:=[(30,yc 38 5),(29,yc 29 2)]})
    (.ob (.inr .i64 (.add (.var 45) y1)) <|
     .back 0 {lo:=37,ae:=29,iv:=yr 49 55 4<|[(45,.add (.var 45) y1),(43,yv 43),(42,yv 42),(39,yv 39),(38,yv 38)],bv:=[(50,yw 56),(41,yw 41),(37,yw 37)],ct:=[(44,yu 44 42 5 yW 0),(40,.up {r:=40,n1:=.var 38,s1:=2,ks:=[.int .i64,.int .i64]} 0 [] y0),(51,.up {r:=51,n1:=.lit 1025,s1:=1,ks:=[.bool]} 0 [] y0)],bk:=[(30,yc 30 5),(29,yc 29 2)]})))
  (.call 1 {lo:=0,ae:=0,iv:=[(0,.lit 2)]} 52 <|
   .call 0 {lo:=0,ae:=0,iv:=yO [(13,2)]<|yU [(14,.lit 2)]<|yD 0 FU,bv:=zf,ct:=zg,bk:=zh} 52 <|
   .loop 57 {lo:=57,ae:=35,iv:=yO [(65,1)]<|yU [(63,yv 43),(62,yv 42),(59,yv 39),(58,yv 38)]<|yD 14 yK4,bv:=[(70,yw 56),(61,yw 41),(57,yw 37)],ct:=[(64,yu 44 42 5 yW 0),(60,.up {r:=40,n1:=.var 38,s1:=2,ks:=[.int .i64,.int .i64]} 0 [] y0),(71,.up {r:=51,n1:=.lit 1025,s1:=1,ks:=[.bool]} 0 [] y0)],bk:=[(36,yc 30 5),(35,yc 29 2)]} <|
   .br (.not (.ag (.var 66) y0))
   (.call 0 {lo:=0,ae:=0,iv:=yU [(14,.lit 4),(13,yv 67),(12,yv 66)]<|yD 0 FU,bv:=zf,ct:=zg,bk:=zh} 72 <|
    .br (.ag (.var 65) (.lit 1024))
    (.bad 45)
    (.ob (.ah y0 (.var 66)) <|
     .ob (.aY (.var 66) (.lit 1025)) <|
     .br (.not (.cell 71 (.var 66) y0 0))
     (.ob (.ah (.mul (.add (.var 62) y1) (.lit 40)) (.lit 140737488355328)) <|
      .ob (.ah y0 (.var 62)) <|
      .ob (.ah (.var 62) (.var 63)) <|
      .ob (.ah (.var 63) (.lit 9223372036854775807)) <|
      .ob (.or (.not (.var 61)) (.ag (.var 62) y0)) <|
      .new 77 [.be (.and (.ah (.add (.var 62) y1) (.var 77)) (.ah (.var 77) (.lit 9223372036854775807)))] <|
      .ob (.inr .i64 (.add (.var 65) y1)) <|
      .back 0 {lo:=57,ae:=35,iv:=yr 69 75 4<|[(65,.add (.var 65) y1),(63,yv 77),(62,.add (.var 62) y1),(59,yv 59),(58,yv 58)],bv:=[(70,yw 76),(61,.lit false),(57,yw 57)],ct:=[(64,.up {r:=64,n1:=.add (.var 62) y1,s1:=5,ks:=yW} 0 [⟨0,(.var 62),y0,0,.int .i64 (.var 66)⟩,⟨0,(.var 62),y0,1,.int .i64 (.var 67)⟩,⟨0,(.var 62),y0,2,y2⟩,⟨0,(.var 62),y0,3,y2⟩,⟨0,(.var 62),y0,4,y3⟩] y0),(60,.up {r:=60,n1:=.var 58,s1:=2,ks:=[.int .i64,.int .i64]} 0 [] y0),(71,.up {r:=71,n1:=.lit 1025,s1:=1,ks:=[.bool]} 0 [⟨0,(.var 66),y0,0,.bool (.lit true)⟩] y0)],bk:=[(36,yc 44 5),(35,yc 35 2)]})
     (.ob (.inr .i64 (.add (.var 65) y1)) <|
      .back 0 {lo:=57,ae:=35,iv:=yr 69 75 4<|[(65,.add (.var 65) y1),(63,yv 63),(62,yv 62),(59,yv 59),(58,yv 58)],bv:=[(70,yw 76),(61,yw 61),(57,yw 57)],ct:=[(64,yu 64 62 5 yW 0),(60,.up {r:=60,n1:=.var 58,s1:=2,ks:=[.int .i64,.int .i64]} 0 [] y0),(71,.up {r:=71,n1:=.lit 1025,s1:=1,ks:=[.bool]} 0 [] y0)],bk:=[(36,yc 36 5),(35,yc 35 2)]})))
   (.fin {lo:=12,ae:=19,iv:=[(18,yv 63),(17,yv 62),(14,yv 59),(13,yv 58)],bv:=[(16,yw 61),(12,yw 57)],ct:=[(19,yu 64 62 5 yW 0),(15,.up {r:=60,n1:=.var 58,s1:=2,ks:=[.int .i64,.int .i64]} 0 [] y0)],bk:=[(20,yc 36 5),(19,yc 35 2)]})))
theorem ajC:exec tab itE 8000 [] (bZ kU.f kU.nv [] kU.gl kU.hp kU.args)=Wn:=by kernel_rfl
theorem Rm {f:Nd->Wd}:∀{l:List Nd} {j:Nat} {a:Nd},x8 f l->l[j]?=some a->(∃b,l[j+1]?=some b/\nm (f a) b)\/(j+1=l.length/\(f a).slot=0)
 | [],j,a,_,h=>by simp at h
 | [x],0,a,d,h=>by
  obtain rfl:x=a:=by simpa using h
  exact .inr ⟨rfl,d⟩
 | [x],j+1,a,d,h=>by simp at h
 | x :: b :: r,0,a,d,h=>by
  obtain rfl:x=a:=by simpa using h
  exact .inl ⟨b,rfl,d.1⟩
 | x :: b :: r,j+1,a,d,h=>by
  rcases Rm (l:=b :: r) (j:=j) (a:=a) d.2 (by simpa using h) with ⟨c,g,e⟩ | ⟨g,e⟩
  ·exact .inl ⟨c,by simpa using g,e⟩
  ·exact .inr ⟨by simpa using g,e⟩
def WA (L:List Nd) (j:Nat) (s g:Int):Prop:=(∃N,L[j]?=some N/\s=N.s/\g=N.g)\/(j=L.length/\s=0)
theorem Ub {p:PS} {l:Nat} {L:List Nd} (h:TZ p l L) {j:Nat} {N:Nd} (e:L[j]?=some N):WA L (j+1) (ce p l N).slot (ce p l N).gen:=by
 rcases Rm (l:=dG :: L) (j:=j+1) (a:=N) h.zS (by simpa using e) with ⟨b,d,c⟩ | ⟨d,c⟩
 ·exact .inl ⟨b,by simpa using d,c.1,c.2⟩
 ·exact .inr ⟨by simpa using d,c⟩
theorem Il {p:PS} {l:Nat} {L:List Nd} (h:TZ p l L):WA L 0 (ce p l dG).slot (ce p l dG).gen:=by
 rcases Rm (l:=dG :: L) (j:=0) (a:=dG) h.zS rfl with ⟨b,d,c⟩ | ⟨d,c⟩
 ·exact .inl ⟨b,by simpa using d,c.1,c.2⟩
 ·exact .inr ⟨by simp at d;simp [d],c⟩
theorem Rn {L:List Nd} {j:Nat} {s g:Int} (h:WA L j s g) (a:s≠0):∃N,L[j]?=some N/\s=N.s/\g=N.g:=h.resolve_right λq=>a q.2
structure IK (p:PS) (L:Nat->List Nd):Prop where
 l:∀l,l<3->TZ p l (L l)
 up:(L 0).Pairwise (λa b=>yj p a<yj p b)
 ns:p.ns<=1024
 nb:p.nb=85
def PQ (p:PS) (q:Env):Prop:=bA q (q.iv 0) (q.iv 1) 2=p
structure IR (v:Nat) (q:Env):Prop where
 o1:bE q v
 o2:bE q (v+4)
 le:q.iv (v+1)<=q.iv (v+5)
 up:∀i k:Nat,i<k->(k:Int)<q.iv (v+1)->q.ic (v+3) i 0 0<q.ic (v+3) k 0 0
structure I0 (p:PS) (L:List Nd) (v:Nat) (q:Env):Prop where
 r:IR v q
 j:∃j:Nat,(q.iv (v+8)=j/\j<=L.length)/\WA L j (q.iv (v+9)) (q.iv (v+10))/\q.iv (v+5)=j/\(∀s:Nat,q.bc (v+14) s 0 0=true->∃N∈L.take j,N.s=s)/\∀i:Nat,(i:Int)<q.iv (v+1)->∀N∈L.drop j,q.ic (v+3) i 0 0<yj p N
structure I1 (b:Int) (L:List Nd) (v:Nat) (q:Env):Prop where
 r:IR v q
 j:∃j:Nat,(q.iv (v+8)=j/\j<=L.length)/\WA L j (q.iv (v+9)) (q.iv (v+10))/\q.iv (v+5)<=b+j
theorem IR.of {v:Nat} {q:Env} (h:IR v q.num):IR v q:=⟨h.o1,h.o2,h.le,h.up⟩
theorem I0.of {p:PS} {L:List Nd} {v:Nat} {q:Env} (h:I0 p L v q.num):I0 p L v q:=⟨h.r.of,h.j⟩
theorem I1.of {b:Int} {L:List Nd} {v:Nat} {q:Env} (h:I1 b L v q.num):I1 b L v q:=⟨h.r.of,h.j⟩
theorem IK.pk {p:PS} {L:Nat->List Nd} {q:Env} (h:IK p L) (hq:PQ p q) {l:Nat} (k:l<3) {j:Nat} {N:Nd} (n:(L l)[j]?=some N) {s g:Int} (m:s=N.s) (i:g=N.g) :
  1<=s/\s<=1024/\s<=q.iv 1/\q.bc 9 (s-1).toNat 0 1=true/\q.ic 9 (s-1).toNat 0 0=g:=by
 unfold PQ at hq
 obtain ⟨f,-,e,-⟩:=h
 subst m i hq
 obtain ⟨⟨a,b⟩,c,d⟩:=(f l k).us N (List.mem_of_getElem? n)
 have b:N.s<=q.iv 1:=b
 have e:q.iv 1<=1024:=e
 exact ⟨a,by omega,b,c,d⟩
theorem IK.len {p:PS} {L:Nat->List Nd} (h:IK p L) {l:Nat} (a:l<3):(L l).length<=1024:=by
 have:=(h.l l a).len
 have:=h.ns
 omega
theorem Gg {L:List Nd} {j:Nat} {N:Nd} (c:L[j]?=some N):L.drop j=N :: L.drop (j+1):=by
 obtain ⟨b,a⟩:=List.getElem?_eq_some_iff.1 c
 rw [List.drop_eq_getElem_cons b,a]
theorem abP {p:PS} {l:Nat} {L:List Nd} (h:TZ p l L) {j:Nat} {N M:Nd} (c:L[j]?=some N) (b:M∈L.take j):M.s≠N.s:=λe=>by
 have a:=h.nd
 rw [<-List.take_append_drop j L,List.map_append,Gg c,List.map_cons] at a
 have:=(List.nodup_append.1 a).2.2
 exact this M.s (List.mem_map.2 ⟨M,b,rfl⟩) N.s (List.mem_cons_self ..) e
def Wo:mo:=[(iO,λa=>Rk a\/Rl a,yt),(fu,zH,gU)]
def Zk (ρ:Env):Prop:=bE ρ 12/\bE ρ 16/\ρ.iv 13<=ρ.iv 17/\ρ.iv 13<=10000/\(∀i k:Nat,i<k->(k:Int)<ρ.iv 13->ρ.ic 15 i 0 0<ρ.ic 15 k 0 0)
section
variable {p:PS} {L:Nat->List Nd}
theorem IK.root {q:Env} (h:IK p L) (hq:PQ p q) {l:Nat} (b:l<3):(0:Int)<=l/\(l:Int)<q.iv 0:=by
 have a:=h.nb
 unfold PQ at hq
 rw [<-hq] at a
 have a:q.iv 0=85:=a
 omega
theorem PQ.rt {q:Env} (h:PQ p q) {v:Nat} {l:Nat} (a:aC q v=bu (q.ic 8 l 0) (q.bc 8 l 0)):aC q v=ce p l dG:=by
 unfold PQ at h
 rw [a,<-h]
 rfl
theorem PQ.cl {q:Env} (h:PQ p q) {v f:Nat} {N:Nd} (a:aC q v=bu (q.ic 10 (N.s-1).toNat f) (q.bc 10 (N.s-1).toNat f)):aC q v=p.cell (N.s-1).toNat f:=by
 unfold PQ at h
 rw [a,<-h]
 rfl
theorem LQ {l:Nat} {N:Nd} (h:1<=N.s):ce p l N=p.cell (N.s-1).toNat (2+l):=by
 unfold ce
 rw [iN]
theorem uf {q:Env} {v:Nat} {u:Wd} (h:aC q v=u):q.iv v=u.slot/\q.iv (v+1)=u.gen/\q.iv (v+2)=u.tag/\q.iv (v+3)=u.num/\q.bv (v+4)=u.mark:=by
 subst h
 exact ⟨rfl,rfl,rfl,rfl,rfl⟩
theorem PQ.pc {q:Env} (h:PQ p q) {v f:Nat} {s:Int} {N:Nd} (c:s=N.s) (b:s≠0) {X:Wd} (a:aC q v=if s=0 then X else bu (q.ic 10 ((0:Int).toNat+(s-1).toNat) f) (q.bc 10 ((0:Int).toNat+(s-1).toNat) f)):aC q v=p.cell (N.s-1).toNat f:=by
 rw [if_neg b,c,Int.toNat_zero,Nat.zero_add] at a
 exact h.cl a
def Q0 (p:PS) (L:List Nd) (j:Nat) (N:Nd) (q:Env):Prop :=
 (PQ p q/\bE q 17/\bE q 21/\q.iv 18<=q.iv 22)/\(∀i k:Nat,i<k->(k:Int)<q.iv 18->q.ic 20 i 0 0<q.ic 20 k 0 0)/\(q.iv 25=j/\q.iv 26=N.s/\q.iv 27=N.g/\q.iv 22=j)/\(∀s:Nat,q.bc 31 s 0 0=true->∃M∈L.take j,M.s=s)/\(∀i:Nat,(i:Int)<q.iv 18->∀M∈L.drop j,q.ic 20 i 0 0<yj p M)/\aC q 32=ce p 0 N
theorem M9 {L:List Nd} {j:Nat} {N M:Nd} (a:L[j]?=some N):M∈L.take (j+1)↔M∈L.take j\/M=N:=by
 rw [List.take_add_one,a]
 simp
def QL (p:PS) (l:Nat) (j:Nat) (N:Nd) (v:Nat) (b:Int) (q:Env):Prop :=
 (PQ p q/\bE q v/\bE q (v+4)/\q.iv (v+1)<=q.iv (v+5))/\(∀i k:Nat,i<k->(k:Int)<q.iv (v+1)->q.ic (v+3) i 0 0<q.ic (v+3) k 0 0)/\(q.iv (v+8)=j/\q.iv (v+9)=N.s/\q.iv (v+10)=N.g/\q.iv (v+5)<=b+j)/\aC q (v+15)=ce p l N
theorem Oa {l j v:Nat} {b:Int} {N:Nd} {r a:Env} (z:IK p L) (q:(L l)[j]?=some N) (w:QL p l j N v b r) (B:l<3) (m:bE a v) (n:bE a (v+4)) (c:a.iv (v+5)=r.iv (v+5)\/a.iv (v+5)=r.iv (v+5)+1) (u:a.iv (v+1)=r.iv (v+1)) (o:a.iv (v+8)=r.iv (v+8)+1) (f:a.iv (v+9)=r.iv (v+15)) (g:a.iv (v+10)=r.iv (v+15+1))
  (d:∀i:Nat,a.ic (v+3) i 0 0=r.ic (v+3) i 0 0):I1 b (L l) v a:=by
 obtain ⟨⟨I,H,G,hle⟩,e,⟨D,K,F,J⟩,A⟩:=w
 obtain ⟨C,s,-⟩:=uf A
 have t:=(List.getElem?_eq_some_iff.1 q).1
 have x:=Ub (z.l l B) q
 refine ⟨⟨m,n,by rcases c with h | h <;> omega,λi k y E=>?_⟩,j+1,⟨by rw [o,D];rfl,t⟩,?_,by rcases c with h | h <;> omega⟩
 ·rw [d,d]
  exact e i k y (by omega)
 ·rw [f,g,C,s]
  exact x
theorem adU {j:Nat} {N:Nd} {r c:Env} (x:IK p L) (l:(L 0)[j]?=some N) (J:Q0 p (L 0) j N r) (T:0<=r.iv 18) (C:bE c 17) (D:bE c 21) (y:c.iv 22=r.iv 22+1) (E:c.iv 25=r.iv 25+1) (A:c.iv 26=r.iv 32) (B:c.iv 27=r.iv 33)
  (u:∀s:Nat,c.bc 31 s 0 0=true->s=(r.iv 26).toNat\/r.bc 31 s 0 0=true)
  (f:(c.iv 18=r.iv 18/\∀i:Nat,c.ic 20 i 0 0=r.ic 20 i 0 0)\/(c.iv 18=r.iv 18+1/\(∀i:Nat,i≠(r.iv 18).toNat->c.ic 20 i 0 0=r.ic 20 i 0 0)/\c.ic 20 (r.iv 18).toNat 0 0=yj p N)):I0 p (L 0) 17 c:=by
 obtain ⟨⟨Y,X,W,hle⟩,n,⟨S,Z,U,P⟩,R,w,O⟩:=J
 obtain ⟨Q,H,-⟩:=uf O
 have hd:=Gg l
 have I:=(List.getElem?_eq_some_iff.1 l).1
 have z:∀M∈(L 0).drop (j+1),yj p N<yj p M:=λM q=>by
  have h:=x.up
  rw [<-List.take_append_drop j (L 0),hd] at h
  exact (List.pairwise_cons.1 (List.pairwise_append.1 h).2.1).1 M q
 have K:=Ub (x.l 0 (by decide)) l
 refine ⟨⟨C,D,?_,?_⟩,j+1,⟨by show c.iv 25=_;rw [E,S];rfl,I⟩,?_,?_,?_,?_⟩
 ·show c.iv 18<=c.iv 22
  rcases f with ⟨h,-⟩ | ⟨h,-⟩ <;> omega
 ·intro i k o m
  have m:(k:Int)<c.iv 18:=m
  show c.ic 20 i 0 0<c.ic 20 k 0 0
  rcases f with ⟨h,d⟩ | ⟨h,d,g⟩
  ·rw [d,d]
   exact n i k o (by omega)
  ·rw [d i (by omega)]
   by_cases e:k=(r.iv 18).toNat
   ·rw [e,g]
    exact w i (by omega) N (by rw [hd];exact List.mem_cons_self ..)
   ·rw [d k e]
    exact n i k o (by omega)
 ·show WA (L 0) (j+1) (c.iv 26) (c.iv 27)
  rw [A,B,Q,H]
  exact K
 ·show c.iv 22=_
  rw [y,P]
  rfl
 ·intro s t
  rcases u s t with h | h
  ·exact ⟨N,(M9 l).2 (.inr rfl),by have V:=(x.l 0 (by decide)).us N (List.mem_of_getElem? l);omega⟩
  ·obtain ⟨M,a,b⟩:=R s h
   exact ⟨M,(M9 l).2 (.inl a),b⟩
 ·intro i G M q
  have G:(i:Int)<c.iv 18:=G
  show c.ic 20 i 0 0<yj p M
  have F:M∈(L 0).drop j:=by rw [hd];exact List.mem_cons_of_mem _ q
  rcases f with ⟨h,d⟩ | ⟨h,d,g⟩
  ·rw [d]
   exact w i (by omega) M F
  ·by_cases e:i=(r.iv 18).toNat
   ·rw [e,g]
    exact z M q
   ·rw [d i e]
    exact w i (by omega) M F
set_option maxHeartbeats 8000000 in
theorem ajD (A:IK p L) (ρ:Env) (hpre:PQ p ρ):Sat Zk Wo [] ρ Wn:=by
 unfold Wn
 refine Sat.dF (c:=fu) rfl ⟨by show (0:Int)<=0;decide,by show (0:Int)<24;decide⟩ (PQ p) (λe _=>hpre) λq m=>?_
 refine Sat.dF (c:=iO) rfl (.inl ⟨rfl,rfl,(A.root m (l:=0) (by decide)).1,(A.root m (l:=0) (by decide)).2⟩) (λq=>PQ p q/\aC q 12=ce p 0 dG) (λe h=>⟨m,PQ.rt (q:=q.join 12 e) (l:=0) m h⟩) λq m=>?_
 obtain ⟨m,u⟩:=m
 obtain ⟨Y,W,-⟩:=uf u
 refine Sat.qD (I0 p (L 0) 17) (λr=>((L 0).length-(r.iv 25).toNat)) (PQ p) ?_ (λe=>m) λq m U=>?_
 ·have K:=Il (A.l 0 (by decide))
  rw [<-Y,<-W] at K
  refine ⟨⟨⟨λ_=>rfl,Int.le_refl 0,Int.le_refl 0,by show (0:Int)<=9223372036854775807;decide⟩,⟨λ_=>rfl,Int.le_refl 0,Int.le_refl 0,by show (0:Int)<=9223372036854775807;decide⟩,Int.le_refl 0,λi k _ h=>?_⟩,0,⟨rfl,Nat.zero_le _⟩,K,rfl,λs h=>?_,λi h=>?_⟩
  ·have h:(k:Int)<0:=h
   omega
  ·have h:false=true:=h
   cases h
  ·have h:(i:Int)<0:=h
   omega
 ·replace U:I0 p (L 0) 17 q:=U.of
  obtain ⟨⟨d,b,hle,a⟩,j,⟨n,hjl⟩,K,o,G,J⟩:=U
  refine Sat.br (λa1=>?_) (λa1=>?_)
  all_goals simp only [Da] at a1
  ·obtain ⟨N,H,g,t⟩:=Rn K a1
   obtain ⟨B,F,C,E,D⟩:=A.pk m (l:=0) (by decide) H g t
   have hjL:j<(L 0).length:=(List.getElem?_eq_some_iff.1 H).1
   have hlen:=A.len (l:=0) (by decide)
   have T:1<=N.s:=by rw [<-g];exact B
   refine Sat.dF (c:=iO) rfl (.inr ⟨B,F,C,⟨by show (0:Int)<=2;decide,by show (2:Int)<10;decide⟩,(by simpa [-Int.pred_toNat,Na] using E),(by simpa [-Int.pred_toNat,Na] using D)⟩) (Q0 p (L 0) j N) (λe h=>⟨⟨m,d,b,hle⟩,a,⟨n,g,t,o⟩,G,J,(PQ.pc (q:=q.join 32 e) (v:=32) (f:=2) (s:=q.iv 26) m g a1 h).trans (LQ (p:=p) (l:=0) T).symm⟩) λr w=>?_
   have O:(L 0).length-(q.num.iv 25).toNat=(L 0).length-j:=by
    have h:q.num.iv 25=j:=n
    rw [h]
    rfl
   rw [O]
   clear m d b hle a n K o G J a1 g t B F C E D O
   obtain ⟨⟨x,d,b,hle⟩,a,⟨n,g,t,o⟩,G,J,u⟩:=w
   refine Sat.br (λR=>?_) (λR=>?_)
   all_goals simp only [Da] at R
   ·exfalso
    omega
   obtain ⟨B,F,C,E,D⟩:=A.pk x (l:=0) (by decide) H g t
   refine oS (oS (Sat.br (λQ=>?_) (λQ=>?_)))
   all_goals simp only [Da] at Q
   ·have y:=b
    obtain ⟨y1,y2,y3,S⟩:=y
    simp only [Nat.reduceAdd] at y1 y2 y3 S
    refine oS (oS (oS (oS (Sat.ob (dP b) ?_))))
    refine Sat.uK (Q0 p (L 0) j N) (λe=>⟨⟨x,d,b,hle⟩,a,⟨n,g,t,o⟩,G,J,u⟩) λr w I=>?_
    simp only [Da] at I
    refine Sat.br (λb3=>?_) (λb3=>?_)
    ·clear x d b hle a n g t o G J u B F C E D R Q b3 y1 y2 y3 S
     obtain ⟨⟨x,d,b,hle⟩,a,⟨n,g,t,o⟩,G,J,u⟩:=w
     obtain ⟨B,F,C,E,D⟩:=A.pk x (l:=0) (by decide) H g t
     have a1:r.iv 26≠0:=by omega
     refine Sat.dF (c:=iO) rfl (.inr ⟨B,F,C,⟨by show (0:Int)<=0;decide,by show (0:Int)<10;decide⟩,(by simpa [-Int.pred_toNat,Na] using E),(by simpa [-Int.pred_toNat,Na] using D)⟩) (λr=>(Q0 p (L 0) j N r/\r.iv 22+1<=r.iv 37/\r.iv 37<=9223372036854775807)/\aC r 38=p.cell (N.s-1).toNat 0) (λe h=>⟨⟨⟨⟨x,d,b,hle⟩,a,⟨n,g,t,o⟩,G,J,u⟩,I⟩,PQ.pc (q:=r.join 38 e) (v:=38) (f:=0) (s:=r.iv 26) x g a1 h⟩) λr w=>?_
     clear x d b hle a n g t o G J u B F C E D a1 I
     obtain ⟨⟨⟨⟨x,d,b,hle⟩,a,⟨n,g,t,o⟩,G,J,u⟩,I⟩,Z⟩:=w
     obtain ⟨B,F,C,E,D⟩:=A.pk x (l:=0) (by decide) H g t
     refine Sat.dF (c:=iO) rfl (.inr ⟨B,F,C,⟨by show (0:Int)<=1;decide,by show (1:Int)<10;decide⟩,(by simpa [-Int.pred_toNat,Na] using E),(by simpa [-Int.pred_toNat,Na] using D)⟩) (λr=>(Q0 p (L 0) j N r/\r.iv 22+1<=r.iv 37/\r.iv 37<=9223372036854775807)/\aC r 38=p.cell (N.s-1).toNat 0) (λe h=>⟨⟨⟨⟨x,d,b,hle⟩,a,⟨n,g,t,o⟩,G,J,u⟩,I⟩,Z⟩) λr w=>?_
     clear x d b hle a n g t o G J u B F C E D I Z
     obtain ⟨⟨⟨⟨x,d,b,hle⟩,a,⟨n,g,t,o⟩,G,J,u⟩,I⟩,Z⟩:=w
     have y:=d
     obtain ⟨y1,y2,y3,S⟩:=y
     simp only [Nat.reduceAdd] at y1 y2 y3 S
     refine oS (oS (oS (oS (Sat.ob (dP d) ?_))))
     refine Sat.uK (λr=>(Q0 p (L 0) j N r/\r.iv 22+1<=r.iv 37/\r.iv 37<=9223372036854775807)/\aC r 38=p.cell (N.s-1).toNat 0) (λe=>⟨⟨⟨⟨x,d,b,hle⟩,a,⟨n,g,t,o⟩,G,J,u⟩,I⟩,Z⟩) λr w hd=>?_
     clear x d b hle a n g t o G J u I Z y1 y2 y3 S
     obtain ⟨⟨⟨⟨x,d,b,hle⟩,a,⟨n,g,t,o⟩,G,J,u⟩,hb1,hb2⟩,Z⟩:=w
     simp only [Da] at hd
     have z:=d.2.1
     have X:=b.2.1
     simp only [Nat.reduceAdd] at z X
     refine oS (Sat.back rfl ⟨adU A H ⟨⟨x,d,b,hle⟩,a,⟨n,g,t,o⟩,G,J,u⟩ z ⟨λh=>(by cases h),by show 0<=r.iv 18+1;omega,hd.1,hd.2⟩ ⟨λh=>(by cases h),by show 0<=r.iv 22+1;omega,hb1,hb2⟩ rfl rfl rfl rfl (λs h=>?_) (.inr ⟨rfl,λi hi=>?_,?_⟩),?_⟩)
     ·by_cases e:s=(r.iv 26).toNat
      ·exact .inl e
      ·refine .inr ?_
       simp [-Int.pred_toNat,Na,Ne.symm e] at h
       exact h
     ·simp [-Int.pred_toNat,Na,Ne.symm hi]
     ·have:=(uf Z).2.2.2.1
      simp [-Int.pred_toNat,Na]
      exact this
     ·show (L 0).length-(r.iv 25+1).toNat<_
      omega
    ·clear x d b hle a n g t o G J u B F C E D R Q b3 y1 y2 y3 S
     obtain ⟨⟨x,d,b,hle⟩,a,⟨n,g,t,o⟩,G,J,u⟩:=w
     have z:=d.2.1
     have X:=b.2.1
     simp only [Nat.reduceAdd] at z X
     refine oS (Sat.back rfl ⟨adU A H ⟨⟨x,d,b,hle⟩,a,⟨n,g,t,o⟩,G,J,u⟩ z d ⟨λh=>(by cases h),by show 0<=r.iv 22+1;omega,I.1,I.2⟩ rfl rfl rfl rfl (λs h=>?_) (.inl ⟨rfl,λi=>?_⟩),?_⟩)
     ·by_cases e:s=(r.iv 26).toNat
      ·exact .inl e
      ·refine .inr ?_
       simp [-Int.pred_toNat,Na,Ne.symm e] at h
       exact h
     ·simp [-Int.pred_toNat,Na]
     ·show (L 0).length-(r.iv 25+1).toNat<_
      omega
   ·exfalso
    obtain ⟨M,hM,hM2⟩:=G _ Q
    exact abP (A.l 0 (by decide)) H hM (by omega)
  ·have hlen:=A.len (l:=0) (by decide)
   have o:q.iv 22=j:=o
   have P:q.iv 22<=1024:=by omega
   refine Sat.dF (c:=fu) rfl ⟨by show (0:Int)<=1;decide,by show (1:Int)<24;decide⟩ (λq=>(PQ p q/\bE q 17/\bE q 21)/\(q.iv 18<=q.iv 22/\(∀i k:Nat,i<k->(k:Int)<q.iv 18->q.ic 20 i 0 0<q.ic 20 k 0 0))/\q.iv 22<=1024) (λe _=>⟨⟨m,d,b⟩,⟨hle,a⟩,P⟩) λr w=>?_
   clear m d b hle a P
   obtain ⟨⟨m,d,b⟩,⟨hle,a⟩,P⟩:=w
   refine Sat.dF (c:=iO) rfl (.inl ⟨rfl,rfl,(A.root m (l:=1) (by decide)).1,(A.root m (l:=1) (by decide)).2⟩) (λq=>((PQ p q/\bE q 17/\bE q 21)/\(q.iv 18<=q.iv 22/\(∀i k:Nat,i<k->(k:Int)<q.iv 18->q.ic 20 i 0 0<q.ic 20 k 0 0))/\q.iv 22<=1024)/\aC q 32=ce p 1 dG) (λe h=>⟨⟨⟨m,d,b⟩,⟨hle,a⟩,P⟩,PQ.rt (q:=r.join 32 e) (l:=1) m h⟩) λq w=>?_
   clear m d b hle a P
   obtain ⟨⟨⟨m,d,b⟩,⟨hle,a⟩,P⟩,u⟩:=w
   obtain ⟨Y,W,-⟩:=uf u
   refine Sat.qD (I1 1024 (L 1) 37) (λr=>((L 1).length-(r.iv 45).toNat)) (PQ p) ?_ (λe=>m) λq hq2 U=>?_
   ·have K:=Il (A.l 1 (by decide))
    rw [<-Y,<-W] at K
    exact ⟨⟨d,b,hle,λi k h1 h2=>by have:=a i k h1 h2;simpa [-Int.pred_toNat,Na] using this⟩,0,⟨rfl,Nat.zero_le _⟩,K,by show q.iv 22<=1024+((0:Nat):Int);omega⟩
   clear m d b hle a P u Y W
   have m:=hq2
   replace U:I1 1024 (L 1) 37 q:=U.of
   obtain ⟨⟨d,b,hle,a⟩,j,⟨n,hjl⟩,K,o⟩:=U
   have hlen:=A.len (l:=1) (by decide)
   refine Sat.br (λa1=>?_) (λa1=>?_)
   all_goals simp only [Da] at a1
   ·obtain ⟨N,H,g,t⟩:=Rn K a1
    obtain ⟨B,F,C,E,D⟩:=A.pk m (l:=1) (by decide) H g t
    have hjL:j<(L 1).length:=(List.getElem?_eq_some_iff.1 H).1
    have T:1<=N.s:=by rw [<-g];exact B
    refine Sat.dF (c:=iO) rfl (.inr ⟨B,F,C,⟨by show (0:Int)<=3;decide,by show (3:Int)<10;decide⟩,(by simpa [-Int.pred_toNat,Na] using E),(by simpa [-Int.pred_toNat,Na] using D)⟩) (QL p 1 j N 37 1024) (λe h=>⟨⟨m,d,b,hle⟩,a,⟨n,g,t,o⟩,(PQ.pc (q:=q.join 52 e) (v:=52) (f:=3) (s:=q.iv 46) m g a1 h).trans (LQ (p:=p) (l:=1) T).symm⟩) λr w=>?_
    have O:(L 1).length-(q.num.iv 45).toNat=(L 1).length-j:=by
     have h:q.num.iv 45=j:=n
     rw [h]
     rfl
    rw [O]
    clear m d b hle a n K o a1 g t B F C E D O
    have V:=w
    obtain ⟨⟨x,d,b,hle⟩,a,⟨n,g,t,o⟩,u⟩:=w
    have n:r.iv 45=j:=n
    have g:r.iv 46=N.s:=g
    have o:r.iv 42<=1024+(j:Int):=o
    refine Sat.br (λR=>?_) (λR=>?_)
    all_goals simp only [Da] at R
    ·exfalso
     omega
    obtain ⟨B,F,C,E,D⟩:=A.pk x (l:=1) (by decide) H g t
    refine oS (oS (Sat.br (λQ=>?_) (λQ=>?_)))
    all_goals simp only [Da] at Q
    ·have y:=b
     obtain ⟨y1,y2,y3,S⟩:=y
     simp only [Nat.reduceAdd] at y1 y2 y3 S
     refine oS (oS (oS (oS (Sat.ob (dP b) ?_))))
     refine Sat.uK (QL p 1 j N 37 1024) (λe=>⟨⟨x,d,b,hle⟩,a,⟨n,g,t,o⟩,u⟩) λr w I=>?_
     simp only [Da] at I
     clear V x d b hle a n g t o u B F C E D R Q y1 y2 y3 S
     have V:=w
     obtain ⟨⟨x,d,b,hle⟩,a,⟨n,g,t,o⟩,u⟩:=w
     have n:r.iv 45=j:=n
     have an4:r.iv 38<=r.iv 42:=hle
     have X:=b.2.1
     simp only [Nat.reduceAdd] at X
     refine oS (Sat.back rfl ⟨Oa A H V (by decide) d ⟨λh=>(by cases h),by show 0<=r.iv 42+1;omega,I.1,I.2⟩ (.inr rfl) rfl rfl rfl rfl (λi=>by simp [-Int.pred_toNat,Na]),?_⟩)
     show (L 1).length-(r.iv 45+1).toNat<_
     omega
    ·refine oS (Sat.back rfl ⟨Oa A H V (by decide) d b (.inl rfl) rfl rfl rfl rfl (λi=>by simp [-Int.pred_toNat,Na]),?_⟩)
     show (L 1).length-(r.iv 45+1).toNat<_
     omega
   ·have o:q.iv 42<=1024+(j:Int):=o
    have P:q.iv 42<=2048:=by omega
    refine Sat.dF (c:=fu) rfl ⟨by show (0:Int)<=2;decide,by show (2:Int)<24;decide⟩ (λq=>(PQ p q/\bE q 37/\bE q 41)/\(q.iv 38<=q.iv 42/\(∀i k:Nat,i<k->(k:Int)<q.iv 38->q.ic 40 i 0 0<q.ic 40 k 0 0))/\q.iv 42<=2048) (λe _=>⟨⟨m,d,b⟩,⟨hle,a⟩,P⟩) λr w=>?_
    clear m d b hle a P
    obtain ⟨⟨m,d,b⟩,⟨hle,a⟩,P⟩:=w
    refine Sat.dF (c:=iO) rfl (.inl ⟨rfl,rfl,(A.root m (l:=2) (by decide)).1,(A.root m (l:=2) (by decide)).2⟩) (λq=>((PQ p q/\bE q 37/\bE q 41)/\(q.iv 38<=q.iv 42/\(∀i k:Nat,i<k->(k:Int)<q.iv 38->q.ic 40 i 0 0<q.ic 40 k 0 0))/\q.iv 42<=2048)/\aC q 52=ce p 2 dG) (λe h=>⟨⟨⟨m,d,b⟩,⟨hle,a⟩,P⟩,PQ.rt (q:=r.join 52 e) (l:=2) m h⟩) λq w=>?_
    clear m d b hle a P
    obtain ⟨⟨⟨m,d,b⟩,⟨hle,a⟩,P⟩,u⟩:=w
    obtain ⟨Y,W,-⟩:=uf u
    refine Sat.qD (I1 2048 (L 2) 57) (λr=>((L 2).length-(r.iv 65).toNat)) (PQ p) ?_ (λe=>m) λq hq2 U=>?_
    ·have K:=Il (A.l 2 (by decide))
     rw [<-Y,<-W] at K
     exact ⟨⟨d,b,hle,λi k h1 h2=>by have:=a i k h1 h2;simpa [-Int.pred_toNat,Na] using this⟩,0,⟨rfl,Nat.zero_le _⟩,K,by show q.iv 42<=2048+((0:Nat):Int);omega⟩
    clear m d b hle a P u Y W
    have m:=hq2
    replace U:I1 2048 (L 2) 57 q:=U.of
    obtain ⟨⟨d,b,hle,a⟩,j,⟨n,hjl⟩,K,o⟩:=U
    have hlen:=A.len (l:=2) (by decide)
    refine Sat.br (λa1=>?_) (λa1=>?_)
    all_goals simp only [Da] at a1
    ·obtain ⟨N,H,g,t⟩:=Rn K a1
     obtain ⟨B,F,C,E,D⟩:=A.pk m (l:=2) (by decide) H g t
     have hjL:j<(L 2).length:=(List.getElem?_eq_some_iff.1 H).1
     have T:1<=N.s:=by rw [<-g];exact B
     refine Sat.dF (c:=iO) rfl (.inr ⟨B,F,C,⟨by show (0:Int)<=4;decide,by show (4:Int)<10;decide⟩,(by simpa [-Int.pred_toNat,Na] using E),(by simpa [-Int.pred_toNat,Na] using D)⟩) (QL p 2 j N 57 2048) (λe h=>⟨⟨m,d,b,hle⟩,a,⟨n,g,t,o⟩,(PQ.pc (q:=q.join 72 e) (v:=72) (f:=4) (s:=q.iv 66) m g a1 h).trans (LQ (p:=p) (l:=2) T).symm⟩) λr w=>?_
     have O:(L 2).length-(q.num.iv 65).toNat=(L 2).length-j:=by
      have h:q.num.iv 65=j:=n
      rw [h]
      rfl
     rw [O]
     clear m d b hle a n K o a1 g t B F C E D O
     have V:=w
     obtain ⟨⟨x,d,b,hle⟩,a,⟨n,g,t,o⟩,u⟩:=w
     have n:r.iv 65=j:=n
     have g:r.iv 66=N.s:=g
     have o:r.iv 62<=2048+(j:Int):=o
     refine Sat.br (λR=>?_) (λR=>?_)
     all_goals simp only [Da] at R
     ·exfalso
      omega
     obtain ⟨B,F,C,E,D⟩:=A.pk x (l:=2) (by decide) H g t
     refine oS (oS (Sat.br (λQ=>?_) (λQ=>?_)))
     all_goals simp only [Da] at Q
     ·have y:=b
      obtain ⟨y1,y2,y3,S⟩:=y
      simp only [Nat.reduceAdd] at y1 y2 y3 S
      refine oS (oS (oS (oS (Sat.ob (dP b) ?_))))
      refine Sat.uK (QL p 2 j N 57 2048) (λe=>⟨⟨x,d,b,hle⟩,a,⟨n,g,t,o⟩,u⟩) λr w I=>?_
      simp only [Da] at I
      clear V x d b hle a n g t o u B F C E D R Q y1 y2 y3 S
      have V:=w
      obtain ⟨⟨x,d,b,hle⟩,a,⟨n,g,t,o⟩,u⟩:=w
      have n:r.iv 65=j:=n
      have an4:r.iv 58<=r.iv 62:=hle
      have X:=b.2.1
      simp only [Nat.reduceAdd] at X
      refine oS (Sat.back rfl ⟨Oa A H V (by decide) d ⟨λh=>(by cases h),by show 0<=r.iv 62+1;omega,I.1,I.2⟩ (.inr rfl) rfl rfl rfl rfl (λi=>by simp [-Int.pred_toNat,Na]),?_⟩)
      show (L 2).length-(r.iv 65+1).toNat<_
      omega
     ·refine oS (Sat.back rfl ⟨Oa A H V (by decide) d b (.inl rfl) rfl rfl rfl rfl (λi=>by simp [-Int.pred_toNat,Na]),?_⟩)
      show (L 2).length-(r.iv 65+1).toNat<_
      omega
    ·have o:q.iv 62<=2048+(j:Int):=o
     exact Sat.fin ⟨d,b,hle,(by show q.iv 58<=10000;have hle2:q.iv 58<=q.iv 62:=hle;omega),λi k h1 h2=>by have:=a i k h1 h2;simpa [-Int.pred_toNat,Na] using this⟩
end
def alB (ρ:Env):Prop:=∃p L,IK p L/\PQ p ρ
theorem ajE:aK Tryz.prog kU alB Zk :=
 bq bM (E:=itE) (cs:=Wo) rfl (λk pre post h=>by
   simp only [Wo,List.mem_cons,List.not_mem_nil,or_false,Prod.mk.injEq] at h
   rcases h with ⟨rfl,rfl,rfl⟩ | ⟨rfl,rfl,rfl⟩
   · exact ⟨by kernel_rfl,Zj⟩
   · exact ⟨by kernel_rfl,P5⟩) aO rfl ajC (by kernel_rfl) (λa h p b=>by cases b) λa h=>by
   obtain ⟨p,L,d,c⟩:=h
   exact ajD d a c
def nE:dJ:={f:=28,nv:=4,args:=[mP [.int .i64,.int .i64] 0 0],hp:=[FR 126 [.int .i64,.int .i64] 0],iV:=4,ret:=.w (.one (.bool (.lit true))),hp':=[dS]}
def LRi:iX:={f:=28,p:=[1,0,1,0],xE:=[(3,.au)],kill:=[4,5,6,7,10,11,12,13,14,15,16,17,18,19,20,21,2,8,9]}
noncomputable def riE:Ex:={sched:=sched,loops:=[LRi],cons:=[],fin:=nE}
def Wp:Out :=
 .loop 4 {lo:=4,ae:=1,iv:=[(4,.lit 1)]} <|
 .ob (.or (.not (.var 0)) (.ag (.var 1) y0)) <|
 .ob (.ah y0 (.var 1)) <|
 .br (.aY (.var 4) (.var 1))
 (.ob (.inr .i64 (.sub (.var 4) y1)) <|
  .ob (.not (.var 0)) <|
  .ob (.ah y0 (.sub (.var 4) y1)) <|
  .ob (.aY (.sub (.var 4) y1) (.var 1)) <|
  .ob (.ah y0 (.var 4)) <|
  .br (.ah (.cell 3 (.var 4) y0 0) (.cell 3 (.sub (.var 4) y1) y0 0))
  (.bad 45)
  (.ob (.inr .i64 (.add (.var 4) y1)) <|
   .back 0 {lo:=4,ae:=1,iv:=[(4,.add (.var 4) y1)]}))
 (.fin {lo:=4,ae:=1})
theorem ajF:exec tab riE 8000 [] (bZ nE.f nE.nv [] nE.gl nE.hp nE.args)=Wp:=by kernel_rfl
def Kh (ρ:Env):Prop:=bE ρ 0/\ρ.iv 1<=10000/\∀i k:Nat,i<k->(k:Int)<ρ.iv 1->ρ.ic 3 i 0 0<ρ.ic 3 k 0 0
theorem ajG (ρ:Env) (c:Kh ρ.num):Sat gU [] [] ρ Wp:=by
 replace c:Kh ρ:=c
 unfold Wp
 refine Sat.qD (λr=>1<=r.iv 4) (λr=>(r.iv 1-r.iv 4).toNat) Kh (Int.le_refl 1) (λe=>c) λq i f=>?_
 have f:1<=q.iv 4:=f
 have k:(q.num.iv 1-q.num.iv 4).toNat=(q.iv 1-q.iv 4).toNat:=rfl
 rw [k]
 obtain ⟨o,l,d⟩:=i
 have y:=o
 obtain ⟨y1,y2,y3,j⟩:=y
 simp only [Nat.zero_add] at y1 y2 y3 j
 refine Sat.ob (dP o) (oS (Sat.br (λa=>?_) (λa=>?_)))
 all_goals simp only [Da] at a
 ·have g:q.bv 0=false:=by
   cases h:q.bv 0 with
   | false=>rfl
   | true =>
    have:=y1 h
    omega
  refine oS (Sat.ob (by simp only [Da];exact g) (oS (oS (oS (Sat.br (λb=>?_) (λb=>?_))))))
  all_goals simp only [Da] at b
  ·exfalso
   have:=d (q.iv 4-1).toNat (q.iv 4).toNat (by omega) (by omega)
   omega
  ·refine oS (Sat.back rfl ⟨?_,?_⟩)
   ·show 1<=q.iv 4+1
    omega
   ·show (q.iv 1-(q.iv 4+1)).toNat<_
    omega
 ·exact Sat.fin trivial
theorem ajH:aK Tryz.prog nE Kh gU :=
 bq bM (E:=riE) (cs:=[]) rfl (λk pre post h=>by cases h) aO rfl ajF (by kernel_rfl) (λb h p a=>by cases a) ajG
def ajI:Kn:=[(.ag (.add (.mul (.lit 3) (.lit 2)) (.lit 1)) (.lit 7),true),(.ag (.add (.mul (.lit 3) (.lit 1)) (.lit 1)) (.lit 4),true),(.ag (.add (.mul (.lit 3) (.lit 0)) (.lit 1)) (.lit 1),true)]
noncomputable def awE:Ex:={sched:=sched,loops:=[],cons:=[isE],fin:=xx,OU:=true}
def adV:Out :=
 .ob (.inr .i64 (.mul (.lit 3) (.lit 2))) <|
 .ob (.inr .i64 (.add (.mul (.lit 3) (.lit 2)) y1)) <|
 .ob (.inr .i64 (.mul (.lit 3) y1)) <|
 .ob (.inr .i64 (.add (.mul (.lit 3) y1) y1)) <|
 .ob (.inr .i64 (.mul (.lit 3) y0)) <|
 .ob (.inr .i64 (.add (.mul (.lit 3) y0) y1)) <|
 .call 0 {lo:=0,ae:=0,iv:=[(0,.lit 11)],bk:=[(1,yb 1),(0,yb 65)]} 1 <|
 .fin {lo:=1,ae:=14}
theorem ajJ:exec tab awE 8000 [] (bZ xx.f xx.nv ajI xx.gl xx.hp xx.args)=adV:=by kernel_rfl
theorem ajK:aK Tryz.prog xx gU gU :=
 bq bM (E:=awE) (cs:=[(isE,gU,gU)]) rfl (λk pre post h=>by
   cases h with
   | head=>exact ⟨by kernel_rfl,afc⟩
   | tail _ h=>cases h) aO rfl ajJ (by kernel_rfl) (λb _ p a=>by
   simp only [ajI,List.mem_cons,List.not_mem_nil,or_false] at a
   rcases a with rfl | rfl | rfl <;> rfl) λb _=>by
   unfold adV
   repeat' first
    | refine Sat.new λ_ _=>?_
    | refine Sat.call rfl trivial λ_ _=>?_
    | refine oS ?_
    | exact Sat.fin trivial
theorem adW {ρ:Env} {ν:Nat->Addr} {d:List SB} {w:World} (u:o6 d=true) (z:(d.all λb=>!b.lY)=true) (h:aD ρ ν d w):aD ρ ν (d.map Ik) w:=by
 have at_:∀(k:Nat) (sb:SB),(d.map Ik)[k]?=some sb->∃b,d[k]?=some b/\sb=Ik b:=λk sb c=>by
  rw [List.getElem?_map,Option.map_eq_some_iff] at c
  obtain ⟨b,f,rfl⟩:=c
  exact ⟨b,f,rfl⟩
 refine ⟨λi j a b y C _ _ s _=>?_,λk sb c _ x=>?_,λk sb c hd _=>?_⟩
 ·obtain ⟨B,_,rfl⟩:=at_ i a y
  cases s
 ·obtain ⟨A,_,rfl⟩:=at_ k sb c
  cases x
 ·obtain ⟨b,f,rfl⟩:=at_ k sb c
  have g:b.dead ρ=false:=hd
  obtain ⟨t,r,g2,l⟩:=h.ak k b f g (xW u f (SB.dZ g)).2
  have o:b.lY=false:=by
   have:=List.all_eq_true.1 z b (List.mem_of_getElem? f)
   simpa using this
  have q:=g2.cells o
  refine ⟨⟨(Array.getElem?_eq_some_iff.1 q).1,λ_ _=>⟨r,b.t,q⟩⟩,r,⟨l.un,l.size,λe n h=>(by cases h),l.ex,l.sg⟩,λp v m=>?_⟩
  rw [t]
  have e:(⟨(ν k).block,0,none⟩:Addr).add p=⟨(ν k).block,p,none⟩:=by
   unfold Addr.add
   split
   ·rename_i h;subst h;rfl
   ·simp
  rw [e]
  unfold World.cell?
  rw [q]
  exact m
structure ItR (w:World) (v1 v2:Value):Prop where
 ex:∃a n c a' n' c',v1=.slice a n c/\v2=.slice a' n' c'/\n<=n'/\n<=10000
 ri:∀w',Nw w w'->Calls Tryz.prog 28 #[v1] w' λe w''=>e=.returned (.bool true)/\Nw w' w''
theorem Zl {ρ:Env} {ν:Nat->Addr} {v k s:Nat} (h:bE ρ v):∃a n c,SC.den ρ ν (.eu (.var v) {ak:=k,i1:=.lit 0,s1:=s} (.var (v+1)) (.var (v+2)))=.slice a n c/\(n:Int)=ρ.iv (v+1):=by
 obtain ⟨e,f,i,g⟩:=h
 have b:SC.den ρ ν (.eu (.var v) {ak:=k,i1:=.lit 0,s1:=s} (.var (v+1)) (.var (v+2)))=if ρ.bv v=true then .slice none 0 0 else .slice (some (ν k)) (ρ.iv (v+1)).toNat (ρ.iv (v+2)).toNat:=by
  simp [SC.den,BE.den,IE.den,SA.den,SA.off,Addr.add_zero]
 rw [b]
 by_cases d:ρ.bv v=true
 ·rw [if_pos d]
  exact ⟨_,_,_,rfl,by rw [e d];rfl⟩
 ·rw [if_neg d]
  exact ⟨_,_,_,rfl,by omega⟩
def Ki:List SB:=[rW 126 [.int .i64,.int .i64] 0]
theorem abQ {w:World} {Q:Addr} {p:PS} {B:Nat->Prop} {ν:Nat->Addr} {L:Nat->List Nd} (hs:Aa w ν) (hp:kr w Q p B) (hK:IK p L) :
  Calls Tryz.prog 27 #[.pointer (some Q)] w λW w'=>∃R X,W=.returned (.tuple #[R,X,.nilIface])/\Nw w w'/\ItR w' R X:=by
 obtain ⟨u,x,rfl,M,N,hpo,hpb⟩:=hp.ex
 obtain ⟨⟨H,O⟩,E⟩:=hs
 obtain ⟨m,A⟩:∃m,m=yK qG.length ν x:=⟨_,rfl⟩
 have F:aD u x Wm w:=adW NM (by kernel_rfl) M
 have y:aD u ν qG w:=aD.ext (nv:=0) (n:=14) ⟨λi h=>absurd h (Nat.not_lt_zero _),λi h=>absurd h (Nat.not_lt_zero _),λi h=>absurd h (Nat.not_lt_zero _),λi h=>absurd h (Nat.not_lt_zero _),λi h=>absurd h (Nat.not_lt_zero _),λi h=>absurd h (Nat.not_lt_zero _),λi h=>rfl⟩ (by kernel_rfl) (by decide) O
 have e1:(λk=>m (qG.length+k))=x:=by rw [A];exact funext λk=>Fq ..
 have P:aD u m qG w:=aD.ext (nv:=0) (n:=14) ⟨λi h=>absurd h (Nat.not_lt_zero _),λi h=>absurd h (Nat.not_lt_zero _),λi h=>absurd h (Nat.not_lt_zero _),λi h=>absurd h (Nat.not_lt_zero _),λi h=>absurd h (Nat.not_lt_zero _),λi h=>absurd h (Nat.not_lt_zero _),λi h=>by rw [A,zM _ _ _ (Nat.lt_of_lt_of_le h (by decide))]⟩ (by kernel_rfl) (by decide) y
 have o:=P.app (f:=id) (hq:=Wm) (by rw [e1];exact F) λi j a b hi hj _ _ hr _=>by
  have ha:a.ro=true:=by
   have:(qG.all λb=>b.ro)=true:=by kernel_rfl
   exact List.all_eq_true.1 this a (List.mem_of_getElem? hi)
  have C:b.ro=true:=by
   have:(Wm.all λb=>b.ro)=true:=by kernel_rfl
   exact List.all_eq_true.1 this b (List.mem_of_getElem? hj)
  rw [ha,C] at hr
  rcases hr with h | h <;> cases h
 have eL:kU.hp=qG ++ Wm.map (SB.aX id (qG.length+·)):=by kernel_rfl
 rw [<-eL] at o
 have hG:iU m kU.gl:=by
  refine iU.ext (nv:=0) (n:=14) (ρ:=H) (ρ':=u) (ν:=ν) ⟨λi h=>absurd h (Nat.not_lt_zero _),λi h=>absurd h (Nat.not_lt_zero _),λi h=>absurd h (Nat.not_lt_zero _),λi h=>absurd h (Nat.not_lt_zero _),λi h=>absurd h (Nat.not_lt_zero _),λi h=>absurd h (Nat.not_lt_zero _),λi h=>?_⟩ (by kernel_rfl) E
  rw [A,zM _ _ _ (Nat.lt_of_lt_of_le h (by decide))]
 have q:=ajE.run u m w o hG ⟨p,L,hK,N⟩
 have I:m 14=x 0:=by rw [A];rfl
 have t:(kU.args.map (·.den u m)).toArray=#[.pointer (some (x 0))]:=by
  rw [<-I]
  rfl
 rw [t] at q
 refine Calls.mono q ?_
 rintro W w' ⟨ρ',J,hA,rfl,jI,l,how,V,o2,hle,r,K⟩
 refine ⟨_,_,rfl,⟨l.os,l.tape,l.output,l.size,λk G _=>l.block k G λh=>w9 (by kernel_rfl) h⟩,?_,λw2 hn=>?_⟩
 ·obtain ⟨a,n,c,q1,Y⟩:=Zl (ν:=J) (k:=19) (s:=2) V
  obtain ⟨a',U,c',q3,q4⟩:=Zl (ν:=J) (k:=20) (s:=5) o2
  have Y:(n:Int)=ρ'.iv 13:=Y
  have q4:(U:Int)=ρ'.iv 17:=q4
  have hle:ρ'.iv 13<=ρ'.iv 17:=hle
  have r:ρ'.iv 13<=10000:=r
  exact ⟨a,n,c,a',U,c',q1,q3,by omega,by omega⟩
 ·have sub:(List.range Ki.length).map (λj=>kU.hp'[19+j]?)=Ki.map λsb=>some (sb.aX (·+12) (19+·)):=by kernel_rfl
  have S:o6 Ki=true:=by kernel_rfl
  have Z:=jI.sub sub λi j _ _ h=>by omega
  have h2:=Z.zN (w':=w2) S λb C=>hn.block b (o7 Z C) id
  have T:=adW S (by kernel_rfl) h2
  have eR:Ki.map Ik=nE.hp:=by kernel_rfl
  rw [eR] at T
  have z:Kh (ρ'.pull (·+12)).num:=⟨V,r,K⟩
  have D:=ajH.run (ρ'.pull (·+12)) (λk=>J (19+k)) w2 T ⟨λg k _ h=>(by cases h),λg g' k k' _ _ h=>(by cases h)⟩ z
  refine Calls.mono D ?_
  rintro e w3 ⟨ρ2,wR,-,rfl,-,d,-,-⟩
  exact ⟨rfl,d.os,d.tape,d.output,d.size,λk G _=>d.block k G λh=>w9 (by kernel_rfl) h⟩
section
variable {y w:World} {z:Addr} {B A:Nat->Nat} {base g n i:Nat} {e K:Int} {p:PS} {W:Nat->Wk} {C:Nat->Addr}
theorem Tw.ik (T:Tw n e K p W):∃L,IK p L:=by
 obtain ⟨L,c,a,d,b,f⟩:=T.lists
 exact ⟨L,c,a,b.ns.2,d⟩
theorem afo (R:sJ y w z B A base g n p W) (T:Tw n e K p W) (q:K<=799000) (h:i<n) (t:oz y C) (r:∀j,j<8->(C j).block<y.heap.size) :
  Calls Tryz.prog 26 #[.pointer (some ⟨B i,0,none⟩),.pointer (some z)] w λm w'=>∃b p' o c,m=.returned (.bool b)/\c<=K+20/\sJ y w' z B A base g n p' o/\Tw n e c p' o:=by
 obtain ⟨I,s,d,k,f,a⟩:=T.acc q h
 obtain ⟨c,l,u⟩:=T.abD h
 refine (R.step h s d t r k f a).mono ?_
 rintro m w' ⟨rfl,x⟩
 exact ⟨_,_,_,c,rfl,l,x,u⟩
theorem sJ.pl (R:sJ y w z B A base g n p W):∃a,kr w z p a:=by
 obtain ⟨F,b,-⟩:=R.cr
 obtain ⟨a,d,c,-⟩:=b.ex
 exact ⟨a,c⟩
end
end Go.Proofs.YthomdlajobnmnaaGreatDoor.Sk
namespace Go.Proofs.YthomdlajobnmnaaGreatDoor
open Go.RowKit Go.Rex
theorem tmP (x n:Int) (h:0<n) (a:0<=x):0<=x.tmod n/\x.tmod n<n:=by
 rw [Int.tmod_eq_emod_of_nonneg a]
 exact ⟨Int.emod_nonneg _ (by omega),Int.emod_lt_of_pos _ h⟩
theorem wrP (x:Int):0<=IntKind.u64.wrap x:=by
 simp only [IntKind.wrap,IntKind.bits,IntKind.signed]
 exact Int.emod_nonneg _ (by decide)
theorem wrS {x:Int} (a:0<=x) (b:x<100000):IntKind.u64.wrap x=x:=by
 simp only [IntKind.wrap,IntKind.bits,IntKind.signed]
 exact Int.emod_eq_of_lt a (by omega)
theorem w64 {n:Int} (b:0<=n) (a:n<9223372036854775808):wrap64 n=n:=by unfold wrap64;omega
theorem adX (a k:Int) (c:0<k) (d:k<=1000):∃n:Nat,wrap64 (1+wrap64 ((IntKind.u64.wrap a).tmod k))=(n:Int)/\1<=n/\(n:Int)<=k:=by
 have h:=tmP (IntKind.u64.wrap a) k c (wrP a)
 have b:wrap64 ((IntKind.u64.wrap a).tmod k)=(IntKind.u64.wrap a).tmod k:=w64 (by omega) (by omega)
 rw [b,w64 (by omega) (by omega)]
 exact ⟨(1+(IntKind.u64.wrap a).tmod k).toNat,by omega,by omega,by omega⟩
theorem alD (x:Int) (n:Nat) (a:1<=n/\n<=6):∃q:Nat,wrap64 ((IntKind.u64.wrap x).tmod (IntKind.u64.wrap (n:Int)))=(q:Int)/\q<n:=by
 rw [wrS (x:=(n:Int)) (by omega) (by omega)]
 have h:=tmP (IntKind.u64.wrap x) n (by omega) (wrP x)
 rw [w64 (by omega) (by omega)]
 exact ⟨((IntKind.u64.wrap x).tmod n).toNat,by omega,by omega⟩
end Go.Proofs.YthomdlajobnmnaaGreatDoor
namespace Go.Proofs.YthomdlajobnmnaaGreatDoor.Sk
open Go.RowKit Go.Rex
def Ro (w:World) (v:Value) (n:Nat) (A:Nat->Nat) (L:Nat->List Op):Prop :=
 ∃ad c,v=.slice ad n c/\(0<n->∃a,ad=some a/\vI w a n A L)
theorem afp {w:World} {ν:Nat->Addr} (i:Aa w ν):Calls Tryz.prog 24 #[] w λe w'=>e=.returned (.bool true)/\Nw w w':=by
 obtain ⟨⟨c,g⟩,d⟩:=i
 refine Calls.mono (ajK.run c ν w g d trivial) ?_
 rintro e w' ⟨f,m,n,rfl,l,a,j,-⟩
 exact ⟨rfl,a.os,a.tape,a.output,a.size,λk b _=>a.block k b λh=>w9 (by kernel_rfl) h⟩
theorem ajN (a k:Int) (c:0<k) (d:k<=1000):∃n:Nat,wrap64 ((IntKind.u64.wrap a).tmod k)=(n:Int)/\(n:Int)<k:=by
 have h:=tmP (IntKind.u64.wrap a) k c (wrP a)
 have b:wrap64 ((IntKind.u64.wrap a).tmod k)=(IntKind.u64.wrap a).tmod k:=w64 (by omega) (by omega)
 rw [b]
 exact ⟨((IntKind.u64.wrap a).tmod k).toNat,by omega,by omega⟩
set_option maxHeartbeats 40000000 in
set_option maxRecDepth 100000 in
theorem Wq (w:World) (ν:Nat->Addr) (a0 a1 a2:Int) (n:Nat) (A:Nat->Nat) (L:Nat->List Op) (ov v:Value) (l:List Int) (hs:Aa w ν) (ho:Ro w ov n A L) (hv:Rd w v l) :
  Calls Tryz.prog 7 #[.agg #[.int .i64 a0,.int .i64 a1,.int .i64 a2],ov,v] w λe w'=>e=.returned (.bool true)/\Nw w w':=by
 have hn0:Nw w (w.alloc (.cells #[.int .i64 a0,.int .i64 a1,.int .i64 a2] 66)):=(cK.refl w _).alloc _
 have ha:=afp (hs.nw hn0)
 obtain ⟨Al,c,rfl,hlc,hc,hA⟩:=hv
 obtain ⟨ad,cO,rfl,hO⟩:=ho
 obtain ⟨E,e0,e1,e2⟩:=adX a0 5 (by decide) (by decide)
 obtain ⟨N,f0,f1,f2⟩:=adX a1 9 (by decide) (by decide)
 obtain ⟨m,m0,m1⟩:=ajN a2 90 (by decide) (by decide)
 have AE:Aside ((wrap64 (1+wrap64 ((IntKind.u64.wrap a0).tmod 5))=(E:Int))/\(wrap64 (1+wrap64 ((IntKind.u64.wrap a1).tmod 9))=(N:Int))/\(wrap64 ((IntKind.u64.wrap a2).tmod 90)=(m:Int))):=⟨e0,f0,m0⟩
 have AN:Aside ((1<=(E:Int)/\(E:Int)<=5)/\(1<=(N:Int)/\(N:Int)<=9)/\(m:Int)<90):=⟨⟨by omega,by omega⟩,⟨by omega,by omega⟩,m1⟩
 clear e0 e1 e2 f0 f1 f2 m0 m1
 have A0:Aside (Aa w ν/\(l.length<=c/\c<=9223372036854775807)/\(∀k,k<l.length->∃ad,Al=some ad/\w.cell? (ad.add k)=some (.int .i64 (l.getD k 0)))/\(0<n->∃gO,ad=some gO/\vI w gO n A L)):=⟨hs,⟨hlc,hc⟩,hA,hO⟩
 clear hs hlc hc hA hO
 by_cases hn:1<=n/\n<=6
 ·obtain ⟨gO,rfl,hO⟩:=A0.out.2.2.2 (by omega)
  have AO0:Aside (vI w gO n A L):=hO
  clear hO
  have n1:¬(n:Int)<1:=by omega
  have n6:¬(n:Int) > 6:=by omega
  go_enter Tryz.func7,Tryz.ntmps7
  go_wp2_with (go_at_call 24;(with_reducible refine ha.mono ?_);rintro ev w1 ⟨rfl,hw1⟩)
  have A1:Aside (Nw w w1):=hn0.trans hw1
  have AC:Aside (w1.cell? ⟨w.heap.size,0,none⟩=some (.int .i64 a0)/\w1.cell? ⟨w.heap.size,1,none⟩=some (.int .i64 a1)/\w1.cell? ⟨w.heap.size,2,none⟩=some (.int .i64 a2)):=⟨hw1.iM (by simp),hw1.iM (by simp),hw1.iM (by simp)⟩
  clear hw1 ha hn0
  have AO:Aside (vI w1 gO n A L):=AO0.out.nw A1.out
  go_loopg [7] n (λk i wr=>∃j:Nat,i=.int .i64 j/\j+k=n/\w1=wr/\∀q,q<j->(L q).length<=12)
  case atStart=>exact ⟨0,rfl,by omega,rfl,λq hq=>absurd hq (Nat.not_lt_zero _)⟩
  case round =>
   obtain ⟨j,rfl,hjk,rfl,h12⟩:=hrel
   by_cases hlt:j<n
   ·have hlt':(j:Int)<(n:Int):=by omega
    obtain ⟨⟨cj,hcell,-⟩,-⟩:=AO.out.ex j hlt
    have hj0:(0:Int)<=(j:Int):=by omega
    have hj2:(j:Int)+1<9223372036854775807:=by omega
    by_cases hl:(L j).length<=12
    ·have hl':¬((L j).length:Int) > 12:=by omega
     have A2:Aside (∀q,q<j+1->(L q).length<=12):=λq hq=>by
      rcases Nat.lt_or_ge q j with h | h
      ·exact h12 q h
      ·obtain rfl:q=j:=by omega
       exact hl
     go_wp2
     go_roundg (gk-1)
     case measure=>omega
     case rel=>exact ⟨j+1,by go_num,by omega,rfl,A2.out⟩
    ·have hl':((L j).length:Int) > 12:=by omega
     go_wp2
     go_ret
     exact ⟨rfl,A1.out⟩
   ·have hlt':¬(j:Int)<(n:Int):=by omega
    have hjn:j=n:=by omega
    have hsr:=A0.out.1.nw A1.out
    have hsz:∀k,k<8->(ν (Ab k)).block<w1.heap.size:=λk hk=>hsr.lt (by unfold Ab;split <;> omega)
    have hy:=Zh E N m n gO cO AN.out.1 hn ⟨AN.out.2.1.1,by have:=AN.out.2.1.2;omega⟩ ⟨by omega,by have:=AN.out.2.2;omega⟩ w1 AO.out _ hsr.sn hsz
    have A2:Aside (Aa w1 ν/\(∀q,q<n->(L q).length<=12)):=⟨hsr,λq hq=>h12 q (by omega)⟩
    obtain ⟨c0,c1,c2⟩:=AC.out
    obtain ⟨E0,E1,E2⟩:=AE.out
    clear hsr hsz h12
    go_wp2_with (first
      | (go_at_call 25;(with_reducible refine hy.mono ?_);intro ev w2 hp2;obtain ⟨aP,g,c2,p,p0,rfl,hY,hF,hact⟩:=hp2))
    obtain ⟨aW,hR⟩:=hY.run
    obtain ⟨hT,-⟩:=ajv hF ⟨by omega,by have:=AN.out.2.2;omega⟩ hact hn AN.out.1 AN.out.2.1.1 A2.out.2
    obtain ⟨BP,eZ⟩:=hR.pl
    obtain ⟨bp,rfl,-⟩:=eZ.cells (by obtain ⟨LL,-,-,-,-,hg⟩:=hT.lists;exact hg)
    have A3:Aside (Tw n E 540000 p (λi=>Wk.new E i n N (L i))/\sJ w1 w2 ⟨bp,0,none⟩ aW A w1.heap.size g n p (λi=>Wk.new E i n N (L i))):=⟨hT,hR⟩
    clear hy hY hF hact hR hT eZ
    go_loopg [10] 1200 (λk i wx=>∃t:Nat,i=.int .i64 t/\(t+k=1200/\t<=l.length)/\Aside (∃p W K,Tw n E K p W/\K<=540000+20 * (t:Int)/\sJ w1 wx ⟨bp,0,none⟩ aW A w1.heap.size g n p W))
    case atStart=>exact ⟨0,rfl,⟨by omega,by omega⟩,_,_,_,A3.out.1,by omega,A3.out.2⟩
    case round =>
     rename World=>wx
     obtain ⟨t,rfl,htk,hRR⟩:=hrel
     obtain ⟨p1,W1,K1,hT1,hK1,CB⟩:=hRR.out
     clear hRR
     by_cases hlt2:t<l.length/\t<1200
     ·obtain ⟨adl,rfl,hcell⟩:=A0.out.2.2.1 t hlt2.1
      replace hcell:=(A1.out.trans CB.nw).iM hcell
      obtain ⟨x,hx⟩:∃x,x=l.getD t 0:=⟨_,rfl⟩
      rw [<-hx] at hcell
      obtain ⟨q,hq,Cv⟩:=alD x n hn
      rw [wrS (x:=(n:Int)) (by omega) (by omega)] at hq
      have hrow:wx.cell? ⟨g,(wrap64 ((IntKind.u64.wrap x).tmod (n:Int))).toNat,none⟩=some (.pointer (some ⟨aW q,0,none⟩)):=by
       rw [hq]
       exact CB.row q Cv
      have hq0:0<=wrap64 ((IntKind.u64.wrap x).tmod (n:Int)):=by omega
      have hq1:wrap64 ((IntKind.u64.wrap x).tmod (n:Int))<(n:Int):=by omega
      have hdz:¬(n:Int)=0:=by omega
      have hsz:∀k,k<8->(ν (Ab k)).block<w1.heap.size:=λk hk=>A2.out.1.lt (by unfold Ab;split <;> omega)
      have hst:=afo CB hT1 (by omega) Cv A2.out.1.sn hsz
      have A5:Aside (x=l.getD t 0/\(wrap64 ((IntKind.u64.wrap x).tmod (n:Int))=(q:Int)/\q<n)):=⟨hx,hq,Cv⟩
      have h1:(t:Int)<(l.length:Int):=by omega
      have h2:(t:Int)<1200:=by omega
      have A6:Aside (K1<=540000+20 * (t:Int)):=hK1
      clear hx hq Cv CB hT1 hsz hK1
      go_wp2_with (first
        | (go_at_call 26;(with_reducible refine hst.mono ?_);rintro ev w3 ⟨b3,p3,W3,K3,rfl,hK3,Rh,hT3⟩;obtain ⟨BP3,Re⟩:=Rh.pl;obtain ⟨L3,hI3⟩:=Tw.ik hT3;have hit:=abQ (A2.out.1.nw Rh.nw) Re hI3;have A7:Aside (K3<=K1+20/\sJ w1 w3 ⟨bp,0,none⟩ aW A w1.heap.size g n p3 W3/\Tw n E K3 p3 W3):=⟨hK3,Rh,hT3⟩;clear Re hI3 Rh hT3 hK3)
        | (go_at_call 27;(with_reducible refine hit.mono ?_);rintro ev w4 ⟨v1,v2,rfl,hw4,hIt⟩;obtain ⟨⟨i1,k1,c1',i2,k2,c2',rfl,rfl,hle,hk10⟩,hri⟩:=hIt;have an6:=hri w4 (cK.refl _ _);have ap8:¬(k2:Int)<(k1:Int):=by omega)
        | (go_at_call 28;(with_reducible refine an6.mono ?_);rintro ev w5 ⟨rfl,uD⟩))
      go_roundg (gk-1)
      case measure=>omega
      case rel=>exact ⟨t+1,by go_num,⟨by omega,by omega⟩,_,_,_,A7.out.2.2,by have:=A7.out.1;have:=A6.out;push_cast;omega,A7.out.2.1.more (hw4.trans uD)⟩
     ·have hex:¬(t:Int)<(l.length:Int)\/((t:Int)<(l.length:Int)/\¬(t:Int)<1200):=by omega
      have A8:Aside (Nw w wx):=A1.out.trans CB.nw
      clear CB hT1 htk
      rcases hex with h1 | ⟨h1,h2⟩
      all_goals (
        go_wp2
        go_ret
        exact ⟨rfl,A8.out⟩)
 ·rcases (by omega:(n:Int)<1\/(¬(n:Int)<1/\(n:Int) > 6)) with n1 | ⟨n1,n6⟩
  all_goals (
    go_enter Tryz.func7,Tryz.ntmps7
    go_wp2_with (go_at_call 24;(with_reducible refine ha.mono ?_);rintro ev w1 ⟨rfl,hw1⟩)
    have A1:Aside (Nw w w1):=hn0.trans hw1
    have AC:Aside (w1.cell? ⟨w.heap.size,0,none⟩=some (.int .i64 a0)/\w1.cell? ⟨w.heap.size,1,none⟩=some (.int .i64 a1)/\w1.cell? ⟨w.heap.size,2,none⟩=some (.int .i64 a2)):=⟨hw1.iM (by simp),hw1.iM (by simp),hw1.iM (by simp)⟩
    clear hw1 ha hn0
    go_ret
    exact ⟨rfl,A1.out⟩)
end Go.Proofs.YthomdlajobnmnaaGreatDoor.Sk
