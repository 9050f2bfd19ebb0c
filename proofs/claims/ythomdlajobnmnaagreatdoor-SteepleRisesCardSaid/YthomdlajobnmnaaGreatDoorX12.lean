/- part 12 of the proof -/
import Derived.Test.YthomdlajobnmnaaGreatDoorX11
import Derived.Test.YthomdlajobnmnaaGreatDoorX8
import Derived.Test.YthomdlajobnmnaaGreatDoorX9
set_option linter.unusedSimpArgs false
set_option linter.unusedVariables false
namespace Go.Proofs.YthomdlajobnmnaaGreatDoor
open Go.RowKit Go.Rex
structure nK (w:World) (a:Addr) (r:RS) (B:Nat->Prop):Prop where
 ex:∃ρ ν,ν 0=a/\aD ρ ν dO w/\aa ρ 0 4=r/\dw ρ 4/\∀b,iw ρ ν dO b->B b
section
variable {w w':World} {a:Addr} {r:RS} {B B':Nat->Prop}
theorem nK.frame (h:nK w a r B) (d:∀b,B b->w'.heap[b]?=w.heap[b]?):nK w' a r B:=by
 obtain ⟨e,f,j,g,k,i,c⟩:=h.ex
 exact ⟨e,f,j,g.zN Bz λb l=>d b (c b l),k,i,c⟩
theorem nK.mono (h:nK w a r B) (e:∀b,B b->b<w.heap.size->B' b):nK w a r B':=by
 obtain ⟨f,g,j,c,l,i,k⟩:=h.ex
 exact ⟨f,g,j,c,l,i,λb d=>e b (k b d) (o7 c d)⟩
theorem nK.step (h:nK w a r B):∃b,a=⟨b,0,none⟩/\B b/\w.cell? ⟨b,18,none⟩=some (.int .i64 r.step):=by
 obtain ⟨i,d,rfl,e,rfl,j,f⟩:=h.ex
 obtain ⟨c,k,g2,g⟩:=e.ak 0 _ rfl rfl rfl
 have g2:=g2.cells rfl
 refine ⟨(d 0).block,c,f _ ⟨0,_,rfl,rfl,rfl⟩,?_⟩
 have:=g.ex 18 _ rfl rfl
 unfold World.cell?
 rw [g2]
 exact this
end
def gR:Nat->Nat
 | 0=>0
 | k=>k+3
theorem JG:∀i j,i<dO.length->j<dO.length->gR i=gR j->i=j:=by
 have:∀i,i<4->∀j,j<4->gR i=gR j->i=j:=by decide
 intro i j b a
 exact this i b j a
def oG (c:Ca):Value:=.agg #[.int .i64 c.kind,.int .i64 c.slot,.int .i64 c.gen,.int .i64 c.field,.int .i64 c.ay.slot,.int .i64 c.ay.gen,.int .i64 c.ay.tag,.int .i64 c.ay.num,.bool c.ay.mark,.int .i64 c.new.slot,.int .i64 c.new.gen,.int .i64 c.new.tag,.int .i64 c.new.num,.bool c.new.mark,.int .i64 c.i,.int .i64 c.j,.int .i64 c.code,.int .i64 c.val]
def Ht (f:Nat->Int) (g:Nat->Bool):Env:=⟨f,g,λ_=>undef,λ_ _ _ _=>0,λ_ _ _ _=>false,λ_ _ _ _=>undef⟩
def ada (c:Ca):Env:=Ht (λi=>([c.kind,c.slot,c.gen,c.field,c.ay.slot,c.ay.gen,c.ay.tag,c.ay.num,0,c.new.slot,c.new.gen,c.new.tag,c.new.num,0,c.i,c.j,c.code,c.val]:List Int).getD i 0) λi=>if i=8 then c.ay.mark else c.new.mark
def xY (x:Rp):Env:=Ht (λi=>([x.word.slot,x.word.gen,x.word.tag,x.word.num]:List Int).getD i 0) λi=>if i=4 then x.word.mark else x.ok
theorem Yq {w:World} {b:Nat} {s:Int} (h:w.cell? ⟨b,18,none⟩=some (.int .i64 s)):Calls Tryz.prog 36 #[.pointer (some ⟨b,0,none⟩)] w λe w'=>e=.returned (.bool (decide (s≠0)))/\w'=w:=by
 go_enter Tryz.func36,Tryz.ntmps36
 go_wp2
 go_ret
 by_cases a:s=0 <;> simp [a]
structure uL (r:RS):Prop where
 st:(0<=r.me/\r.me<6)/\1<=r.threads/\r.threads<=6
 few:r.notes.length<=1000000
def smW (w:Wd):Prop:=(-1000000000000<=w.tag/\w.tag<=1000000000000)/\-1000000000000<=w.num/\w.num<=1000000000000
structure uM (r:RS) (x:Rp):Prop where
 ok:uL r
 s13:r.step=13->r.seen.length<=99999/\(0<=r.index/\r.index<=99999)/\(r.af=4->smW r.clock)
 s15:r.step=15->r.af=4
 w:smW x.word
 freed:-1000000000000<=r.freed/\r.freed<=1000000000000
 s16:r.step=16->∃d l,r.bK=d :: l/\d∈r.notes
 s0:r.step≠0
 s4:r.step=4->0<=r.index/\r.index<=8
 anp:r.step=5\/r.step=6\/r.step=7->0<=r.call.i/\r.call.i<9
theorem ahd {q:Env} {x:Rp} (H:uM (aa q 0 4) x) (f:az q 71=x) (c:dw q 4):zJ q:=by
 have b:(aa q 0 4).step=q.iv 22:=rfl
 refine ⟨⟨c,⟨H.ok.st.1.1,H.ok.st.1.2,H.ok.st.2.1,H.ok.st.2.2⟩,⟨⟨?_,λh=>?_⟩,λh e=>(H.s13 h).2.2 e,λh=>(H.s13 h).2.1,λh=>H.s15 h⟩,?_,H.freed,H.s16⟩,H.s0,H.s4,H.anp⟩
 ·have a:(aN q 70 (q.iv 59)).length<=1000000:=H.ok.few
  rw [jN] at a
  omega
 ·have a:(dX q 68 (q.iv 49)).length<=99999:=(H.s13 h).1
  have d:(dX q 68 (q.iv 49)).length=(q.iv 49).toNat:=by simp [dX]
  rw [d] at a
  omega
 ·have:=H.w
  rw [<-f] at this
  exact this
def Qq (i:Nat):Nat:=if i<4 then i else i+85
theorem Qr:(List.range dO.length).map (λj=>nI.hp'[gR j]?)=dO.map λsb=>some (sb.aX Qq gR):=by kernel_rfl
theorem aaV {w:World} {a:Addr} {r:RS} {B:Nat->Prop} {c:Ca} (h:nK w a r B) (D:uL r) (H:r.step=0) (L:c.OK) :
  Calls Tryz.prog 37 #[.pointer (some a),oG c] w λC w'=>C=.returned .nilIface/\∃B',nK w' a (r.begin c).1 B'/\(∀x,B' x->w.heap.size<=x\/B x)/\cK w B w':=by
 obtain ⟨o,i,rfl,A,rfl,N,S⟩:=h.ex
 have y:bY 71 4 o (o.cat 71 (ada c)) i i:=⟨λ_ h=>if_pos h,λ_ h=>if_pos h,λ_ h=>if_pos h,λ_ h=>if_pos h,λ_ h=>if_pos h,λ_ h=>if_pos h,λ_ _=>rfl⟩
 obtain ⟨q,n⟩:∃q,q=o.cat 71 (ada c):=⟨_,rfl⟩
 rw [<-n] at y
 have O:aD q i dO w:=A.ext y (by kernel_rfl) (by decide)
 have p:aa q 0 4=aa o 0 4:=by rw [n];rfl
 have z:dw q 4:=by rw [n];exact N
 have E:fe q 71=c:=by rw [n];rfl
 have m:Bq q:=by
  refine ⟨⟨z,?_,?_⟩,?_,?_⟩
  ·have:(0<=(aa q 0 4).me/\(aa q 0 4).me<6)/\1<=(aa q 0 4).threads/\(aa q 0 4).threads<=6:=by rw [p];exact D.st
   exact ⟨this.1.1,this.1.2,this.2.1,this.2.2⟩
  ·have K:(aN q 70 (q.iv 59)).length<=1000000:=by
    have:=D.few
    rw [<-p] at this
    exact this
   rw [jN] at K
   show q.iv 59<=1000000
   omega
  ·show (aa q 0 4).step=0
   rw [p]
   exact H
  ·rw [E]
   exact L
 have j:=X3.run q i w O ⟨λg k _ h=>(by cases h),λg T k U _ _ h=>(by cases h)⟩ m
 have l:(nI.args.map (·.den q i)).toArray=#[.pointer (some (i 0)),oG c]:=by
  rw [n]
  rfl
 rw [l] at j
 refine Calls.mono j ?_
 rintro C w' ⟨d,u,e,rfl,M,f,t,J,s⟩
 have G:aa d 0 4=aa q 0 4:=by
  unfold aa fe bL az aC dX aN gX bB
  simp (disch:=decide) only [e.iv,e.bv,e.ic,e.bc]
 have R:fe d 71=fe q 71:=by
  unfold fe aC
  simp (disch:=decide) only [e.iv,e.bv]
 replace s:aa d 0 89=((aa d 0 4).begin (fe d 71)).1:=s
 rw [G,p,R,E] at s
 have F:∀x,jB q i dO x->B x:=λx h=>S x ((o8 y (by kernel_rfl) (by decide)).1 (mg h))
 refine ⟨rfl,iw (d.pull Qq) (λk=>u (gR k)) dO,⟨d.pull Qq,λk=>u (gR k),?_,M.sub Qr JG,s,J,λ_ h=>h⟩,λx P=>((t.sub Qr).ak Bz P).imp id (F x),f.os,f.tape,f.output,f.size,λb I Q=>f.block b I λh=>Q (F b h)⟩
 show u 0=i 0
 exact e.bl 0 (by decide)
def VA (i:Nat):Nat:=if i<4 then i else i+73
theorem Tj:(List.range dO.length).map (λj=>pQ.hp'[gR j]?)=dO.map λsb=>some (sb.aX VA gR):=by kernel_rfl
theorem aeF {w:World} {a:Addr} {r:RS} {B:Nat->Prop} {x:Rp} (h:nK w a r B) (G:uM r x) :
  Calls Tryz.prog 40 #[.pointer (some a),iy x] w λz w'=>z=.returned .nilIface/\∃B',nK w' a (r.aB x).1 B'/\(∀x,B' x->w.heap.size<=x\/B x)/\cK w B w':=by
 obtain ⟨n,f,rfl,y,rfl,J,O⟩:=h.ex
 have t:bY 71 4 n (n.cat 71 (xY x)) f f:=⟨λ_ h=>if_pos h,λ_ h=>if_pos h,λ_ h=>if_pos h,λ_ h=>if_pos h,λ_ h=>if_pos h,λ_ h=>if_pos h,λ_ _=>rfl⟩
 obtain ⟨q,m⟩:∃q,q=n.cat 71 (xY x):=⟨_,rfl⟩
 rw [<-m] at t
 have K:aD q f dO w:=y.ext t (by kernel_rfl) (by decide)
 have D:aa q 0 4=aa n 0 4:=by rw [m];rfl
 have u:dw q 4:=by rw [m];exact J
 have A:az q 71=x:=by rw [m];rfl
 have l:zJ q:=ahd (x:=x) (by rw [D];exact G) A u
 have i:=aaP.run q f w K ⟨λg k _ h=>(by cases h),λg P k Q _ _ h=>(by cases h)⟩ l
 have j:(pQ.args.map (·.den q f)).toArray=#[.pointer (some (f 0)),iy x]:=by
  rw [m]
  rfl
 rw [j] at i
 refine Calls.mono i ?_
 rintro z w' ⟨c,s,d,rfl,I,e,p,H,o⟩
 have E:aa c 0 4=aa q 0 4:=by
  unfold aa fe bL az aC dX aN gX bB
  simp (disch:=decide) only [d.iv,d.bv,d.ic,d.bc]
 have N:az c 71=az q 71:=by
  unfold az aC
  simp (disch:=decide) only [d.iv,d.bv]
 replace o:aa c 0 77=((aa c 0 4).aB (az c 71)).1:=o
 rw [E,D,N,A] at o
 have C:∀x,jB q f dO x->B x:=λx h=>O x ((o8 t (by kernel_rfl) (by decide)).1 (mg h))
 refine ⟨rfl,iw (c.pull VA) (λk=>s (gR k)) dO,⟨c.pull VA,λk=>s (gR k),?_,I.sub Tj JG,o,H,λ_ h=>h⟩,λx L=>((p.sub Tj).ak Bz L).imp id (C x),e.os,e.tape,e.output,e.size,λb F M=>e.block b F λh=>M (C b h)⟩
 show s 0=f 0
 exact d.bl 0 (by decide)
def VB (i:Nat):Nat:=if i<4 then i else i+67
theorem Tk:(List.range dO.length).map (λj=>nJ.hp'[gR j]?)=dO.map λsb=>some (sb.aX VB gR):=by kernel_rfl
theorem aeG {w:World} {a:Addr} {r:RS} {B:Nat->Prop}  (h:nK w a r B) (G:r.step≠0) :
  Calls Tryz.prog 39 #[.pointer (some a)] w λE w'=>E=.returned (.tuple #[rZ r.acc,.bool true])/\∃B',nK w' a r B'/\(∀x,B' x->w.heap.size<=x\/B x)/\cK w B w':=by
 obtain ⟨o,f,rfl,z,rfl,K,O⟩:=h.ex
 have u:bY 71 4 o (o.cat 71 (Ht (λ_=>0) λ_=>false)) f f:=⟨λ_ h=>if_pos h,λ_ h=>if_pos h,λ_ h=>if_pos h,λ_ h=>if_pos h,λ_ h=>if_pos h,λ_ h=>if_pos h,λ_ _=>rfl⟩
 obtain ⟨q,m⟩:∃q,q=o.cat 71 (Ht (λ_=>0) λ_=>false):=⟨_,rfl⟩
 rw [<-m] at u
 have L:aD q f dO w:=z.ext u (by kernel_rfl) (by decide)
 have C:aa q 0 4=aa o 0 4:=by rw [m];rfl
 have y:dw q 4:=by rw [m];exact K
 have l:Bv q:=⟨y,λh=>G (by rw [<-C];exact h)⟩
 have i:=Yn.run q f w L ⟨λg k _ h=>(by cases h),λg P k Q _ _ h=>(by cases h)⟩ l
 have j:(nJ.args.map (·.den q f)).toArray=#[.pointer (some (f 0))]:=by
  rw [m]
  rfl
 rw [j] at i
 refine Calls.mono i ?_
 rintro E w' ⟨c,t,d,rfl,J,e,s,I,⟨n,A⟩,p⟩
 have D:aa c 0 4=aa q 0 4:=by
  unfold aa fe bL az aC dX aN gX bB
  simp (disch:=decide) only [d.iv,d.bv,d.ic,d.bc]
 replace p:aa c 0 71=aa c 0 4:=p
 replace n:bL c 138=(aa c 0 4).acc:=n
 replace A:c.bv 152=true:=A
 rw [D,C] at p
 rw [D,C] at n
 have F:∀x,jB q f dO x->B x:=λx h=>O x ((o8 u (by kernel_rfl) (by decide)).1 (mg h))
 refine ⟨?_,iw (c.pull VB) (λk=>t (gR k)) dO,⟨c.pull VB,λk=>t (gR k),?_,J.sub Tk JG,p,I,λ_ h=>h⟩,λx M=>((s.sub Tk).ak Bz M).imp id (F x),e.os,e.tape,e.output,e.size,λb H N=>e.block b H λh=>N (F b h)⟩
 ·rw [<-n]
  show Ending.returned (.tuple #[_,.bool (c.bv 152)])=_
  rw [A]
  rfl
 ·show t 0=f 0
  exact d.bl 0 (by decide)
def Qs (i:Nat):Nat:=if i<4 then i else i+67
theorem Qt:(List.range dO.length).map (λj=>mf.hp'[gR j]?)=dO.map λsb=>some (sb.aX Qs gR):=by kernel_rfl
theorem aaW {w:World} {a:Addr} {r:RS} {B:Nat->Prop}  (h:nK w a r B)  :
  Calls Tryz.prog 38 #[.pointer (some a)] w λC w'=>C=.returned (iy r.bS)/\∃B',nK w' a r B'/\(∀x,B' x->w.heap.size<=x\/B x)/\cK w B w':=by
 obtain ⟨o,f,rfl,z,rfl,I,M⟩:=h.ex
 have u:bY 71 4 o (o.cat 71 (Ht (λ_=>0) λ_=>false)) f f:=⟨λ_ h=>if_pos h,λ_ h=>if_pos h,λ_ h=>if_pos h,λ_ h=>if_pos h,λ_ h=>if_pos h,λ_ h=>if_pos h,λ_ _=>rfl⟩
 obtain ⟨q,m⟩:∃q,q=o.cat 71 (Ht (λ_=>0) λ_=>false):=⟨_,rfl⟩
 rw [<-m] at u
 have J:aD q f dO w:=z.ext u (by kernel_rfl) (by decide)
 have E:aa q 0 4=aa o 0 4:=by rw [m];rfl
 have y:dw q 4:=by rw [m];exact I
 have l:xV q:=y
 have i:=Vx.run q f w J ⟨λg k _ h=>(by cases h),λg N k O _ _ h=>(by cases h)⟩ l
 have j:(mf.args.map (·.den q f)).toArray=#[.pointer (some (f 0))]:=by
  rw [m]
  rfl
 rw [j] at i
 refine Calls.mono i ?_
 rintro C w' ⟨c,t,d,rfl,H,e,s,G,n,p⟩
 have A:aa c 0 4=aa q 0 4:=by
  unfold aa fe bL az aC dX aN gX bB
  simp (disch:=decide) only [d.iv,d.bv,d.ic,d.bc]
 replace p:aa c 0 71=aa c 0 4:=p
 replace n:az c 138=(aa c 0 4).bS:=n
 rw [A,E] at p
 rw [A,E] at n
 have D:∀x,jB q f dO x->B x:=λx h=>M x ((o8 u (by kernel_rfl) (by decide)).1 (mg h))
 refine ⟨?_,iw (c.pull Qs) (λk=>t (gR k)) dO,⟨c.pull Qs,λk=>t (gR k),?_,H.sub Qt JG,p,G,λ_ h=>h⟩,λx K=>((s.sub Qt).ak Bz K).imp id (D x),e.os,e.tape,e.output,e.size,λb F L=>e.block b F λh=>L (D b h)⟩
 ·rw [<-n]
  rfl
 ·show t 0=f 0
  exact d.bl 0 (by decide)
def anq (b:SB):SB:={b with own:=false,ro:=true}
def aeH:dJ:={f:=41,nv:=13,gl:=eG DN 0,args:=[.one (.ptr {ak:=8}),.agg [.int .i64 (.lit 0),.int .i64 (.lit 0),iv 12]],hp:=oF ++ (DL 0 2 8).map anq,iV:=18,ret:=.iB [.agg (l6 13),.one (.bool (.lit true))],hp':=List.replicate 13 dS}
end Go.Proofs.YthomdlajobnmnaaGreatDoor
namespace Go.Proofs.YthomdlajobnmnaaGreatDoor
open Go.Rex
def Ca.of (kind:Int):Ca:={Ca.zero with kind:=kind}
structure Sm (a b:Lo):Prop where
 af:b.af=a.af
 me:b.me=a.me
 threads:b.threads=a.threads
 most:b.most=a.most
theorem Sm.refl (a:Lo):Sm a a:=⟨rfl,rfl,rfl,rfl⟩
theorem fK {c:Prop} [Decidable c] {l:Lo} {a b:LR} (e:Sm l a.1) (d:Sm l b.1):Sm l (if c then a else b).1:=by
 by_cases h:c
 ·rw [if_pos h];exact e
 ·rw [if_neg h];exact d
theorem RT.Qu (l:Lo) (k:Int):Sm l (RT.leave l k).1:=by
 refine fK ⟨rfl,rfl,rfl,rfl⟩ (fK ?_ (Sm.refl l))
 cases RS.first l.h k.toNat (9-k.toNat) <;> exact ⟨rfl,rfl,rfl,rfl⟩
theorem RT.Tm (l:Lo):Sm l (RT.scan l).1:=fK (Sm.refl l) (fK (Sm.refl l) (Sm.refl l))
theorem RT.Qv (l:Lo):Sm l (RT.bQ l).1:=fK (RT.Tm l) (Sm.refl l)
theorem RT.Tn (l:Lo) (w:Wd) (b d:Int):Sm l (RT.bQ (RT.note l w b d)).1:=by
 obtain ⟨a1,a2,a3,a4⟩:=RT.Qv (RT.note l w b d)
 exact ⟨a1,a2,a3,a4⟩
theorem RT.aaX (l:Lo) (c:Ca):Sm l (RT.begin l c).1 :=
 fK (fK (Sm.refl l) (Sm.refl l))<|fK (RT.Qu l 0)<|fK (Sm.refl l)<|fK (Sm.refl l)<|fK (Sm.refl l)<|fK (Sm.refl l)<|fK (fK ⟨rfl,rfl,rfl,rfl⟩ (Sm.refl l))<|fK (fK (Sm.refl l) (Sm.refl l))<|fK (Sm.refl l) <|
  fK (fK (RT.Tn ..)<|fK (Sm.refl l)<|fK (Sm.refl l) (Sm.refl l)) (RT.Tm l)
theorem RT.Lh (l:Lo) (r:List Nt):Sm l (RT.ek l r).1:=by cases r <;> exact Sm.refl l
theorem Sm.ok {a b:Lo} (h:Sm a b) (c:a.OK):b.OK:=⟨by rw [h.af];exact c.af,by rw [h.me,h.threads];exact c.me,by rw [h.threads];exact c.threads,by rw [h.most];exact c.most⟩
theorem RT.aaY {l:Lo} {c:Ca} (h:l.OK):(RT.begin l c).1.OK:=(RT.aaX l c).ok h
theorem RT.zO {t:RT} (h:t.aH=0):∃x,t=.idle x:=by
 cases t with
 | idle x=>exact ⟨x,rfl⟩
 | _=>cases h
section
variable {p:PS}
theorem Hu {s g f:Int} {o w:Wd} (a:p.has s g f) (b:p.live s g):p.act ⟨1,s,g,f,o,w⟩=({p with steps:=p.steps+1},some ⟨p.at s f,true⟩):=by
 unfold PS.act
 rw [if_pos (by unfold PS.valid;rw [if_pos (.inl rfl)];exact a),if_pos (by unfold PS.right;rw [if_neg (show ¬(1:Int)=4 by decide),if_neg (show ¬(1:Int)=5 by decide)];exact b)]
 rfl
theorem Eg {s g f:Int} {o w:Wd} (a:p.has s g f) (b:p.live s g):p.act ⟨2,s,g,f,o,w⟩=(PS.put {p with steps:=p.steps+1} s f w,some ⟨Wd.zero,true⟩):=by
 unfold PS.act
 rw [if_pos (by unfold PS.valid;rw [if_pos (.inr (.inl rfl))];exact a),if_pos (by unfold PS.right;rw [if_neg (show ¬(2:Int)=4 by decide),if_neg (show ¬(2:Int)=5 by decide)];exact b)]
 rfl
theorem BA {s g f:Int} {o w:Wd} (a:p.has s g f) (b:p.live s g):p.act ⟨3,s,g,f,o,w⟩=if eY (p.at s f) o then (PS.put {p with steps:=p.steps+1} s f w,some ⟨p.at s f,true⟩) else ({p with steps:=p.steps+1},some ⟨p.at s f,false⟩):=by
 unfold PS.act
 rw [if_pos (by unfold PS.valid;rw [if_pos (.inr (.inr rfl))];exact a),if_pos (by unfold PS.right;rw [if_neg (show ¬(3:Int)=4 by decide),if_neg (show ¬(3:Int)=5 by decide)];exact b)]
 unfold PS.makes
 rw [if_neg (show ¬(3:Int)=4 by decide),if_neg (show ¬(3:Int)=5 by decide),if_neg (show ¬(3:Int)=1 by decide),if_neg (show ¬(3:Int)=2 by decide)]
 by_cases g:eY (p.at s f) o
 ·rw [if_pos g,if_pos (show eY (PS.at {p with steps:=p.steps+1} s f) o from g)]
  rfl
 ·rw [if_neg g,if_neg (show ¬eY (PS.at {p with steps:=p.steps+1} s f) o from g)]
  rfl
theorem aeI {s g f:Int} {o w:Wd}:p.act ⟨4,s,g,f,o,w⟩=((PS.alloc {p with steps:=p.steps+1} w.num).1,some (PS.alloc {p with steps:=p.steps+1} w.num).2):=by
 unfold PS.act
 rw [if_pos (by unfold PS.valid;rw [if_neg (by simp),if_pos rfl];trivial),if_pos (by unfold PS.right;rw [if_pos rfl];trivial)]
 rfl
theorem Qw {s g f:Int} {o w:Wd} (a:p.is o.slot) (b:p.live o.slot o.gen):p.act ⟨5,s,g,f,o,w⟩=(PS.free {p with steps:=p.steps+1} o.slot,some ⟨Wd.zero,true⟩):=by
 unfold PS.act
 rw [if_pos (by unfold PS.valid;rw [if_neg (by simp),if_neg (by simp),if_pos rfl];exact a),if_pos (by unfold PS.right;rw [if_neg (by simp),if_pos rfl];exact b)]
 rfl
end
structure Op where
 kind:Int
 key:Int
 val:Int
 dz:Int
 deriving DecidableEq
structure Jb where
 at':Int
 last:Ca
 op:Op
 node:Wd
 top:Wd
 val:Int
def Jb.new (o:Op):Jb:=⟨0,Ca.zero,o,Wd.zero,Wd.zero,0⟩
def Jb.ask (j:Jb) (s:Int) (c:Ca):Jb × Ca:=({j with at':=s},c)
def Jb.fin (j:Jb) (code val:Int):Jb × Ca:=({j with at':=-1,last:={Ca.of 12 with code:=code,val:=val}},{Ca.of 12 with code:=code,val:=val})
def ldC (w:Wd) (f:Int):Ca:={Ca.of 3 with slot:=w.slot,gen:=w.gen,field:=f}
def stC (w:Wd) (f:Int) (x:Wd):Ca:={Ca.of 4 with slot:=w.slot,gen:=w.gen,field:=f,new:=x}
def swC (o:Wd) (r:Wd):Ca:={Ca.of 5 with ay:=o,new:=⟨r.slot,r.gen,o.tag+1,0,false⟩}
def Jb.push (j:Jb) (x:Rp):Jb × Ca :=
 if j.at'=0 then j.ask 1 (Ca.of 8)
 else if j.at'=1 then (if x.ok=false then j.fin 4 0 else {j with node:=x.word}.ask 2 (stC x.word 1 (Wd.ig j.op.val)))
 else if j.at'=5 then (if x.ok=true then j.fin 1 0 else j.ask 3 (Ca.of 3))
 else if j.at'=2 then j.ask 3 (Ca.of 3)
 else if j.at'=3 then {j with top:=x.word}.ask 4 (stC j.node 2 x.word.bN)
 else if j.at'=4 then j.ask 5 (swC j.top j.node)
 else (j,j.last)
def Jb.pop (j:Jb) (x:Rp):Jb × Ca :=
 if j.at'=3 then (if x.ok=true then j.ask 4 (ldC j.top 1) else j.ask 1 (Ca.of 6))
 else if j.at'=0 then j.ask 1 (Ca.of 6)
 else if j.at'=1 then
  (if x.word.slot=0 then {j with top:=x.word}.fin 2 0
   else if j.op.kind=3 then {j with top:=x.word}.ask 4 (ldC x.word 1)
   else {j with top:=x.word}.ask 2 (ldC x.word 2))
 else if j.at'=2 then j.ask 3 (swC j.top x.word)
 else if j.at'=4 then (if j.op.kind=3 then {j with val:=x.word.num}.fin 1 x.word.num else {j with val:=x.word.num}.ask 5 {Ca.of 10 with ay:=j.top})
 else if j.at'=5 then j.fin 1 j.val
 else (j,j.last)
def Jb.next (j:Jb) (x:Rp):Jb × Ca:=if j.op.kind=1 then j.push x else j.pop x
def Op.bP (o:Op):Prop:=if o.kind=1 then o.key=0/\o.dz=0/\0<=o.val/\o.val<=1073741824 else (o.kind=2\/o.kind=3)/\o.key=0/\o.val=0/\o.dz=0
instance (o:Op):Decidable o.bP:=by unfold Op.bP;exact inferInstance
structure Wk where
 r:RS
 ops:List Op
 j:Option Jb
 aj:Bool
 said:List (Int × Int)
def Wk.idle (w:Wk):Prop:=w.r.step=0/\w.j=none/\w.aj=false/\w.said.length>=w.ops.length
instance (w:Wk):Decidable (w.j=none):=by
 cases h:w.j with
 | none=>exact isTrue rfl
 | some _=>exact isFalse (λh=>by cases h)
instance (w:Wk):Decidable w.idle:=by unfold Wk.idle;exact inferInstance
theorem FY (h:Nat->Wd):∀(k n m:Nat),RS.first h n k=some m->n<=m/\m<n+k
 | 0,n,m,e=>by cases e
 | k+1,n,m,e=>by
  unfold RS.first at e
  by_cases a:h n≠Wd.zero
  ·rw [if_pos a] at e
   cases e
   omega
  ·rw [if_neg a] at e
   have:=FY h k (n+1) m e
   omega
section
variable {l:Lo} {t:RT} {p:PS}
end
end Go.Proofs.YthomdlajobnmnaaGreatDoor
namespace Go.Proofs.YthomdlajobnmnaaGreatDoor
open Go.RowKit Go.Rex
theorem Nw.trans {a b c:World} (d:Nw a b) (e:Nw b c):Nw a c :=
 ⟨e.os.trans d.os,e.tape.trans d.tape,e.output.trans d.output,Nat.le_trans d.size e.size,λk f _=>(e.block k (Nat.lt_of_lt_of_le f d.size) id).trans (d.block k f id)⟩
theorem Yr {a b c:World} {F:Nat->Prop} (d:Nw a b) (e:cK b F c) (g:∀x,F x->a.heap.size<=x):Nw a c :=
 ⟨e.os.trans d.os,e.tape.trans d.tape,e.output.trans d.output,Nat.le_trans d.size e.size,λk f _=>(e.block k (Nat.lt_of_lt_of_le f d.size) λh=>absurd (g k h) (Nat.not_le.2 f)).trans (d.block k f id)⟩
theorem Nw.iM {w w':World} (h:Nw w w') {a:Addr} {x:Value} (b:w.cell? a=some x):w'.cell? a=some x:=by
 rw [<-b]
 unfold World.cell?
 rw [h.block _ (World.block_lt_of_cell? _ _ b) id]
theorem kr.cells {w:World} {a:Addr} {p:PS} {B:Nat->Prop} (h:kr w a p B) (i:p.bP=true):∃b,a=⟨b,0,none⟩/\w.cell? ⟨b,4,none⟩=some (.int .i64 p.made)/\w.cell? ⟨b,5,none⟩=some .nilIface:=by
 obtain ⟨e,f,rfl,g,rfl,l,j⟩:=h.ex
 obtain ⟨d,k,g2,c⟩:=g.ak 0 _ rfl rfl rfl
 have g2:=g2.cells rfl
 refine ⟨(f 0).block,d,?_,?_⟩
 ·have:=c.ex 4 _ rfl rfl
  unfold World.cell?
  rw [g2]
  exact this
 ·have:=c.ex 5 _ rfl rfl
  unfold World.cell?
  rw [g2]
  refine this.trans (congrArg some ?_)
  show (if e.bv 7=true then Value.nilIface else _)=_
  exact if_pos i
end Go.Proofs.YthomdlajobnmnaaGreatDoor
namespace Go.Proofs.YthomdlajobnmnaaGreatDoor
open Go.Rex
def Lj (v:Nat):List SC:=[iv v,iv (v+1),iv (v+2),iv (v+3)]
end Go.Proofs.YthomdlajobnmnaaGreatDoor
namespace Go.Proofs.YthomdlajobnmnaaGreatDoor
open Go.RowKit Go.Rex
section
variable {w w':World} {a:Addr} {j:Jb} {B B':Nat->Prop}
end
end Go.Proofs.YthomdlajobnmnaaGreatDoor
namespace Go.Proofs.YthomdlajobnmnaaGreatDoor
open Go.Rex
theorem adb {k:Int} (h:1<=k/\k<=11):(Ca.of k).OK:=by
 have a:(0:Int)<=0/\(0:Int)<9:=by decide
 exact ⟨h.1,h.2,a.1,a.2,a.1,a.2⟩
end Go.Proofs.YthomdlajobnmnaaGreatDoor
