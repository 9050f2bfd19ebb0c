/- part 28 of the proof -/
import Derived.Test.YthomdlajobnmnaaGreatDoorT20
import Derived.Test.YthomdlajobnmnaaGreatDoorT27
set_option linter.unusedSimpArgs false
set_option linter.unusedVariables false
namespace Go.Proofs.YthomdlajobnmnaaGreatDoor
open Go.Rex
section
variable {Q:Vk→PS→Prop} {v:Vk} {w:Wk} {p:PS} {x:Rp}
theorem VW.idle (h:VW v w) (ht:v.t=.idle x):ib v.l (.idle x) w.r∧w.r.step=0∧w.r.bT=x:=by
 have hr:=h.rep
 rw [ht] at hr
 exact ⟨hr,hr.step,hr.more⟩
theorem VW.leave (h:VW v w) (ho:v.l.OK) (ht:v.t=.idle x) (hj:v.j=none) (hi:v.bV=true):(w.r.begin (Ca.of 2)).2=true∧VW (v.iG x) {w with bV:=false,r:=(w.r.begin (Ca.of 2)).1}:=by
 obtain ⟨hr,-,-⟩:=h.idle ht
 have hb:=hr.begin ho (zD (k:=2) (by decide))
 have e:v.iG x=({v with bV:=false}:Vk).with (RT.begin v.l (Ca.of 2)):=by
  unfold Vk.iG
  rw [hj]
  simp only
  rw [if_pos hi]
 rw [e]
 exact ⟨hb.2,hb.1,h.ops,h.j,rfl,h.said⟩
theorem VW.start (h:VW v w) (ho:v.l.OK) (ht:v.t=.idle x) (hj:v.j=none) (hi:v.bV=false):(w.r.begin (Ca.of 1)).2=true∧VW (v.iG x) {w with j:=some (Jb.new (w.ops.getD w.said.length ⟨0,0,0,0⟩)),bV:=true,r:=(w.r.begin (Ca.of 1)).1}:=by
 obtain ⟨hr,-,-⟩:=h.idle ht
 have hb:=hr.begin ho (zD (k:=1) (by decide))
 have e:v.iG x=({v with j:=some (Jb.new v.op),bV:=true}:Vk).with (RT.begin v.l (Ca.of 1)):=by
  unfold Vk.iG
  rw [hj]
  simp only
  rw [if_neg (by rw [hi];decide)]
 rw [e]
 refine ⟨hb.2,hb.1,h.ops,?_,rfl,h.said⟩
 show some (Jb.new (w.ops.getD w.said.length ⟨0,0,0,0⟩))=some (Jb.new v.op)
 rw [h.ops,h.said]
 rfl
theorem VW.next (h:VW v w) (ho:v.l.OK) (ht:v.t=.idle x) {j:Jb} (hj:v.j=some j) (hm:v.may x) :
  ((j.next w.r.bT).2.kind=12∧w.said.length<w.ops.length∧VW (v.iG x) {w with said:=w.said ++ [((j.next w.r.bT).2.code,(j.next w.r.bT).2.val)],j:=none}) ∨
  ((j.next w.r.bT).2.kind≠12∧(j.next w.r.bT).2.OK∧(w.r.begin (j.next w.r.bT).2).2=true∧VW (v.iG x) {w with j:=some (j.next w.r.bT).1,r:=(w.r.begin (j.next w.r.bT).2).1}):=by
 obtain ⟨hr,-,hx⟩:=h.idle ht
 rw [hx]
 unfold Vk.may at hm
 rw [hj] at hm
 simp only at hm
 by_cases h12:(j.next x).2.kind=12
 ·have e:v.iG x={v with said:=v.said ++ [((j.next x).2.code,(j.next x).2.val)],j:=none}:=by
   unfold Vk.iG
   rw [hj]
   simp only
   rw [if_pos h12]
  rw [e]
  refine .inl ⟨h12,by rw [h.ops,h.said];exact hm.1 h12,h.rep,h.ops,rfl,h.bV,?_⟩
  show w.said ++ _=v.said ++ _
  rw [h.said]
 ·have hok:=hm.2 h12
  have hb:=hr.begin ho hok
  have e:v.iG x=({v with j:=some (j.next x).1}:Vk).with (RT.begin v.l (j.next x).2):=by
   unfold Vk.iG
   rw [hj]
   simp only
   rw [if_neg h12]
  rw [e]
  exact .inr ⟨h12,hok,hb.2,hb.1,h.ops,rfl,h.bV,h.said⟩
theorem KM:∀(n:Nat) {c m:Nat} {K:Int} {v:Vk} {w:Wk},Fin Q c m v p→VW v w→AV K v p→c<n →
  ∃w' v' b c' m' K',w.go n=(w',b)∧VW v' w'∧AV K' v' p∧K'≤K+n∧((b=some false∧v'.done∧Q v' p)∨(b=none∧v'.t.iF≠0∧Fin Q c' m' v' p∧m'≤m))
 | 0,c,m,K,v,w,_,_,_,hc=>absurd hc (Nat.not_lt_zero _)
 | n+1,c,m,K,v,w,hF,hV,hA,hc=>by
  have dn:v.done→Q v p→∃w' v' b c' m' K',w.go (n+1)=(w',b)∧VW v' w'∧AV K' v' p∧K'≤K+((n+1:Nat):Int)∧((b=some false∧v'.done∧Q v' p)∨(b=none∧v'.t.iF≠0∧Fin Q c' m' v' p∧m'≤m)):=fun hd hq=>by
   obtain ⟨d1,d2,d3,d4⟩:=hd
   refine ⟨w,v,some false,0,0,K,?_,hV,hA,by omega,.inl ⟨rfl,⟨d1,d2,d3,d4⟩,hq⟩⟩
   unfold Wk.go
   rw [if_neg (fun h=>h (hV.rep.step.trans d1)),hV.j.trans d2]
   simp only
   rw [if_neg (by rw [hV.bV,d3];decide),if_pos (by rw [hV.ops,hV.said];exact d4)]
  cases m with
  | zero=>exact dn hF.1 hF.2
  | succ m =>
   rcases hF with h | ⟨x,ht,hm,c',rfl,h⟩ | ⟨h0,p',x,ha,h⟩
   ·exact dn h.1 h.2
   ·have hA':=hA.iG ht hm
    have ho:=hA.mq.ok
    have key:∀w1:Wk,VW (v.iG x) w1→w.go (n+1)=w1.go n→∃w' v' b c' m' K',w.go (n+1)=(w',b)∧VW v' w'∧AV K' v' p∧K'≤K+((n+1:Nat):Int)∧((b=some false∧v'.done∧Q v' p)∨(b=none∧v'.t.iF≠0∧Fin Q c' m' v' p∧m'≤m+1)):=fun w1 hV1 e=>by
     obtain ⟨w',v',b,c2,m',K',e',g1,g2,g3,g4⟩:=KM n h hV1 hA' (by omega)
     refine ⟨w',v',b,c2,m',K',e.trans e',g1,g2,by omega,?_⟩
     rcases g4 with g4 | ⟨a1,a2,a3,a4⟩
     ·exact .inl g4
     ·exact .inr ⟨a1,a2,a3,by omega⟩
    obtain ⟨-,hst,hx⟩:=hV.idle ht
    cases hj:v.j with
    | none =>
     unfold Vk.may at hm
     rw [hj] at hm
     simp only at hm
     rcases hm with hi | ⟨hi,hl,hg⟩
     ·obtain ⟨b1,b2⟩:=hV.leave ho ht hj hi
      refine key _ b2 ?_
      rw [Wk.go,if_neg (fun h=>h hst),hV.j.trans hj]
      simp only
      rw [if_pos (hV.bV.trans hi),if_neg (by rw [b1];decide)]
     ·obtain ⟨b1,b2⟩:=hV.start ho ht hj hi
      refine key _ b2 ?_
      have hg':(w.ops.getD w.said.length ⟨0,0,0,0⟩).dF:=by rw [hV.ops,hV.said];exact hg
      rw [Wk.go,if_neg (fun h=>h hst),hV.j.trans hj]
      simp only
      rw [if_neg (by rw [hV.bV,hi];decide),if_neg (by rw [hV.ops,hV.said];omega),if_neg (fun h=>h hg'),if_neg (by rw [b1];decide)]
    | some j =>
     rcases hV.next ho ht hj hm with ⟨k1,-,b2⟩ | ⟨k1,-,b1,b2⟩
     ·refine key _ b2 ?_
      rw [Wk.go,if_neg (fun h=>h hst),hV.j.trans hj]
      simp only
      rw [if_pos k1]
     ·refine key _ b2 ?_
      rw [Wk.go,if_neg (fun h=>h hst),hV.j.trans hj]
      simp only
      rw [if_neg k1,if_neg (by rw [b1];decide)]
   ·refine ⟨w,v,none,c,m+1,K,?_,hV,hA,by omega,.inr ⟨rfl,h0,.inr (.inr ⟨h0,p',x,ha,h⟩),Nat.le_refl _⟩⟩
    unfold Wk.go
    rw [if_pos (by rw [hV.rep.step];exact h0)]
theorem VW.bL (h:VW v w) (ho:v.l.OK) (hs:v.t.ko v.l) (h0:v.t.iF≠0) (x:Rp):(w.r.bL x).2=true∧VW (v.with (RT.bL v.l v.t x)) {w with r:=(w.r.bL x).1}:=by
 have hk:=h.rep.bL ho hs.fits h0 x
 exact ⟨hk.2,hk.1,h.ops,h.j,h.bV,h.said⟩
structure TJ (T:Int) (Q:Vk→PS→Prop) (m:Nat) (w:Wk) (p:PS):Prop where
 ex:∃v c K,Fin Q c m v p∧VW v w∧AV K v p∧c≤150∧K+201 * m≤T
structure TE (T:Int) (Q:Vk→PS→Prop) (w:Wk) (p:PS):Prop where
 ex:∃v K,v.done∧Q v p∧VW v w∧AV K v p∧K≤T+200
theorem TE.idle {T:Int} (h:TE T Q w p):w.idle:=by
 obtain ⟨v,K,⟨d1,d2,d3,d4⟩,-,hV,-⟩:=h.ex
 exact ⟨hV.rep.step.trans d1,hV.j.trans d2,hV.bV.trans d3,by rw [hV.ops,hV.said];exact d4⟩
theorem TJ.step {T:Int} {m:Nat} (h:TJ T Q m w p):∃w' p' b,w.step p=(w',p',b)∧((b=true∧∃m',m'<m∧TJ T Q m' w' p')∨(b=false∧p'=p∧TE T Q w' p')):=by
 obtain ⟨v,c,K,hF,hV,hA,hc,hK⟩:=h.ex
 obtain ⟨w1,v1,b,c',m',K',e,g1,g2,g3,g4⟩:=KM 200 hF hV hA (by omega)
 have hK':K'≤K+200:=g3
 unfold Wk.step
 rw [e]
 rcases g4 with ⟨rfl,hd,hq⟩ | ⟨rfl,h0,hF1,hm⟩
 ·exact ⟨w1,p,false,rfl,.inr ⟨rfl,rfl,v1,K',hd,hq,g1,g2,by omega⟩⟩
 ·simp only
  rw [if_neg (by rw [g1.rep.step];exact h0)]
  cases m' with
  | zero=>exact absurd hF1.1.1 h0
  | succ m' =>
   rcases hF1 with hd | ⟨x,ht,-⟩ | ⟨-,p',x,ha,hF2⟩
   ·exact absurd hd.1.1 h0
   ·rw [ht] at h0
    exact absurd rfl h0
   ·have hac:=g1.rep.acc h0
    rw [hac,ha]
    simp only
    obtain ⟨k1,k2⟩:=g1.bL g2.mq.ok g2.mq.ko h0 x
    refine ⟨_,p',_,rfl,.inl ⟨k1,m',by omega,⟨_,150,K'+1,hF2,k2,(g2.bL ha).1,Nat.le_refl _,?_⟩⟩⟩
    have:((m':Nat):Int)+1≤m:=by omega
    omega
end
def Q0 (vals:List Int) (v:Vk) (p:PS):Prop:=∃tag st,iM p tag st []∧st.map Nd.v=vals.reverse
def Q1 (vals:List Int) (v:Vk) (p:PS):Prop:=p.dF=true∧v.said=vals.reverse.map (fun x=>(1,x)) ++ [(2,0)]
def KN (E me N:Int):Lo:=⟨E,me,2,N,fun _=>Wd.zero,Sp.zero,[],0⟩
theorem Xh (E me N:Int):ib (KN E me N) (.idle ⟨Wd.zero,false⟩) (RS.new E me 2 N):=⟨rfl,rfl,rfl,rfl,rfl,rfl,rfl,rfl,rfl,fun h=>absurd rfl h,rfl⟩
theorem KO {E me N:Int} (hE:1≤E∧E≤5) (hm:0≤me∧me<2) (hN:1≤N):(KN E me N).OK:=⟨hE,hm,by show (1:Int)≤2∧(2:Int)≤6;decide,hN⟩
theorem Rs {E me N K:Int} {p:PS} {ops:List Op} (hE:1≤E∧E≤5) (hm:0≤me∧me<2) (hN:1≤N) (hp:p.OK) (hw:p.wb K) (hs:p.steps≤K) (hK:0≤K) (ho:ops.length≤100∧∀o∈ops,0≤o.val∧o.val≤3000) :
  AV K ⟨KN E me N,.idle ⟨Wd.zero,false⟩,ops,none,false,[]⟩ p:=by
 refine ⟨⟨KO hE hm hN,trivial,hp,⟨fun _=>Wb.zero hK,?_,?_⟩,Wb.zero hK,hw,?_,?_,hs,hK⟩,fun j hj=>(by cases hj),ho⟩
 ·show -(2000 * K+3000)≤0∧0≤2000 * K+3000
  omega
 ·show -(2000 * K+3000)≤0∧0≤2000 * K+3000
  omega
 ·show (0:Int)≤0∧0≤K
  omega
 ·show ((0:Nat):Int)≤K
  omega
theorem Rt (E me N:Int) (ops:List Op):VW ⟨KN E me N,.idle ⟨Wd.zero,false⟩,ops,none,false,[]⟩ (Wk.new E me 2 N ops):=⟨Xh E me N,rfl,rfl,rfl,rfl⟩
theorem YT {E N K:Int} {p:PS} {vals:List Int} (hE:1≤E∧E≤5) (hN:1≤N) (hv:∀v∈vals,0≤v∧v≤1000) (hl:vals.length≤12) (hp:p.OK) (hw:p.wb K) (hs:p.steps≤K) (hK:0≤K∧K≤1000) (hS:iM p 0 [] []) (hF:lY p 12) :
  ∃m,m≤1000∧TJ 100000 (Q0 vals) m (Wk.new E 0 2 N (vals.map eO)) p:=by
 have hF':lY p (vals.length:Nat)∨True:=.inr trivial
 have h:=AR (Q:=Q0 vals) (n:=0) vals [] (c:=100) (l:=KN E 0 N) (p:=p) (y:=⟨Wd.zero,false⟩) (tag:=0) (st:=[]) (m:=12) (KO hE (by decide) hN) hv hS hF (by omega) rfl (by decide) fun l' y p' tag' st' g1 g2 g3=>Fin.end ⟨rfl,rfl,rfl,by simp⟩ ⟨tag',st',by have:=g2.notes;rw [this] at g1;exact g1,g3⟩
 refine ⟨0+30 * vals.length,by omega,⟨_,100,K,h,Rt E 0 N _,Rs hE (by decide) hN hp hw hs hK.1 ⟨by simp;omega,fun o ho=>?_⟩,by decide,by omega⟩⟩
 obtain ⟨v,hv',rfl⟩:=List.mem_map.1 ho
 have:=hv v hv'
 show 0≤v∧v≤3000
 omega
theorem YU {E N:Int} {w:Wk} {p:PS} {vals:List Int} (hE:1≤E∧E≤5) (hN:1≤N) (hl:vals.length≤12) (h:TE 100000 (Q0 vals) w p) :
  ∃m,m≤2000∧TJ 600000 (Q1 vals) m (Wk.new E 1 2 N (List.replicate (vals.length+1) ek)) p:=by
 obtain ⟨v,K,-,⟨tag,st,hS,hst⟩,-,hA,hK⟩:=h.ex
 have hlen:st.length=vals.length:=by rw [←List.length_map (f:=Nd.v),hst,List.length_reverse]
 have h:=KL (Q:=Q1 vals) (n:=0) (k:=vals.length+1) st [] (c:=100) (l:=KN E 1 N) (p:=p) (y:=⟨Wd.zero,false⟩) (tag:=tag) (b:=12) (KO hE (by decide) hN) hS (by simp [hlen]) (by simp [KN];omega) (by decide) fun l' y p' tag' g1 g2=>Fin.end ⟨rfl,rfl,rfl,by simp [hlen]⟩ ⟨g1.dF,by
   show [] ++ st.map (fun x=>(1,x.v)) ++ [(2,0)]=_
   rw [List.nil_append,←hst,List.map_map]
   rfl⟩
 have hb:0+30+(110+12) * st.length≤2000:=by rw [hlen];omega
 refine ⟨_,hb,⟨_,100,K,h,Rt E 1 N _,Rs hE (by decide) hN hA.mq.KF hA.mq.pw hA.mq.st hA.mq.k0 ⟨by simp;omega,fun o ho=>?_⟩,by decide,by omega⟩⟩
 obtain ⟨-,rfl⟩:=List.mem_replicate.1 ho
 exact ⟨by decide,by decide⟩
end Go.Proofs.YthomdlajobnmnaaGreatDoor
namespace Go.Proofs.YthomdlajobnmnaaGreatDoor
open Go.RowKit Go.Rex
theorem Ru {k:Int} {l:Lo} {t:RT} {p:PS} {r:RS} (h:vC k l t p) (hr:ib l t r) (hk:k≤900000):sH r:=by
 have ho:=h.ok
 have hk':=hr.keeps
 have hn:=h.nl
 exact ⟨⟨⟨by rw [hk'.me];exact ho.me.1,by rw [hk'.me];have:=ho.me;have:=ho.threads;omega⟩,by rw [hk'.threads];exact ho.threads.1,by rw [hk'.threads];exact ho.threads.2⟩,by rw [hk'.notes];omega⟩
theorem VE {k:Int} {w:Wd} (h:Wb k w) (h0:0≤k) (hk:k≤900001):Yr w:=by
 obtain ⟨a,b,c,d⟩:=h
 exact ⟨by omega,by omega⟩
theorem YV {k:Int} {l:Lo} {t:RT} {p:PS} {r:RS} {x:Rp} (h:vC k l t p) (hr:ib l t r) (hk:k≤900000) (h0:t.iF≠0) (hx:Wb (k+1) x.word):oF r x:=by
 have hm:=hr.more
 have hs:=hr.step
 have hf:=h.fr
 have hsn:=h.ko
 have hk0:=h.k0
 have t13:r.step=13→∃ck seen,t=.gY ck seen:=fun e=>by
  rw [hs] at e
  cases t with
  | gY c s=>exact ⟨_,_,rfl⟩
  | _=>cases e
 refine ⟨Ru h hr hk,fun e=>?_,fun e=>?_,VE hx (by omega) (by omega),by rw [hr.freed];omega,fun e=>?_,by rw [hs];exact h0,fun e=>?_,fun e=>?_⟩
 ·obtain ⟨ck,seen,rfl⟩:=t13 e
  obtain ⟨a,b,c⟩:=hm
  have hl:seen.length≤60:=hsn.2
  rw [b,c]
  refine ⟨by omega,by omega,fun e4=>?_⟩
  rw [a (by rw [←hr.av];exact e4)]
  exact VE (show Wb k ck from h.tw) hk0 (by omega)
 ·rw [hs] at e
  cases t with
  | iQ=>rw [hr.av];exact hsn
  | _=>cases e
 ·rw [hs] at e
  cases t with
  | jT d q =>
   refine ⟨d,q,hm,?_⟩
   rw [hr.notes]
   exact List.Sublist.subset hsn (List.mem_cons_self ..)
  | _=>cases e
 ·rw [hs] at e
  cases t with
  | ji i =>
   rw [show r.index=i from hm]
   exact hsn
  | _=>cases e
 ·rw [hs] at e
  cases t with
  | gK c=>rw [show r.call=c from hm];exact hsn
  | jq c w=>rw [show r.call=c from hm.1];exact hsn.2
  | iE c a=>rw [show r.call=c from hm];exact hsn
  | _=>rcases e with e | e | e <;> cases e
def IF (Q:Vk→PS→Prop) (p:PS) (n:Nat) (k:Wk):Prop:=∃v c m K,VW v k∧AV K v p∧K+n≤800000∧Fin Q c m v p
theorem Ey (Q:Vk→PS→Prop) (p:PS):Ai (IF Q p) where
 rt:=fun n k ⟨v,c,m,K,hV,hA,hK,hF⟩=>Ru hA.mq hV.rep (by omega)
 len:=fun n k ⟨v,c,m,K,hV,hA,hK,hF⟩=>by rw [hV.ops];exact hA.ops.1
 leave:=fun n k ⟨v,c,m,K,hV,hA,hK,hF⟩ h0 hj hi=>by
  obtain ⟨x,ht⟩:=RT.Fy (hV.rep.step.symm.trans h0)
  obtain ⟨c',m',hm,hF'⟩:=FJ hF ht fun hd=>by
   have:=hd.2.2.1
   rw [←hV.bV,hi] at this
   cases this
  obtain ⟨b1,b2⟩:=hV.leave hA.mq.ok ht (hV.j.symm.trans hj) (hV.bV.symm.trans hi)
  exact ⟨b1,_,c',m',K+1,b2,hA.iG ht hm,by omega,hF'⟩
 start:=fun n k ⟨v,c,m,K,hV,hA,hK,hF⟩ h0 hj hi hl=>by
  obtain ⟨x,ht⟩:=RT.Fy (hV.rep.step.symm.trans h0)
  obtain ⟨c',m',hm,hF'⟩:=FJ hF ht fun hd=>by
   have:=hd.2.2.2
   rw [←hV.ops,←hV.said] at this
   omega
  have hj':=hV.j.symm.trans hj
  have hi':=hV.bV.symm.trans hi
  obtain ⟨b1,b2⟩:=hV.start hA.mq.ok ht hj' hi'
  refine ⟨?_,b1,_,c',m',K+1,b2,hA.iG ht hm,by omega,hF'⟩
  unfold Vk.may at hm
  rw [hj'] at hm
  simp only at hm
  rcases hm with hm | ⟨-,-,hm⟩
  ·rw [hi'] at hm;cases hm
  ·rw [hV.ops,hV.said];exact hm
 next:=fun n k j ⟨v,c,m,K,hV,hA,hK,hF⟩ h0 hj=>by
  obtain ⟨x,ht⟩:=RT.Fy (hV.rep.step.symm.trans h0)
  have hj':=hV.j.symm.trans hj
  obtain ⟨c',m',hm,hF'⟩:=FJ hF ht fun hd=>by
   have:=hd.2.1
   rw [hj'] at this
   cases this
  have hw:=(hA.AL j hj').1.2.1.t
  have h0':=hA.mq.k0
  refine ⟨by omega,?_⟩
  rcases hV.next hA.mq.ok ht hj' hm with ⟨k1,k2,b2⟩ | ⟨k1,k2,b1,b2⟩
  ·exact .inl ⟨k1,k2,_,c',m',K+1,b2,hA.iG ht hm,by omega,hF'⟩
  ·exact .inr ⟨k1,k2,b1,_,c',m',K+1,b2,hA.iG ht hm,by omega,hF'⟩
where
 FJ {Q:Vk→PS→Prop} {c m:Nat} {v:Vk} {p:PS} {x:Rp} (hF:Fin Q c m v p) (ht:v.t=.idle x) (hd:¬v.done):∃c' m',v.may x∧Fin Q c' m' (v.iG x) p:=by
  cases m with
  | zero=>exact absurd hF.1 hd
  | succ m =>
   rcases hF with h | ⟨y,hy,hm,c',rfl,h⟩ | ⟨h0,-⟩
   ·exact absurd h.1 hd
   ·rw [ht] at hy
    cases hy
    exact ⟨c',m,hm,h⟩
   ·rw [ht] at h0
    exact absurd rfl h0
theorem Rv {T:Int} {Q:Vk→PS→Prop} {m:Nat} {w:Wk} {p:PS} (h:TJ T Q m w p) (hT:T≤700000) :
  IF Q p 200 w∧p.OK∧p.steps≤1000000∧∀w',w.go 200=(w',none)→w'.r.step≠0∧∃p' x,p.act w'.r.acc=(p',some x)∧oF w'.r x∧(w'.r.bL x).2=true:=by
 obtain ⟨v,c,K,hF,hV,hA,hc,hK⟩:=h.ex
 have hst:=hA.mq.st
 refine ⟨⟨v,c,m,K,hV,hA,by omega,hF⟩,hA.mq.KF,by omega,fun w' e=>?_⟩
 obtain ⟨w1,v1,b,c',m',K',e',g1,g2,g3,g4⟩:=KM 200 hF hV hA (by omega)
 rw [e] at e'
 have g3':K'≤K+200:=g3
 simp only [Prod.mk.injEq] at e'
 obtain ⟨rfl,rfl⟩:=e'
 rcases g4 with ⟨q,-⟩ | ⟨-,h0,hF1,-⟩
 ·cases q
 ·refine ⟨by rw [g1.rep.step];exact h0,?_⟩
  cases m' with
  | zero=>exact absurd hF1.1.1 h0
  | succ m' =>
   rcases hF1 with hd | ⟨x,ht,-⟩ | ⟨-,p',x,ha,hF2⟩
   ·exact absurd hd.1.1 h0
   ·rw [ht] at h0
    exact absurd rfl h0
   ·rw [g1.rep.acc h0]
    exact ⟨p',x,ha,YV g2.mq g1.rep (by omega) h0 (g2.bL ha).2,(g1.bL g2.mq.ok g2.mq.ko h0 x).1⟩
section
variable {Q:Vk→PS→Prop} {T:Int} {w:Wk} {p:PS} {m:Nat}
theorem TE.stay (h:TE T Q w p):w.step p=(w,p,false)∧w.go 200=(w,some false):=by
 obtain ⟨i1,i2,i3,i4⟩:=h.idle
 have:=Mm (n:=199) i1 i2 i3 i4
 refine ⟨?_,this⟩
 unfold Wk.step
 rw [this]
theorem TE.acc (h:TE T Q w p) (hT:T≤700000):IF Q p 200 w∧p.OK∧p.steps≤1000000∧∀w',w.go 200=(w',none)→w'.r.step≠0∧∃p' x,p.act w'.r.acc=(p',some x)∧oF w'.r x∧(w'.r.bL x).2=true:=by
 obtain ⟨v,K,hd,hq,hV,hA,hK⟩:=h.ex
 have hst:=hA.mq.st
 refine ⟨⟨v,0,0,K,hV,hA,by omega,hd,hq⟩,hA.mq.KF,by omega,fun w' e=>?_⟩
 rw [h.stay.2] at e
 cases e
theorem TJ.idle (h:TJ T Q m w p) (hi:w.idle):TE T Q w p:=by
 obtain ⟨v,c,K,hF,hV,hA,hc,hK⟩:=h.ex
 obtain ⟨i1,i2,i3,i4⟩:=hi
 have hd:v.done:=⟨hV.rep.step.symm.trans i1,hV.j.symm.trans i2,hV.bV.symm.trans i3,by rw [←hV.ops,←hV.said];exact i4⟩
 refine ⟨v,K,hd,?_,hV,hA,by omega⟩
 cases m with
 | zero=>exact hF.2
 | succ m =>
  rcases hF with hF | ⟨x,ht,hm,-⟩ | ⟨h0,-⟩
  ·exact hF.2
  ·unfold Vk.may at hm
   rw [hd.2.1] at hm
   simp only at hm
   rcases hm with hm | ⟨-,hm,-⟩
   ·rw [hd.2.2.1] at hm;cases hm
   ·exact absurd hd.2.2.2 (Nat.not_le.2 hm)
  ·exact absurd hd.1 h0
end
def ST (vals:List Int) (E N:Int) (k m:Nat) (p:PS) (W:Nat→Wk):Prop :=
 (k=0∧(TJ 100000 (Q0 vals) m (W 0) p∨TE 100000 (Q0 vals) (W 0) p)∧W 1=Wk.new E 1 2 N (List.replicate (vals.length+1) ek)) ∨
 (k=1∧(TJ 600000 (Q1 vals) m (W 1) p∨TE 600000 (Q1 vals) (W 1) p))∨(k=2∧TE 600000 (Q1 vals) (W 1) p)
section
variable {vals:List Int} {E N:Int}
theorem YW (hE:1≤E∧E≤5) (hN:1≤N) (hl:vals.length≤12):Ends 2 (ST vals E N) where
 acc:=fun k m p W h hk=>by
  rcases h with ⟨rfl,h,-⟩ | ⟨rfl,h⟩ | ⟨rfl,h⟩
  ·rcases h with h | h
   ·obtain ⟨a,b,c,d⟩:=Rv h (by decide)
    exact ⟨_,Ey _ _,a,b,c,d⟩
   ·obtain ⟨a,b,c,d⟩:=h.acc (by decide)
    exact ⟨_,Ey _ _,a,b,c,d⟩
  ·rcases h with h | h
   ·obtain ⟨a,b,c,d⟩:=Rv h (by decide)
    exact ⟨_,Ey _ _,a,b,c,d⟩
   ·obtain ⟨a,b,c,d⟩:=h.acc (by decide)
    exact ⟨_,Ey _ _,a,b,c,d⟩
  ·omega
 step:=fun k m p W h hk=>by
  rcases h with ⟨rfl,h,h1⟩ | ⟨rfl,h⟩ | ⟨rfl,h⟩
  ·have hW1:∀w',oI W 0 w' 1=Wk.new E 1 2 N (List.replicate (vals.length+1) ek):=fun w'=>by rw [ig _ _ (by decide)];exact h1
   rcases h with h | h
   ·obtain ⟨w',p',b,e,g⟩:=h.step
    refine ⟨w',p',b,e,?_⟩
    rcases g with ⟨rfl,m',g1,g2⟩ | ⟨rfl,rfl,g⟩
    ·exact .inl ⟨rfl,m',g1,.inl ⟨rfl,.inl (by rw [dJ];exact g2),hW1 _⟩⟩
    ·exact .inr ⟨rfl,g.idle,0,.inl ⟨rfl,.inr (by rw [dJ];exact g),hW1 _⟩⟩
   ·exact ⟨_,_,_,h.stay.1,.inr ⟨rfl,h.idle,0,.inl ⟨rfl,.inr (by rw [dJ];exact h),hW1 _⟩⟩⟩
  ·rcases h with h | h
   ·obtain ⟨w',p',b,e,g⟩:=h.step
    refine ⟨w',p',b,e,?_⟩
    rcases g with ⟨rfl,m',g1,g2⟩ | ⟨rfl,rfl,g⟩
    ·exact .inl ⟨rfl,m',g1,.inr (.inl ⟨rfl,.inl (by rw [dJ];exact g2)⟩)⟩
    ·exact .inr ⟨rfl,g.idle,0,.inr (.inl ⟨rfl,.inr (by rw [dJ];exact g)⟩)⟩
   ·exact ⟨_,_,_,h.stay.1,.inr ⟨rfl,h.idle,0,.inr (.inl ⟨rfl,.inr (by rw [dJ];exact h)⟩)⟩⟩
  ·omega
 next:=fun k m p W h hk hid=>by
  rcases h with ⟨rfl,h,h1⟩ | ⟨rfl,h⟩ | ⟨rfl,h⟩
  ·have hT:TE 100000 (Q0 vals) (W 0) p:=h.elim (fun h=>h.idle hid) id
   obtain ⟨m',a,b⟩:=YU hE hN hl hT
   exact ⟨m',by omega,.inr (.inl ⟨rfl,.inl (by rw [h1];exact b)⟩)⟩
  ·have hT:TE 600000 (Q1 vals) (W 1) p:=h.elim (fun h=>h.idle hid) id
   exact ⟨0,by decide,.inr (.inr ⟨rfl,hT⟩)⟩
  ·omega
theorem ST.end {m:Nat} {p:PS} {W:Nat→Wk} (h:ST vals E N 2 m p W):p.dF=true∧(W 1).said=vals.reverse.map (fun x=>(1,x)) ++ [(2,0)]:=by
 rcases h with ⟨h,-⟩ | ⟨h,-⟩ | ⟨-,h⟩
 ·cases h
 ·cases h
 ·obtain ⟨v,K,-,hq,hV,-⟩:=h.ex
  exact ⟨hq.1,hV.said.trans hq.2⟩
theorem ST.new {p0 p:PS} (h:qU p0 85 12) (ha:p0.act qV=(p,some ⟨Wd.zero,true⟩)) (hE:1≤E∧E≤5) (hN:1≤N) (hv:∀v∈vals,0≤v∧v≤1000) (hl:vals.length≤12) {W:Nat→Wk} (hW0:W 0=Wk.new E 0 2 N (vals.map eO)) (hW1:W 1=Wk.new E 1 2 N (List.replicate (vals.length+1) ek)) :
  ∃m,m≤1000∧ST vals E N 0 m p W:=by
 obtain ⟨p',hp,he⟩:=zA h
 rw [ha] at hp
 simp only [Prod.mk.injEq] at hp
 have hpe:p={p0 with steps:=p0.steps+1,bd:=fun b=>if b=24 then ⟨0,0,0,1,false⟩ else p0.bd b}:=hp.1.trans he
 have hok:p.OK:=by
  have:=(h.ok ⟨by decide,by decide⟩ ⟨by decide,by decide⟩).act qV
  rw [ha] at this
  exact this
 have hbd:∀i,p.bd i=if i=24 then ⟨0,0,0,1,false⟩ else Wd.zero:=fun i=>by
  rw [hpe]
  show (if i=24 then (⟨0,0,0,1,false⟩:Wd) else p0.bd i)=_
  rw [h.bd i]
 have hz:Wb 10 Wd.zero:=Wb.zero (by decide)
 have hwb:p.wb 10:=⟨fun i=>by
   rw [hbd i]
   split
   · exact ⟨by decide,by decide,by decide,by decide⟩
   · exact hz,fun i j=>by
   have e:p.cell i j=Wd.zero:=by rw [hpe];exact h.cell i j
   rw [e]
   exact hz⟩
 have hst:p.steps≤10:=by
  rw [hpe]
  show p0.steps+1≤10
  rw [h.steps]
  decide
 have hS:iM p 0 [] []:=⟨by rw [hpe];exact h.nb,by rw [hpe];exact h.dF,by rw [hbd 24];decide,by rw [hbd 0];rfl,fun n hn=>(by cases hn),fun n r hr=>by
   have:=hr.length_le
   simp at this,fun d hd=>(by cases hd),List.nodup_nil⟩
 have hfr:∀i:Nat,(i:Int)<12→p.fr i=12-i:=fun i hi=>by rw [hpe];exact h.fr i hi
 have hns:p.ns=12:=by rw [hpe];exact h.ns
 have hF:lY p 12:=⟨by rw [hpe];exact h.nf,fun i hi=>by
   have hu:p.used (p.fr i-1).toNat=false:=by rw [hpe];exact h.used _
   refine ⟨?_,?_,hu⟩
   · rw [hfr i hi];omega
   · rw [hfr i hi,hns];omega,fun i j hij hj=>by
   rw [hfr i (by omega),hfr j hj]
   omega⟩
 obtain ⟨m,hm,hJ⟩:=YT (K:=10) hE hN hv hl hok hwb hst ⟨by decide,by decide⟩ hS hF
 exact ⟨m,hm,.inl ⟨rfl,.inl (by rw [hW0];exact hJ),hW1⟩⟩
end
end Go.Proofs.YthomdlajobnmnaaGreatDoor
