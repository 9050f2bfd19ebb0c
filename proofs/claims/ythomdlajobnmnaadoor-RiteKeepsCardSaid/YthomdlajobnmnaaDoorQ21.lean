/- part 21 of the proof -/
import Derived.Test.YthomdlajobnmnaaDoorQ20
set_option linter.unusedSimpArgs false
set_option linter.unusedVariables false
set_option linter.unusedSimpArgs false
set_option linter.unusedVariables false
namespace Go.Proofs.YthomdlajobnmnaaDoor
open Go.Rex
structure ni (w:World) (aP:Addr) (aM:Nat→Addr) (n:Nat) (p:PS) (M:Nat→Mn) (F:Nat→Prop):Prop where
 ex:∃(BP:Nat→Prop) (BM:Nat→Nat→Prop),mf w aP p BP∧(∀k,k<n→pQ w (aM k) (M k) (BM k))∧(∀k,k<n→∀b,BM k b→BP b→False)∧(∀j k,j<n→k<n→j≠k→∀b,BM j b→BM k b→False)∧(∀b,BP b→F b)∧∀k,k<n→∀b,BM k b→F b
section
variable {w w':World} {aP:Addr} {aM:Nat→Addr} {n k:Nat} {p:PS} {M:Nat→Mn} {F F':Nat→Prop}
theorem ni.mono (h:ni w aP aM n p M F) (hF:∀b,F b→b<w.heap.size→F' b):ni w aP aM n p M F':=by
 obtain ⟨BP,BM,h1,h2,h3,h4,h5,h6⟩:=h.ex
 exact ⟨fun b=>BP b∧b<w.heap.size,fun k b=>BM k b∧b<w.heap.size,h1.mono fun b hb hl=>⟨hb,hl⟩,fun k hk=>(h2 k hk).mono fun b hb hl=>⟨hb,hl⟩,fun k hk b x y=>h3 k hk b x.1 y.1,fun j k hj hk hn b x y=>h4 j k hj hk hn b x.1 y.1,fun b hb=>hF b (h5 b hb.1) hb.2,fun k hk b hb=>hF b (h6 k hk b hb.1) hb.2⟩
theorem ni.frame (h:ni w aP aM n p M F) (hk:∀b,b<w.heap.size→F b→w'.heap[b]?=w.heap[b]?):ni w' aP aM n p M F:=by
 obtain ⟨BP,BM,h1,h2,h3,h4,h5,h6⟩:=(h.mono (F':=fun b=>F b∧b<w.heap.size) fun b x y=>⟨x,y⟩).ex
 exact ⟨BP,BM,h1.frame fun b hb=>hk b (h5 b hb).2 (h5 b hb).1,fun k hn=>(h2 k hn).frame fun b hb=>hk b (h6 k hn b hb).2 (h6 k hn b hb).1,h3,h4,fun b hb=>(h5 b hb).1,fun k hk b hb=>(h6 k hk b hb).1⟩
theorem ni.step {iI:Nat→Addr} (h:ni w aP aM n p M F) (hk:k<n) (hs:qM w iI) (hz:∀j,j<8→¬F (iI j).block) (hpre:mM (M k) p) :
  Calls Tryd.prog 22 #[.pointer (some (aM k)),.pointer (some aP)] w fun e w'=>e=.returned (.bool ((M k).step p).2.2)∧ni w' aP aM n ((M k).step p).2.1 (bT M k ((M k).step p).1) (fun b=>F b∨w.heap.size≤b)∧lM w F w':=by
 obtain ⟨BP,BM,h1,h2,h3,h4,h5,h6⟩:=(h.mono (F':=fun b=>F b∧b<w.heap.size) fun b x y=>⟨x,y⟩).ex
 refine (Uc hs (h2 k hk) h1 (h3 k hk) (fun j hj=>⟨fun x=>hz j hj (h6 k hk _ x).1,fun x=>hz j hj (h5 _ x).1⟩) hpre).mono ?_
 rintro e w' ⟨rfl,KD,KE,g1,g2,g3,g4,g5⟩
 have hkeep:∀b,b<w.heap.size→¬BM k b→¬BP b→w'.heap[b]?=w.heap[b]?:=fun b hb x y=>g5.block b hb fun z=>z.elim x y
 have hnew:∀b,KD b∨KE b→∀j,j<n→j≠k→BM j b→False:=fun b hb j hj hjk hbj=>by
  rcases g4 b hb with x | x | x
  ·exact absurd (h6 j hj b hbj).2 (Nat.not_lt.2 x)
  ·exact h4 j k hj hk hjk b hbj x
  ·exact h3 j hj b hbj x
 refine ⟨rfl,⟨KE,bT BM k KD,g2,fun j hj=>?_,fun j hj b=>?_,fun i j hi hj hij b=>?_,fun b hb=>?_,fun j hj b=>?_⟩,⟨g5.os,g5.tape,g5.output,g5.size,fun b hb hn=>hkeep b hb (fun x=>hn (h6 k hk b x).1) fun x=>hn (h5 b x).1⟩⟩
 ·by_cases hjk:j=k
  ·rw [hjk,aS,aS]
   exact g1
  ·rw [bH _ _ hjk,bH _ _ hjk]
   exact (h2 j hj).frame fun b hb=>hkeep b (h6 j hj b hb).2 (fun x=>h4 j k hj hk hjk b hb x) fun x=>h3 j hj b hb x
 ·by_cases hjk:j=k
  ·rw [hjk,aS]
   exact g3 b
  ·rw [bH _ _ hjk]
   exact fun x y=>hnew b (.inr y) j hj hjk x
 ·by_cases q1:i=k
  ·have q2:j≠k:=fun e=>hij (q1.trans e.symm)
   rw [q1,aS,bH _ _ q2]
   exact fun x y=>hnew b (.inl x) j hj q2 y
  ·rw [bH _ _ q1]
   by_cases q2:j=k
   ·rw [q2,aS]
    exact fun x y=>hnew b (.inl y) i hi q1 x
   ·rw [bH _ _ q2]
    exact h4 i j hi hj hij b
 ·rcases g4 b (.inr hb) with x | x | x
  ·exact .inr x
  ·exact .inl (h6 k hk b x).1
  ·exact .inl (h5 b x).1
 ·by_cases hjk:j=k
  ·rw [hjk,aS]
   intro hb
   rcases g4 b (.inl hb) with x | x | x
   ·exact .inr x
   ·exact .inl (h6 k hk b x).1
   ·exact .inl (h5 b x).1
  ·rw [bH _ _ hjk]
   exact fun hb=>.inl (h6 j hj b hb).1
end
end Go.Proofs.YthomdlajobnmnaaDoor
set_option linter.unusedSimpArgs false
set_option linter.unusedVariables false
set_option linter.unusedSimpArgs false
set_option linter.unusedVariables false
namespace Go.Proofs.YthomdlajobnmnaaDoor
open Go.Rex
abbrev Nw (w w':World):Prop:=lM w (fun _=>False) w'
theorem ME {ρ:Env} {ν:Nat→Addr} {w:World}:aL ρ ν [] w:=⟨fun i j a b h=>by simp at h,fun k sb h=>by simp at h,fun k sb h=>by simp at h⟩
def Su (f:Nat→Int):Env:=⟨f,fun _=>false,fun _=>undef,fun _ _ _ _=>0,fun _ _ _ _=>false,fun _ _ _ _=>undef⟩
def fN:Nat→Nat
 | 0=>1
 | 1=>0
 | i=>i
theorem V3:(List.range iw.length).map (fun j=>vz.hp'[j]?)=iw.map fun sb=>some (sb.aT fN fun k=>k):=by kernel_rfl
theorem MF (m:Int) (h:0≤m∧m≤1024) (w:World) :
  Calls Tryd.prog 13 #[.int .i64 m,.int .i64 85] w fun e w'=>∃aP p B,e=.returned (.tuple #[.pointer (some aP),.nilIface])∧mf w' aP p B∧ry p 85 m∧(∀b,B b→w.heap.size≤b)∧Nw w w':=by
 have hrun:=TW.run (Su fun i=>if i=0 then m else 85) (fun _=>⟨0,0,none⟩) w ME ⟨fun g k _ h=>(by cases h),fun g g' k k' _ _ h=>(by cases h)⟩ ⟨h,by show (0:Int)≤85∧(85:Int)≤200;decide⟩
 refine Calls.mono hrun ?_
 rintro e w' ⟨ρ,ν,hA,rfl,jR,hwr,how,q1,q2⟩
 have e0:ρ.iv 0=m:=(hA.iv 0 (by decide)).trans rfl
 have e1:ρ.iv 1=85:=(hA.iv 1 (by decide)).trans rfl
 have hn:∀b,¬kL (Su fun i=>if i=0 then m else 85) (fun _=>(⟨0,0,none⟩:Addr)) vz.hp b:=fun b ⟨k,sb,hk,_⟩=>by
  have hk:([]:List SB)[k]?=some sb:=hk
  simp at hk
 obtain ⟨p,h1,h2⟩:=q2
 replace h1:ag ρ (ρ.iv 1) (ρ.iv 0) 2=p:=h1
 refine ⟨ν 0,p,ig (ρ.pull fN) ν iw,rfl,⟨ρ.pull fN,ν,rfl,jR.sub V3 fun i j _ _ h=>h,h1,q1,fun _ h=>h⟩,?_,fun b hb=>?_,⟨hwr.os,hwr.tape,hwr.output,hwr.size,fun k hk _=>hwr.block k hk (hn k)⟩⟩
 ·obtain ⟨a1,a2,a3,a4,a5,a6,a7,a8,a9,YE,YF⟩:=h2
  exact ⟨a1.trans e1,a2.trans e0,a3.trans e0,a4,a5,a6,a7,a8,a9,YE,fun i hi=>(YF i (by show (i:Int)<ρ.iv 0;rw [e0];exact hi)).trans (by show ρ.iv 0-i=m-i;rw [e0])⟩
 ·rcases (how.sub V3).aH Gm hb with h | h
  ·exact h
  ·exact absurd h (hn b)
def MG (a:Ac):Value:=.agg #[.int .i64 a.kind,.int .i64 a.slot,.int .i64 a.gen,.int .i64 a.field,.int .i64 a.old.slot,.int .i64 a.old.gen,.int .i64 a.old.tag,.int .i64 a.old.num,.bool a.old.mark,.int .i64 a.new.slot,.int .i64 a.new.gen,.int .i64 a.new.tag,.int .i64 a.new.num,.bool a.new.mark]
def WC (x:Rp):Value:=.agg #[.int .i64 x.word.slot,.int .i64 x.word.gen,.int .i64 x.word.tag,.int .i64 x.word.num,.bool x.word.mark,.bool x.ok]
def Gn (a:Ac):Env where
 iv:=fun i=>([a.kind,a.slot,a.gen,a.field,a.old.slot,a.old.gen,a.old.tag,a.old.num,0,a.new.slot,a.new.gen,a.new.tag,a.new.num,0]:List Int).getD i 0
 bv:=fun i=>if i=8 then a.old.mark else a.new.mark
 vv:=fun _=>undef
 ic:=fun _ _ _ _=>0
 bc:=fun _ _ _ _=>false
 vc:=fun _ _ _ _=>undef
def fD:Nat→Nat
 | 0=>14
 | 1=>15
 | i=>i+31
def gD:Nat→Nat
 | 0=>8
 | 1=>9
 | 2=>10
 | k=>k+10
theorem V4:(List.range iw.length).map (fun j=>mH.hp'[gD j]?)=iw.map fun sb=>some (sb.aT fD gD):=by kernel_rfl
theorem V5:∀i j,i<iw.length→j<iw.length→gD i=gD j→i=j:=by
 have:∀i,i<5→∀j,j<5→gD i=gD j→i=j:=by decide
 intro i j hi hj
 exact this i hi j hj
theorem WE {w:World} {aP:Addr} {p p':PS} {B:Nat→Prop} {iI:Nat→Addr} {a:Ac} {x:Rp} (hs:qM w iI) (hp:mf w aP p B) (hz:∀k,k<8→¬B (iI k).block) (hok:p.OK) (hst:p.steps≤1000000) (hx:p.act a=(p',some x)) :
  Calls Tryd.prog 14 #[.pointer (some aP),MG a] w fun e w'=>e=.returned (.tuple #[WC x,.nilIface])∧∃B',mf w' aP p' B'∧(∀b,B' b→w.heap.size≤b∨B b)∧lM w B w':=by
 obtain ⟨dC,fI,rfl,VY,rfl,hpo,hpb⟩:=hp.ex
 obtain ⟨⟨KF,hsh⟩,hgl⟩:=hs
 have hsB:∀x,ig (Gn a) iI iH x→∃k,k<8∧x=(iI k).block:=by
  rintro x ⟨k,sb,h1,_,rfl⟩
  exact ⟨k,Nat.lt_of_lt_of_le (List.getElem?_eq_some_iff.1 h1).1 (by decide),rfl⟩
 have hsh':aL (Gn a) iI iH w:=aL.ext (nv:=0) (n:=8) ⟨fun i h=>absurd h (Nat.not_lt_zero _),fun i h=>absurd h (Nat.not_lt_zero _),fun i h=>absurd h (Nat.not_lt_zero _),fun i h=>absurd h (Nat.not_lt_zero _),fun i h=>absurd h (Nat.not_lt_zero _),fun i h=>absurd h (Nat.not_lt_zero _),fun i h=>rfl⟩ (by kernel_rfl) (by decide) hsh
 have BH:=aL.join (N:=14) hsh' VY (by kernel_rfl) fun x h1 h2=>by
  obtain ⟨k,hk,rfl⟩:=hsB x h1
  exact hz k hk (hpb _ h2)
 have eL:mH.hp=iH ++ iw.map (SB.aT (14+·) (iH.length+·)):=by kernel_rfl
 rw [←eL] at BH
 have zb:∀x,kL ((Gn a).cat 14 dC) (kr iH.length iI fI) mH.hp x→B x:=by
  intro x hx
  rw [eL] at hx
  rcases za (by kernel_rfl) hx with hb | hb
  ·exact (BG (by kernel_rfl) hb).elim
  ·exact hpb _ (uw hb)
 obtain ⟨ρ,hρ⟩:∃ρ,ρ=(Gn a).cat 14 dC:=⟨_,rfl⟩
 obtain ⟨ν,lN⟩:∃ν,ν=kr iH.length iI fI:=⟨_,rfl⟩
 have e8:ν 8=fI 0:=by rw [lN];rfl
 have eP:ag ρ (ρ.iv 14) (ρ.iv 15) 16=ag dC (dC.iv 0) (dC.iv 1) 2:=by rw [hρ];rfl
 have eA:ay ρ 0=a:=by rw [hρ];rfl
 have hG:jr ν mH.gl:=by
  refine jr.ext (nv:=0) (n:=8) (ρ:=KF) (ρ':=ρ) (ν:=iI) ⟨fun i h=>absurd h (Nat.not_lt_zero _),fun i h=>absurd h (Nat.not_lt_zero _),fun i h=>absurd h (Nat.not_lt_zero _),fun i h=>absurd h (Nat.not_lt_zero _),fun i h=>absurd h (Nat.not_lt_zero _),fun i h=>absurd h (Nat.not_lt_zero _),fun i h=>?_⟩ (by kernel_rfl) hgl
  rw [lN,pE _ _ _ (Nat.lt_of_lt_of_le h (by decide))]
 have Sr:aZ ρ 16:=by
  rw [hρ]
  exact hpo
 have hargs:(mH.args.map (·.den ρ ν)).toArray=#[.pointer (some (fI 0)),MG a]:=by
  rw [←e8,←eA]
  rfl
 rw [←hρ,←lN] at BH zb
 rw [←eP] at hok hst hx
 have hrun:=NN.run ρ ν w BH hG ⟨Sr,hok,hst⟩
 rw [hargs] at hrun
 refine Calls.mono hrun ?_
 rintro ev w' ⟨ρ',aN,hA,rfl,jR,hwr,how,q1,q2,q3⟩
 have VZ:ag ρ' (ρ'.iv 14) (ρ'.iv 15) 16=ag ρ (ρ.iv 14) (ρ.iv 15) 16:=by
  unfold ag
  simp (disch:=decide) only [hA.iv,hA.bv,hA.ic,hA.bc]
 have YG:ay ρ' 0=a:=by
  rw [←eA]
  unfold ay av
  simp (disch:=decide) only [hA.iv,hA.bv]
 replace q2:(ag ρ' (ρ'.iv 14) (ρ'.iv 15) 16).act (ay ρ' 0)=(ag ρ' (ρ'.iv 14) (ρ'.iv 15) 33,if ρ'.bv 32=true then some (aI ρ' 26) else none):=q2
 rw [VZ,YG,hx] at q2
 have hb:ρ'.bv 32=true:=by
  cases h:ρ'.bv 32 with
  | true=>rfl
  | false=>rw [h] at q2;cases q2
 rw [hb,if_pos rfl,Prod.mk.injEq,Option.some.injEq] at q2
 obtain ⟨rfl,rfl⟩:=q2
 refine ⟨?_,ig (ρ'.pull fD) (fun k=>aN (gD k)) iw,⟨ρ'.pull fD,fun k=>aN (gD k),?_,jR.sub V4 V5,rfl,q1,fun _ h=>h⟩,fun b h=>((how.sub V4).aH Gm h).imp id (zb b),hwr.os,hwr.tape,hwr.output,hwr.size,fun k hk hn=>hwr.block k hk fun h=>hn (zb k h)⟩
 ·show Ending.returned (.tuple #[_,if ρ'.bv 32=true then _ else _])=_
  rw [hb]
  rfl
 ·show aN 8=fI 0
  rw [hA.bl 8 (by decide),e8]
def mh:List SB:=yL 0 4 0
theorem Sw:oG mh=true:=by kernel_rfl
def Xp (E M T N:Int):Env:=Su fun i=>([E,M,T,N]:List Int).getD i 0
theorem MH (E M T N:Int) (h1:1≤E∧E≤5) (h2:0≤M∧M<T) (h3:1≤T∧T≤6) (h4:1≤N∧N≤64) (w:World) :
  Calls Tryd.prog 30 #[.int .i64 E,.int .i64 M,.int .i64 T,.int .i64 N] w fun e w'=>∃ρ ν,e=.returned (.tuple #[.pointer (some (ν 0)),.nilIface])∧(aL ρ ν mh w'∧ae ρ 0 4=RS.new E M T N∧bJ ρ 4∧∀b,ig ρ ν mh b→w.heap.size≤b)∧Nw w w':=by
 have hrun:=QV.run (Xp E M T N) (fun _=>⟨0,0,none⟩) w ME ⟨fun g k _ h=>(by cases h),fun g g' k k' _ _ h=>(by cases h)⟩ ⟨h1,h2,h3,h4.1,h4.2⟩
 refine Calls.mono hrun ?_
 rintro e w' ⟨ρ,ν,hA,rfl,jR,hwr,how,q1,q2⟩
 have hn:∀b,¬kL (Xp E M T N) (fun _=>(⟨0,0,none⟩:Addr)) nM.hp b:=fun b ⟨k,sb,hk,_⟩=>by
  have hk:([]:List SB)[k]?=some sb:=hk
  simp at hk
 refine ⟨ρ,ν,rfl,⟨jR,Eq.trans q2 ?_,q1,fun b hb=>(how.aH Sw hb).elim id fun h=>absurd h (hn b)⟩,hwr.os,hwr.tape,hwr.output,hwr.size,fun k hk _=>hwr.block k hk (hn k)⟩
 show RS.new (ρ.iv 0) (ρ.iv 1) (ρ.iv 2) (ρ.iv 3)=_
 rw [hA.iv 0 (by decide),hA.iv 1 (by decide),hA.iv 2 (by decide),hA.iv 3 (by decide)]
 rfl
theorem qp {ρ:Env} {ν:Nat→Addr} {sb:SB} (h1:sb.aV=[]) (h2:sb.ups=[]) (h3:sb.cap=none):sb.has ρ ν (sb.cs.map (·.den ρ ν)).toArray:=by
 refine ⟨fun u hu=>?_,fun _ _=>by simp,fun e n h=>?_,fun p c hp hh=>?_,fun gi g hg=>?_⟩
 ·rw [h2] at hu;cases hu
 ·rw [h3] at h;cases h
 ·simp [hp]
 ·rw [h1] at hg;simp at hg
def Ro:Env:=Su fun _=>0
theorem Ud {w:World} {ρ:Env} {ν:Nat→Addr} {b:Nat} {r:RS} (h:aL ρ ν mh w) (hr:ae ρ 0 4=r) (ho:bJ ρ 4) (hn:¬ig ρ ν mh b)
  (hb:w.heap[b]?=some (.cells #[.pointer (some (ν 0)),.int .i64 0,.int .i64 0,.int .i64 0,.int .i64 0,.int .i64 0,.bool false,.int .i64 0,.int .i64 0,.int .i64 0,.int .i64 0,.bool false,.bool false,.bool false] 60 (0,0))) :
  pQ w ⟨b,0,none⟩ ⟨r,0,Wd.zero,Wd.zero,false,false⟩ fun x=>x=b∨ig ρ ν mh x:=by
 have hA:dB 71 4 ρ (ρ.cat 71 Ro) ν ν:=⟨fun _ h=>if_pos h,fun _ h=>if_pos h,fun _ h=>if_pos h,fun _ h=>if_pos h,fun _ h=>if_pos h,fun _ h=>if_pos h,fun _ _=>rfl⟩
 have hsc:nA 71 4 mh=true:=by kernel_rfl
 obtain ⟨q,hq⟩:∃q,q=ρ.cat 71 Ro:=⟨_,rfl⟩
 rw [←hq] at hA
 have hh:aL q ν mh w:=h.ext hA hsc (by decide)
 have e1:(fun k=>kr 1 (fun _=>(⟨b,0,none⟩:Addr)) ν (1+k))=ν:=funext fun k=>nO ..
 have hone:aL q (kr 1 (fun _=>(⟨b,0,none⟩:Addr)) ν) [Ah 71 1] w:=by
  refine ⟨fun i j x y hi hj _ _ _ _=>?_,fun k sb hk _ _=>?_,fun k sb hk _ hr=>?_⟩
  ·have:=(List.getElem?_eq_some_iff.1 hi).1
   have:=(List.getElem?_eq_some_iff.1 hj).1
   simp at *
   omega
  ·match k,hk with
   | 0,hk =>
    simp at hk
    subst hk
    refine ⟨rfl,_,?_,qp rfl rfl rfl⟩
    rw [show ((kr 1 (fun _=>(⟨b,0,none⟩:Addr)) ν) 0).block=b from rfl,hb,hq]
    exact eT.kV rfl
   | k+1,hk=>simp at hk
  ·match k,hk with
   | 0,hk=>simp at hk;subst hk;cases hr
   | k+1,hk=>simp at hk
 have hall:=hone.app (f:=id) (hq:=mh) (by rw [show q.pull id=q from rfl,show (fun k=>kr 1 (fun _=>(⟨b,0,none⟩:Addr)) ν (([Ah 71 1]:List SB).length+k))=ν from e1];exact hh) fun i j x y hi hj _ dy _ he=>by
  match i,hi with
  | 0,hi =>
   have e2:kr 1 (fun _=>(⟨b,0,none⟩:Addr)) ν (1+j)=ν j:=nO ..
   have he:b=(kr 1 (fun _=>(⟨b,0,none⟩:Addr)) ν (1+j)).block:=he
   rw [e2] at he
   exact hn ((FJ hA hsc (by decide)).1 ⟨j,y,hj,dy,he⟩)
  | i+1,hi=>simp at hi
 have eL:jT=[Ah 71 1] ++ mh.map (SB.aT id (([Ah 71 1]:List SB).length+·)):=by kernel_rfl
 rw [←eL] at hall
 refine ⟨q,_,rfl,hall,?_,?_,fun x hx=>?_⟩
 ·rw [←hr,hq]
  rfl
 ·rw [hq]
  exact ho
 ·obtain ⟨k,sb,h1,h2,rfl⟩:=hx
  match k,h1 with
  | 0,_=>exact .inl rfl
  | k+1,h1 =>
   have e2:kr 1 (fun _=>(⟨b,0,none⟩:Addr)) ν (k+1)=ν k:=by rw [Nat.add_comm];exact nO ..
   rw [eL] at h1
   rw [List.getElem?_append_right (by simp)] at h1
   simp only [List.length_singleton,Nat.add_sub_cancel,List.getElem?_map,Option.map_eq_some_iff] at h1
   obtain ⟨sc,uE,rfl⟩:=h1
   rw [SB.gJ] at h2
   rw [e2]
   exact .inr ((FJ hA hsc (by decide)).1 ⟨k,sc,uE,h2,rfl⟩)
end Go.Proofs.YthomdlajobnmnaaDoor
set_option linter.unusedSimpArgs false
set_option linter.unusedVariables false
set_option linter.unusedSimpArgs false
set_option linter.unusedVariables false
namespace Go.Proofs.YthomdlajobnmnaaDoor
open Go.Rex
section
variable {k:Int} {h:Th} {p:PS}
theorem Sy (h0:0≤k):∀(j:Nat) {h:Th},h.wb k→(h.go j).1.wb k∧(h.go j).1.l.freed=h.l.freed
 | 0,h,H=>⟨H,rfl⟩
 | j+1,h,H=>by
  by_cases hz:h.t.bO=0
  ·obtain ⟨x,hx⟩:=RT.vI hz
   rw [Th.Er hx]
   by_cases hs:h.stop=true∧h.pc=0
   ·rw [if_pos hs];exact ⟨H,rfl⟩
   ·rw [if_neg hs]
    have hwx:Wb k x.word:=by
     have:=H.t
     rw [hx] at this
     exact this
    obtain ⟨a,b⟩:=Sy h0 j (H.eZ h0 hwx)
    exact ⟨a,b.trans (h.FE x)⟩
  ·rw [Th.vJ hz];exact ⟨H,rfl⟩
theorem Ue (h0:0≤k) (H:h.wb k) (hp:p.wb k) (hok:p.OK) (hs:p.steps≤k):(h.step p).1.wb (k+1)∧(h.step p).2.1.wb (k+1)∧h.l.freed≤(h.step p).1.l.freed∧(h.step p).1.l.freed≤h.l.freed+1:=by
 obtain ⟨a,b⟩:=Sy h0 12 H
 unfold Th.step
 generalize h.go 12=g at a b
 obtain ⟨g1,g2⟩:=g
 simp only at a b
 rw [←b]
 cases g2 with
 | some c=>exact ⟨a.mono h0 (by omega),hp.mono (by omega),Int.le_refl _,by show g1.l.freed≤g1.l.freed+1;omega⟩
 | none =>
  simp only
  by_cases hz:g1.t.bO=0
  ·rw [if_pos hz]
   exact ⟨a.mono h0 (by omega),hp.mono (by omega),Int.le_refl _,by show g1.l.freed≤g1.l.freed+1;omega⟩
  ·rw [if_neg hz]
   have hac:=hp.act h0 hok hs (O4 h0 a.t a.l)
   cases hh:p.act (g1.t.acc g1.l) with
   | mk p' xo =>
    rw [hh] at hac
    cases xo with
    | none=>exact ⟨a.mono h0 (by omega),hac.1,Int.le_refl _,by show g1.l.freed≤g1.l.freed+1;omega⟩
    | some x=>exact ⟨a.bq h0 (hac.2 x rfl),hac.1,Mx g1.l g1.t x⟩
end
structure Sys (k:Int) (n:Nat) (e:Int) (p:PS) (T:Nat→Th) (own:Int→iV) (A:Nat→Int) (M:Nat→Mn):Prop where
 inv:Inv n e p T own A
 mt:∀i,i<n→MT (M i) (T i)
 wb:∀i,i<n→(T i).wb k
 fr:∀i,i<n→0≤(T i).l.freed∧(T i).l.freed≤k
 bad:∀i,i<n→(T i).bad=false
 pw:p.wb k
 st:p.steps≤k
 k0:0≤k
section
variable {n:Nat} {e k:Int} {p:PS} {T:Nat→Th} {own:Int→iV} {A:Nat→Int} {i:Nat} {M:Nat→Mn}
theorem Sys.gN (S:Sys k n e p T own A M) (hi:i<n):Good k n e p T own A i (M i):=⟨S.inv,hi,S.mt i hi,S.wb i hi,S.fr i hi,S.pw,S.st,S.k0⟩
theorem Sys.step (S:Sys k n e p T own A M) (hi:i<n):((M i).step p).2.2=true∧((M i).step p).2.1=((T i).step p).2.1∧∃own' A',Sys (k+1) n e ((M i).step p).2.1 (bT T i ((T i).step p).1) own' A' (bT M i ((M i).step p).1):=by
 obtain ⟨own',A',hI,h1,h2,h3,h4,h5⟩:=S.inv.step hi (S.bad i hi)
 obtain ⟨m1,m2,m3⟩:=(S.mt i hi).step (p:=p) (S.gN hi).ok h3
 obtain ⟨w1,w2,w3,w4⟩:=Ue S.k0 (S.wb i hi) S.pw S.inv.ok S.st
 have hs:=S.st
 have h0:=S.k0
 refine ⟨m3.trans h1,m2,own',A',?_⟩
 rw [m2]
 refine ⟨hI,fun j hj=>?_,fun j hj=>?_,fun j hj=>?_,fun j hj=>?_,w2,by omega,by omega⟩
 all_goals
  by_cases hji:j=i
  ·rw [hji]
   simp only [aS]
   first
    | exact m1
    | exact w1
    | exact h2
    | (have:=S.fr i hi;omega)
  ·simp only [bH _ _ hji]
   first
    | exact S.mt j hj
    | exact (S.wb j hj).mono h0 (by omega)
    | exact S.bad j hj
    | (have:=S.fr j hj;omega)
theorem Sys.init {most:Int} (hok:p.OK) (hnb:p.nb=85) (hg:p.gN=true) (h6:1≤n∧n≤6) (h5:1≤e∧e≤5) (hm:1≤most) (hbd:∀k,k≠24→p.bd k=Wd.zero) (hck:p.bd 24=eQ 1) (hu:∀k,p.used k=false) (hc:∀i j,p.cell i j=Wd.zero) (hs:p.steps≤1) :
  Sys 1 n e p (fun i=>Th.new e i n most) (fun _=>.free) (fun _=>1) (fun i=>Mn.new e i n most):=by
 have hz:Wb 1 Wd.zero:=Wb.zero (by decide)
 refine ⟨Inv.init hok hnb hg h6 h5 hm hbd hck hu,fun i _=>⟨⟨rfl,rfl,rfl,rfl,rfl,rfl,rfl,rfl,rfl,fun h=>absurd rfl h,rfl⟩,rfl,rfl,rfl,rfl,rfl⟩,fun i _=>⟨hz,hz,⟨fun _=>hz,by show -(2000 * 1+3000)≤(0:Int)∧(0:Int)≤2000 * 1+3000;decide,by show -(2000 * 1+3000)≤(0:Int)∧(0:Int)≤2000 * 1+3000;decide⟩,hz⟩,fun i _=>by show (0:Int)≤0∧(0:Int)≤1;decide,fun i _=>rfl,⟨fun i=>?_,fun i j=>by rw [hc];exact hz⟩,hs,by decide⟩
 by_cases h:i=24
 ·rw [h,hck]
  refine ⟨?_,?_,?_,?_⟩ <;> decide
 ·rw [hbd i h];exact hz
end
end Go.Proofs.YthomdlajobnmnaaDoor
