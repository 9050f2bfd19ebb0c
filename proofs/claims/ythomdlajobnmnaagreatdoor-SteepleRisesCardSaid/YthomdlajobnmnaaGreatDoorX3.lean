/- part 3 of the proof -/
import Derived.Test.YthomdlajobnmnaaGreatDoorX2
set_option linter.unusedSimpArgs false
set_option linter.unusedVariables false
namespace Go.Rex
inductive dC where
 | nil (c:Option Nat)
 | take (i:Nat) (D:Nat) (k:dC)
 | solo (i:Nat) (k:dC)
 | go (i:Nat) (k:dC)
 | alt (i:Nat) (ki:dC) (j:Nat) (kj:dC)
 | two (i:Nat) (ki:dC) (j:Nat) (kj:dC)
 | sU (i:Nat) (ki:dC) (j:Nat) (kj:dC) (l:Nat) (kl:dC)
 | drop (k:dC)
 deriving Inhabited
def dC.size:dC->Nat
 | .nil _=>0
 | .take _ _ k | .solo _ k | .go _ k=>k.size+1
 | .alt _ k _ _ | .two _ k _ _ | .sU _ k _ _ _ _=>k.size+1
 | .drop k=>k.size
def dC.iA:dC->Option Nat
 | .nil c=>c
 | .take _ _ k | .solo _ k | .go _ k=>k.iA
 | .alt _ k _ _ | .two _ k _ _ | .sU _ k _ _ _ _=>k.iA
 | .drop k=>k.iA
def dC.jk:dC->Bool
 | .go _ _ | .two _ _ _ _=>true
 | _=>false
def dC.De:dC->Bool
 | .drop _=>true
 | _=>false
def qW:Option Nat->Option Nat->Bool
 | none,none=>true
 | some a,some b=>a == b
 | _,_=>false
theorem ve {a b:Option Nat} (h:qW a b=true):a=b:=by
 cases a <;> cases b <;> simp_all [qW]
def bitsOf (n D:Nat):List Nat:=(List.range n).filter D.testBit
def ou (ops:Array Oper):Array Bool->dC->Prop
 | listed,.nil _=>∀j,j ∉ Region.ready .any ops listed
 | listed,.take i D k=>i∈Region.ready .any ops listed/\Region.free .any ops listed i=true/\k.jk=false/\AA .any ops listed i (bitsOf ops.size D)/\k.iA≠some i/\ou ops (listed.setIfInBounds i true) k
 | listed,.solo i k=>i∈Region.ready .any ops listed/\(∀j∈Region.ready .any ops listed,j=i)/\k.jk=false/\ou ops (listed.setIfInBounds i true) k
 | listed,.go i k=>i∈Region.ready .any ops listed/\k.jk=false/\ou ops (listed.setIfInBounds i true) k
 | listed,.alt i a j b=>i∈Region.ready .any ops listed/\j∈Region.ready .any ops listed/\(∀x∈Region.ready .any ops listed,x=i\/x=j)/\a.jk=false/\b.jk=false/\a.size=b.size/\a.iA=b.iA /\
   ou ops (listed.setIfInBounds i true) a/\ou ops (listed.setIfInBounds j true) b
 | listed,.two i a j b=>i∈Region.ready .any ops listed/\j∈Region.ready .any ops listed/\a.jk=false/\b.jk=false/\ou ops (listed.setIfInBounds i true) a/\ou ops (listed.setIfInBounds j true) b
 | listed,.sU i a j b l c=>i∈Region.ready .any ops listed/\j∈Region.ready .any ops listed/\l∈Region.ready .any ops listed/\(∀x∈Region.ready .any ops listed,x=i\/x=j\/x=l)/\(a.jk=false/\b.jk=false/\c.jk=false)/\(a.size=b.size/\a.size=c.size)/\(a.iA=b.iA/\a.iA=c.iA) /\
   ou ops (listed.setIfInBounds i true) a/\ou ops (listed.setIfInBounds j true) b/\ou ops (listed.setIfInBounds l true) c
 | listed,.drop k=>¬asked k.iA listed/\k.jk=false/\ou ops listed k
structure OI where
 em:Nat
 lm:Nat
 dst:Option Nat
 deriving Inhabited
def nX:List Nat->Nat
 | []=>0
 | i :: r=>nX r ||| 2 ^ i
def lK (o:Oper):List Nat:=(o.after.toList.filter (Region.binds .any ·)).map (·.on)
def sV (n:Nat):List Nat->Bool
 | []=>true
 | i :: r=>Nat.blt i n && sV n r
def sW:Option Nat->Option Nat->Bool
 | none,none=>true
 | some a,some b=>a == b
 | _,_=>false
def lL (ops:Array Oper) (n:Nat):List Oper->List OI->Bool
 | [],[]=>true
 | o :: r,i :: s=>i.em == nX (lK o) && i.lm == nX (o.looksAt ops) && sW i.dst o.dst && sV n (lK o) && lL ops n r s
 | _,_=>false
def uu (R i j':Nat):List OI->Nat->Bool
 | [],_=>true
 | o :: r,j=>(j == i || j == j' || !R.testBit j || !(o.em &&& R == 0)) && uu R i j' r (j+1)
def vg (R i j' l:Nat):List OI->Nat->Bool
 | [],_=>true
 | o :: r,j=>(j == i || j == j' || j == l || !R.testBit j || !(o.em &&& R == 0)) && vg R i j' l r (j+1)
def xD (R:Nat):List OI->Nat->Bool
 | [],_=>true
 | o :: r,j=>(!R.testBit j || !(o.em &&& R == 0)) && xD R r (j+1)
def OP (x y:OI):Bool :=
 (match x.dst with | some d=>!y.lm.testBit d && !sW y.dst (some d) | none=>true) && (match y.dst with | some d=>!x.lm.testBit d | none=>true)
def I6 (R i:Nat) (a:OI):List OI->Nat->Bool
 | [],_=>true
 | o :: r,j=>(j == i || !R.testBit j || o.em.testBit i || OP a o) && I6 R i a r (j+1)
def iW (R i:Nat) (os:List OI):Bool:=match os[i]? with | some o=>R.testBit i && o.em &&& R == 0 | none=>false
def OQ (os:List OI) (R D i:Nat):Bool :=
 D &&& R == D && !D.testBit i && (bitsOf os.length D).all λj=>match os[j]? with | some o=>!(o.em &&& (D ||| 2 ^ i) == 0) | none=>false
def ll (os:List OI):Nat->dC->Bool
 | R,.nil _=>xD R os 0
 | R,.take i D k=>iW R i os && (match os[i]? with | some o=>I6 R i o os 0 | none=>false) && !k.jk && OQ os R D i && !qW k.iA (some i) && ll os (R ^^^ 2 ^ i) k
 | R,.solo i k=>iW R i os && uu R i i os 0 && !k.jk && ll os (R ^^^ 2 ^ i) k
 | R,.go i k=>iW R i os && !k.jk && ll os (R ^^^ 2 ^ i) k
 | R,.alt i a j b=>iW R i os && iW R j os && uu R i j os 0 && !a.jk && !b.jk && a.size == b.size && qW a.iA b.iA && ll os (R ^^^ 2 ^ i) a && ll os (R ^^^ 2 ^ j) b
 | R,.two i a j b=>iW R i os && iW R j os && !a.jk && !b.jk && ll os (R ^^^ 2 ^ i) a && ll os (R ^^^ 2 ^ j) b
 | R,.sU i a j b l d=>iW R i os && iW R j os && iW R l os && vg R i j l os 0 && !a.jk && !b.jk && !d.jk && a.size == b.size && a.size == d.size && qW a.iA b.iA && qW a.iA d.iA && ll os (R ^^^ 2 ^ i) a && ll os (R ^^^ 2 ^ j) b && ll os (R ^^^ 2 ^ l) d
 | R,.drop k=>(match k.iA with | some c=>!R.testBit c | none=>false) && !k.jk && ll os R k
theorem nH:∀{l:List Nat} {b:Nat},(nX l).testBit b=true↔b∈l
 | [],b=>by simp [nX]
 | i :: r,b=>by
  simp only [nX,Nat.testBit_or,Bool.or_eq_true,nH (l:=r),Nat.testBit_two_pow,decide_eq_true_eq,List.mem_cons]
  constructor
  ·rintro (h | h)
   ·exact .inr h
   ·exact .inl h.symm
  ·rintro (h | h)
   ·exact .inr h.symm
   ·exact .inl h
theorem Mj {a b:Nat}:(a &&& b == 0)=true↔∀i,a.testBit i=true->b.testBit i=false:=by
 rw [beq_iff_eq]
 constructor
 ·intro h i c
  have:=congrArg (·.testBit i) h
  simpa [Nat.testBit_and,c] using this
 ·intro h
  apply Nat.eq_of_testBit_eq
  all_goals grind
theorem FM {n:Nat}:∀{l:List Nat},sV n l=true->∀i∈l,i<n
 | [],_,i,a=>by cases a
 | x :: r,h,i,a=>by
  simp only [sV,Bool.and_eq_true,Nat.blt_eq] at h
  rcases List.mem_cons.1 a with rfl | a
  ·exact h.1
  ·exact FM h.2 i a
theorem Uu {a b:Option Nat} (h:sW a b=true):a=b:=by
 cases a <;> cases b <;> simp_all [sW]
theorem vk {ops:Array Oper} {n:Nat}:∀{l:List Oper} {os:List OI},lL ops n l os=true->l.length=os.length/\∀(j:Nat) (o:Oper) (a:OI),l[j]?=some o->os[j]?=some a ->
  a.em=nX (lK o)/\a.lm=nX (o.looksAt ops)/\a.dst=o.dst/\∀e∈lK o,e<n
 | [],[],_=>⟨rfl,λj o a h=>by simp at h⟩
 | [],_ :: _,h=>by simp [lL] at h
 | _ :: _,[],h=>by simp [lL] at h
 | o :: r,i :: s,h=>by
  simp only [lL,Bool.and_eq_true,beq_iff_eq] at h
  obtain ⟨f,d⟩:=vk h.2
  refine ⟨by simp [f],λj g a c b=>?_⟩
  cases j with
  | zero =>
   simp at c b
   subst c b
   exact ⟨h.1.1.1.1,h.1.1.1.2,Uu h.1.1.2,FM h.1.2⟩
  | succ j=>exact d j g a (by simpa using c) (by simpa using b)
section
variable {ops:Array Oper} {os:List OI} (A:lL ops ops.size ops.toList os=true) {R:Nat} {B:Array Bool} (C:∀j,R.testBit j=!B.getD j true) (D:B.size=ops.size)
include A C D
theorem uw {j:Nat}:j∈Region.ready .any ops B↔∃c,os[j]?=some c/\R.testBit j=true/\(c.em &&& R == 0)=true:=by
 obtain ⟨f,e⟩:=vk A
 rw [mem_ready]
 constructor
 ·rintro ⟨l,o,b,i⟩
  have a:ops.toList[j]?=some o:=by simpa using b
  have d:j<os.length:=by rw [<-f];exact (List.getElem?_eq_some_iff.1 a).1
  obtain ⟨g,m,h,k⟩:=e j o os[j] a (List.getElem?_eq_getElem d)
  all_goals grind [List.getElem?_eq_getElem,Mj,nH,lK,Array.getD_eq_getD_getElem?,Array.getElem?_eq_getElem]
 ·rintro ⟨c,b,l,i⟩
  have d:j<ops.toList.length:=by rw [f];exact (List.getElem?_eq_some_iff.1 b).1
  obtain ⟨g,m,h,k⟩:=e j _ c (List.getElem?_eq_getElem d) b
  all_goals grind [AA.on,lK,Mj,nH,Array.getD_eq_getD_getElem?,Array.getElem?_eq_getElem]
theorem iT {i:Nat} (h:iW R i os=true):i∈Region.ready .any ops B:=by
 unfold iW at h
 split at h
 ·rename_i o a
  simp only [Bool.and_eq_true] at h
  exact (uw A C D).2 ⟨o,a,h.1,h.2⟩
 ·cases h
omit A C D in
theorem wD {i j':Nat}:∀{os:List OI} {a:Nat},uu R i j' os a=true->∀(j:Nat) (b:OI),os[j]?=some b->R.testBit (a+j)=true->(b.em &&& R == 0)=true->a+j=i\/a+j=j'
 | [],_,_,j,b,h,_,_=>by simp at h
 | o :: r,a,h,j,b,c,d,e=>by
  simp only [uu,Bool.and_eq_true,Bool.or_eq_true,beq_iff_eq] at h
  cases j with
  | zero =>
   simp at c
   subst c
   rw [Nat.add_zero] at d ⊢
   rcases h.1 with ((h | h) | h) | h
   ·exact .inl h
   ·exact .inr h
   ·rw [d] at h;cases h
   ·rw [e] at h;cases h
  | succ j =>
   have:=wD h.2 j b (by simpa using c) (by rw [<-d];congr 1;omega) e
   omega
omit A C D in
theorem Ck {i j' l:Nat}:∀{os:List OI} {a:Nat},vg R i j' l os a=true->∀(j:Nat) (b:OI),os[j]?=some b->R.testBit (a+j)=true->(b.em &&& R == 0)=true->a+j=i\/a+j=j'\/a+j=l
 | [],_,_,j,b,h,_,_=>by simp at h
 | o :: r,a,h,j,b,c,d,e=>by
  simp only [vg,Bool.and_eq_true,Bool.or_eq_true,beq_iff_eq] at h
  cases j with
  | zero =>
   simp at c
   subst c
   rw [Nat.add_zero] at d ⊢
   rcases h.1 with (((h | h) | h) | h) | h
   ·exact .inl h
   ·exact .inr (.inl h)
   ·exact .inr (.inr h)
   ·rw [d] at h;cases h
   ·rw [e] at h;cases h
  | succ j =>
   have:=Ck h.2 j b (by simpa using c) (by rw [<-d];congr 1;omega) e
   omega
omit A C D in
theorem Df:∀{os:List OI} {b:Nat},xD R os b=true->∀(j:Nat) (a:OI),os[j]?=some a->R.testBit (b+j)=true->(a.em &&& R == 0)=true->False
 | [],_,_,j,a,h,_,_=>by simp at h
 | o :: r,b,h,j,a,c,d,e=>by
  simp only [xD,Bool.and_eq_true,Bool.or_eq_true] at h
  cases j with
  | zero =>
   simp at c
   subst c
   rw [Nat.add_zero] at d
   rcases h.1 with h | h
   ·rw [d] at h;cases h
   ·rw [e] at h;cases h
  | succ j=>exact Df h.2 j a (by simpa using c) (by rw [<-d];congr 1;omega) e
omit A C D in
theorem OT {i:Nat} {x:OI}:∀{os:List OI} {b:Nat},I6 R i x os b=true->∀(j:Nat) (a:OI),os[j]?=some a->b+j≠i->R.testBit (b+j)=true->a.em.testBit i=true\/OP x a=true
 | [],_,_,j,a,h,_,_=>by simp at h
 | o :: r,b,h,j,a,c,e,d=>by
  simp only [I6,Bool.and_eq_true,Bool.or_eq_true,beq_iff_eq] at h
  cases j with
  | zero =>
   simp at c
   subst c
   rw [Nat.add_zero] at e d
   rcases h.1 with ((h | h) | h) | h
   ·exact absurd h e
   ·rw [d] at h;cases h
   ·exact .inl h
   ·exact .inr h
  | succ j=>exact OT h.2 j a (by simpa using c) (by omega) (by rw [<-d];congr 1;omega)
theorem ZF {i:Nat} {x:OI} (p:os[i]?=some x) (h:I6 R i x os 0=true):Region.free .any ops B i=true:=by
 have _:=D
 obtain ⟨m,l⟩:=vk A
 have o:i<ops.toList.length:=by rw [m];exact (List.getElem?_eq_some_iff.1 p).1
 have c:i<ops.size:=by simpa using o
 obtain ⟨-,u,d1,-⟩:=l i _ x (List.getElem?_eq_getElem o) p
 unfold Region.free
 rw [Array.getElem?_eq_getElem c]
 simp only [List.all_eq_true,List.mem_range,Bool.or_eq_true,beq_iff_eq]
 intro j k
 rw [Array.getElem?_eq_getElem k]
 simp only [Bool.or_eq_true]
 by_cases f:j=i
 ·exact .inl (.inl f)
 ·cases s:B.getD j true with
  | true=>exact .inl (.inr rfl)
  | false =>
   refine .inr ?_
   have a:j<os.length:=by rw [<-m];simpa using k
   obtain ⟨r,w,d2,-⟩:=l j ops.toList[j] os[j] (List.getElem?_eq_getElem (by rw [Array.length_toList];exact k)) (List.getElem?_eq_getElem a)
   have:=OT h j os[j] (List.getElem?_eq_getElem a) (by omega) (by rw [Nat.zero_add,C,s];rfl)
   rcases this with this | this
   ·rw [r,nH] at this
    simp only [lK,List.mem_map,List.mem_filter] at this
    obtain ⟨e,⟨t,q⟩,b⟩:=this
    refine .inl (Array.any_eq_true'.2 ⟨e,by simpa using t,?_⟩)
    simp [q,b]
   ·refine .inr ?_
    simp only [Array.getElem_toList] at u d1 w d2
    unfold OP at this
    unfold Oper.apart
    simp only [Bool.and_eq_true] at this ⊢
    obtain ⟨g,n⟩:=this
    constructor
    ·cases hd:ops[i].dst with
     | none=>rfl
     | some d =>
      rw [d1,hd] at g
      simp only [Bool.and_eq_true,Bool.not_eq_true'] at g ⊢
      obtain ⟨z,y⟩:=g
      refine ⟨?_,?_⟩
      ·rw [<-Bool.not_eq_true,List.contains_iff_mem]
       all_goals grind [nH]
      all_goals grind [sW]
    ·cases hd:ops[j].dst with
     | none=>rfl
     | some d =>
      rw [d2,hd] at n
      simp only [Bool.not_eq_true'] at n ⊢
      rw [<-Bool.not_eq_true,List.contains_iff_mem]
      all_goals grind [nH]
end
theorem og {R:Nat} {listed:Array Bool} (b:∀j,R.testBit j=!listed.getD j true) {i:Nat} (c:R.testBit i=true):∀j,(R ^^^ 2 ^ i).testBit j=!(listed.setIfInBounds i true).getD j true:=by
 intro j
 rw [Nat.testBit_xor,Nat.testBit_two_pow]
 by_cases a:i=j
 ·subst a
  rw [c]
  rw [Array.getD_eq_getD_getElem?,Array.getElem?_setIfInBounds]
  all_goals grind
 ·rw [getD_set_ne true a,<-b j]
  simp [a]
theorem ib {R i:Nat} {os:List OI} (h:iW R i os=true):R.testBit i=true:=by
 unfold iW at h
 all_goals grind
theorem WR {ops:Array Oper} {os:List OI} (r:lL ops ops.size ops.toList os=true) {R:Nat} {listed:Array Bool} (A:∀j,R.testBit j=!listed.getD j true) {D i:Nat} (h:OQ os R D i=true):AA .any ops listed i (bitsOf ops.size D):=by
 obtain ⟨q,p⟩:=vk r
 simp only [OQ,Bool.and_eq_true,Bool.not_eq_true',beq_iff_eq,List.all_eq_true] at h
 obtain ⟨⟨z,k⟩,o⟩:=h
 have s:os.length=ops.size:=by rw [<-q];simp
 rw [s] at o
 refine ⟨λj m=>?_,λj m=>?_⟩
 ·have x:=(List.mem_filter.1 m).2
  all_goals grind
 ·have l:=o j m
  have d:j<ops.size:=by grind
  have f:j<os.length:=by omega
  rw [List.getElem?_eq_getElem f] at l
  simp only [Bool.not_eq_true',beq_eq_false_iff_ne,ne_eq] at l
  obtain ⟨t,-,-,w⟩:=p j ops[j] os[j] (by simp [d]) (List.getElem?_eq_getElem f)
  have:∃b,(os[j].em &&& (D ||| 2 ^ i)).testBit b=true:=by
   apply Classical.byContradiction
   intro y
   apply l
   apply Nat.eq_of_testBit_eq
   all_goals grind
  obtain ⟨b,k⟩:=this
  simp only [Nat.testBit_and,Nat.testBit_or,Nat.testBit_two_pow,Bool.and_eq_true,Bool.or_eq_true,decide_eq_true_eq] at k
  obtain ⟨c,a⟩:=k
  rw [t,nH] at c
  have g:=w b c
  simp only [lK,List.mem_map,List.mem_filter] at c
  obtain ⟨e,⟨u,n⟩,rfl⟩:=c
  refine ⟨ops[j],e,by simp [d],by simpa using u,n,?_⟩
  rcases a with a | a
  ·exact .inr (List.mem_filter.2 ⟨List.mem_range.2 g,a⟩)
  ·exact .inl a.symm
theorem aea {ops:Array Oper} {os:List OI} (g:lL ops ops.size ops.toList os=true):∀{s:dC} {R:Nat} {listed:Array Bool},(∀j,R.testBit j=!listed.getD j true)->listed.size=ops.size ->
  ll os R s=true->ou ops listed s:=by
 intro s
 induction s with
 | nil =>
  intro R listed a b h j G
  obtain ⟨p,d,f,m⟩:=(uw g a b).1 G
  exact Df h j p d (by rwa [Nat.zero_add]) m
 | take i D k r =>
  intro R listed a b h
  simp only [ll,Bool.and_eq_true,Bool.not_eq_true'] at h
  obtain ⟨⟨⟨⟨⟨d,f⟩,m⟩,q⟩,t⟩,n⟩:=h
  split at f
  ·rename_i o N
   refine ⟨iT g a b d,ZF g a b N f,m,WR g a q,λe=>?_,r (og a (ib d)) (by simpa using b) n⟩
   rw [e] at t
   simp [qW] at t
  ·cases f
 | solo i k r =>
  intro R listed a b h
  simp only [ll,Bool.and_eq_true,Bool.not_eq_true'] at h
  obtain ⟨⟨⟨d,f⟩,m⟩,n⟩:=h
  refine ⟨iT g a b d,λj G=>?_,m,r (og a (ib d)) (by simpa using b) n⟩
  obtain ⟨p,w,L,z⟩:=(uw g a b).1 G
  have:=wD f j p w (by rwa [Nat.zero_add]) z
  omega
 | go i k r =>
  intro R listed a b h
  simp only [ll,Bool.and_eq_true,Bool.not_eq_true'] at h
  obtain ⟨⟨d,m⟩,n⟩:=h
  exact ⟨iT g a b d,m,r (og a (ib d)) (by simpa using b) n⟩
 | alt i K j J B u =>
  intro R listed a b h
  simp only [ll,Bool.and_eq_true,Bool.not_eq_true',beq_iff_eq] at h
  obtain ⟨⟨⟨⟨⟨⟨⟨⟨d,f⟩,m⟩,n⟩,q⟩,t⟩,F⟩,y⟩,A⟩:=h
  refine ⟨iT g a b d,iT g a b f,λx E=>?_,n,q,t,ve F,B (og a (ib d)) (by simpa using b) y,u (og a (ib f)) (by simpa using b) A⟩
  obtain ⟨p,w,L,z⟩:=(uw g a b).1 E
  have:=wD m x p w (by rwa [Nat.zero_add]) z
  omega
 | two i K j J B u =>
  intro R listed a b h
  simp only [ll,Bool.and_eq_true,Bool.not_eq_true',beq_iff_eq] at h
  obtain ⟨⟨⟨⟨⟨d,f⟩,n⟩,q⟩,y⟩,A⟩:=h
  exact ⟨iT g a b d,iT g a b f,n,q,B (og a (ib d)) (by simpa using b) y,u (og a (ib f)) (by simpa using b) A⟩
 | sU i K j J l P B u C =>
  intro R listed a b h
  simp only [ll,Bool.and_eq_true,Bool.not_eq_true',beq_iff_eq] at h
  obtain ⟨⟨⟨⟨⟨⟨⟨⟨⟨⟨⟨⟨⟨d,f⟩,m⟩,n⟩,q⟩,t⟩,y⟩,A⟩,F⟩,H⟩,M⟩,I⟩,hd⟩,O⟩:=h
  refine ⟨iT g a b d,iT g a b f,iT g a b m,λx E=>?_,⟨q,t,y⟩,⟨A,F⟩,⟨ve H,ve M⟩,B (og a (ib d)) (by simpa using b) I,u (og a (ib f)) (by simpa using b) hd,C (og a (ib m)) (by simpa using b) O⟩
  obtain ⟨p,w,L,z⟩:=(uw g a b).1 E
  have:=Ck n x p w (by rwa [Nat.zero_add]) z
  omega
 | drop k r =>
  intro R listed a b h
  simp only [ll,Bool.and_eq_true,Bool.not_eq_true'] at h
  obtain ⟨⟨d,m⟩,f⟩:=h
  refine ⟨λH=>?_,m,r a b f⟩
  split at d
  ·rename_i c I
   have:=H c I
   rw [a,this] at d
   cases d
  ·cases d
def dC.rest:dC->dC
 | .solo _ k | .go _ k | .take _ _ k=>k
 | .drop k=>k
 | s=>s
inductive lg where
 | none
 | reg (p:List Nat) (i:Nat)
 | dr (p:List Nat) (k:dC) (sc:List SB) (abY:Bool)
 deriving Inhabited
structure aZ where
 f:FuncId
 fr:Fr
 cur:lg:=.none
 todo:List SI
 deriving Inhabited
structure dh where
 nv:Nat:=0
 kn:Kn:=[]
 gl:List (Nat × Nat):=[]
 hp:List SB
 top:aZ
 dH:List (aZ × Nat):=[]
 deriving Inhabited
inductive QF where
 | be (b:BE)
 | cat (r:Nat) (n1:IE) (c1:CV) (n2:IE) (c2:CV)
 deriving Inhabited
def QF.den (ρ:Env):QF->Prop
 | .be b=>b.den ρ=true
 | .cat r a c1 c c2=>∀i j:Nat,((i:Int)<a.den ρ->ρ.ic r i 0 j=c1.I ρ i 0 j/\ρ.bc r i 0 j=c1.B ρ i 0 j) /\
   ((i:Int)<c.den ρ->ρ.ic r ((a.den ρ).toNat+i) 0 j=c2.I ρ i 0 j/\ρ.bc r ((a.den ρ).toNat+i) 0 j=c2.B ρ i 0 j)
inductive Out where
 | fin (σ:Sub)
 | stop (c:dh)
 | br (c:BE) (t e:Out)
 | ob (b:BE) (k:Out)
 | alt (a b:Out)
 | new (nv:Nat) (fs:List QF) (k:Out)
 | loop (nv:Nat) (σ:Sub) (k:Out)
 | back (i:Nat) (σ:Sub)
 | call (g:Nat) (σ:Sub) (nv:Nat) (k:Out)
 | bad (n:Nat)
 deriving Inhabited
inductive HK where
 | au
 | sl (e:TypeId)
 | eu (e:TypeId)
 deriving Inhabited
structure iX where
 f:FuncId
 p:List Nat
 xE:List (Tmp × HK):=[]
 kill:List Tmp:=[]
 mem:List Tmp:=[]
 deep:List Tmp:=[]
 ift:TypeId:=0
 ros:List (TypeId × Nat):=[]
 deriving Inhabited
structure Ex where
 loops:List iX:=[]
 cons:List dJ:=[]
 sched:List ((FuncId × List Nat) × dC):=[]
 fin:dJ:=default
 OU:Bool:=false
 deriving Inhabited
def bf.body (T:bf) (f:FuncId):Code:=((T.f f).bind (·.body)).getD .skip
def opsOf:Option Code->Array Oper
 | some (.region _ ops _)=>ops
 | _=>#[]
def bf.ops (T:bf) (f:FuncId) (p:List Nat):Array Oper:=opsOf (Code.at (T.body f) p)
def bf.ntmps (T:bf) (f:FuncId):Nat:=((T.f f).map (·.ntmps)).getD 0
def jS:BE->Bool->Kn->Kn
 | .not a,v,kn=>jS a (!v) kn
 | .and a b,true,kn=>jS a true (jS b true kn)
 | .or a b,false,kn=>jS a false (jS b false kn)
 | c,v,kn=>(c,v) :: kn
theorem qL {ρ:Env}:∀{c:BE} {v:Bool} {kn:Kn},c.den ρ=v->Kn.ok ρ kn->Kn.ok ρ (jS c v kn):=by
 intro c
 induction c with
 | not a i=>intro v kn h e;exact i (by simp [BE.den] at h;simp [<-h]) e
 | and a b f g =>
  intro v kn h e
  cases v with
  | true =>
   simp [BE.den] at h
   exact f h.1 (g h.2 e)
  | false =>
   intro p d
   simp only [jS,List.mem_cons] at d
   rcases d with rfl | d
   ·exact h
   ·exact e p d
 | or a b f g =>
  intro v kn h e
  cases v with
  | false =>
   simp [BE.den] at h
   exact f h.1 (g h.2 e)
  | true =>
   intro p d
   simp only [jS,List.mem_cons] at d
   rcases d with rfl | d
   ·exact h
   ·exact e p d
 | _ =>
  intro v kn h e p d
  simp only [jS,List.mem_cons] at d
  rcases d with rfl | d
  ·exact h
  ·exact e p d
def aZ.sc (nv n:Nat) (F:aZ):Bool:=Ox nv n F.fr && (match F.cur with | .dr _ _ sc _=>sP nv n sc && Nat.ble sc.length n | _=>true)
def xG (nv n:Nat):List (aZ × Nat)->Bool
 | []=>true
 | x :: r=>x.1.sc nv n && xG nv n r
def Dg (n:Nat):List (Nat × Nat)->Bool
 | []=>true
 | x :: r=>Nat.blt x.2 n && Dg n r
def dh.sc (c:dh):Bool :=
 let n:=c.hp.length
 Gr c.nv c.kn && sP c.nv n c.hp && c.top.sc c.nv n && xG c.nv n c.dH && Dg n c.gl
def CV.sc (nv n:Nat):CV->Bool
 | .up g _ a c=>Nat.blt g.r nv && g.n1.sc nv && uY nv n a && c.sc nv
 | .ex b _ _ _=>rH nv n b
def zo (sb:SB) (a:SA):List SC->Nat->Option (SB × List BE)
 | [],_=>some (sb,[])
 | c :: r,k =>
  match sb.loc a k with
  | none=>none
  | some l =>
   match sb.write l c with
   | none=>none
   | some d=>match zo d a r (k+1) with
    | none=>none
    | some (b,e)=>some (b,l.gN ++ e)
inductive ER where
 | val (v:SV) (gN:List BE)
 | new (v:SV) (sb:SB) (gN:List BE)
 | st (ak:Nat) (sb:SB) (gN:List BE)
 | app (ak:Option Nat) (v:SV) (sb:SB) (k:Nat) (fs:List QF) (gN:List BE)
 | call (g:FuncId) (args:List SW)
 | br (c:BE)
 | no
def I7:List (Option SV)->Option (List SW)
 | []=>some []
 | some (.w x) :: r=>(I7 r).map (x :: ·)
 | _ :: _=>none
def zs (n size:Nat) (l:List SC):List SC:=(List.range (n * size)).map λi=>l.getD (i % size) .hole
def IE.OV (a b:IE):IE :=
 match a.dM,b.dM with
 | some x,some y=>.lit (x * y)
 | _,_=>.mul a b
def xH (i:IE):List SC->Nat->Nat->List Up
 | [],_,_=>[]
 | c :: r,size,p=>⟨0,i.jL (.lit (p / size:Nat)),.lit 0,p % size,c⟩ :: xH i r size (p+1)
def EX:List SC->Bool
 | []=>false
 | c :: r=>c.isHole || EX r
def abZ (c:Option (IE × Nat)) (cap:IE) (size:Nat):Bool:=match c with | some (c,n)=>c.same cap && n == size | none=>false
def sZ:SC->Kd
 | .int k _=>.int k
 | .bool _=>.bool
 | _=>.val
inductive Old where
 | cells (cs:List SC)
 | R8 (g:aU) (us:List Up)
def I8 (b:TI) (e:TypeId) (d:List SB) (c:BE) (a:SA) (len cap:IE) (os:List BE):Option (Option Nat × BE × IE × Old × List BE) :=
 match d[a.ak]? with
 | some sb =>
  if sb.gone || sb.lY || sb.ro || !sb.own || !(sb.t == e) || !abZ sb.cap cap b.size || !a.base || !sb.nl.same c then none else
  let gN:List BE:=.ah (.lit 0) len :: .ah len cap :: .ah cap (.lit 9223372036854775807) :: os
  match sb.bz with
  | []=>match len.dM with
   | some L=>if decide (L.toNat * b.size<=sb.cs.length) then some (some a.ak,c,len,.cells (sb.cs.take (L.toNat * b.size)),gN) else none
   | none=>none
  | [g] =>
   if sb.cs.isEmpty && g.s1 == b.size && g.n2 == 1 && g.s2 == 0 && g.lo == 0 && g.ks.length == b.size && (sb.ups.isEmpty || c.same (.lit false)) then
    some (some a.ak,c,len,.R8 g sb.ups,.ah len g.n1 :: gN)
   else none
  | _=>none
 | none=>none
def Ns (d:TI) (e:TypeId) (b:List SB) (dst:SV):Option (Option Nat × BE × IE × Old × List BE) :=
 match dst with
 | .w (.one .dA)=>some (none,.lit true,.lit 0,.cells [],[])
 | .w (.one (.sl a len cap))=>I8 d e b (.lit false) a len cap []
 | .w (.one (.eu c a len cap))=>I8 d e b c a len cap [dP c len]
 | _=>none
def uk (a:TI):Old->CV
 | .cells c=>.ex c a.size 0 0
 | .R8 g b=>.up g 0 b (.lit 0)
def I9 (a:TI) (len:IE):Old->Bool
 | .cells c=>match len.dM with | some L=>IY c (a.zero.map sZ) 0 1 a.size L.toNat 0 | none=>false
 | .R8 g b=>mM g.ks (a.zero.map sZ) && oK g.ks 0 b
def wE (len:IE) (bytes:Nat):BE:=.ah (len.OV (.lit bytes)) (.lit 140737488355328)
def GA (nv:Nat) (len:IE):BE:=.and (.ah len (.var nv)) (.ah (.var nv) (.lit 9223372036854775807))
def Uv (c:TI) (e:TypeId) (nv:Nat) (d:List SB) (dst:SV) (m:Nat) (news:List SC):ER :=
 if decide (c.size=0) || decide (c.bytes=0) || !(news.length == m * c.size) || EX news || decide (m=0) || !rH nv d.length news then .no else
 match Ns c e d dst with
 | none=>.no
 | some (b,_,len,ay,gN) =>
  if !len.sc nv then .no else
  let a:=len.jL (.lit m)
  let v:SV:=.w (.one (.sl {ak:=d.length,i1:=.lit 0,s1:=c.size} a (.var nv)))
  match ay with
  | .cells cs =>
   if !rH nv d.length cs then .no else
   .app b v {t:=e,cs:=cs ++ news,opn:=true,own:=true,cap:=some (.var nv,c.size)} 1 [.be (GA nv a)] (wE a c.bytes :: gN)
  | .R8 g f =>
   if !(CV.up g 0 f (.lit 0)).sc nv d.length then .no else
   .app b v {t:=e,bz:=[{g with n1:=a}],ups:=xH len news c.size 0 ++ f,own:=true,cap:=some (.var nv,c.size)} 1 [.be (GA nv a)] (wE a c.bytes :: gN)
def Uw (b:TI) (e:List SB) (c:BE) (a:SA) (n:IE):Option (CV × List BE) :=
 match e[a.ak]? with
 | none=>none
 | some sb =>
  if sb.gone || sb.lY || !sb.cs.isEmpty || !(sb.nl.same c || sb.nl.same (.lit false)) then none else
  match sb.bz with
  | [g] =>
   match a.shift b.size with
   | some d =>
    if g.s1 == b.size && g.n2 == 1 && g.s2 == 0 && g.lo == 0 && mM g.ks (b.zero.map sZ) && oK g.ks 0 sb.ups then
     some (.up g 0 sb.ups d,[.ah (.lit 0) n,.ah (.lit 0) d,.ah (d.jL n) g.n1])
    else none
   | none=>none
  | _=>none
def jy (f:TI) (e:TypeId) (nv:Nat) (g:List SB) (dst:SV) (n:IE) (h:CV) (os:List BE):ER :=
 if decide (f.size=0) || decide (f.bytes=0) || !(f.zero.length == f.size) || !h.sc nv g.length || !n.sc nv then .no else
 match Ns f e g dst with
 | none=>.no
 | some (b,c,len,ay,gN) =>
  if !len.sc nv || !c.sc nv || !I9 f len ay || !(uk f ay).sc nv g.length then .no else
  let d:=len.jL n
  let k:=c.uE (BE.uF n (.lit 0))
  let a:SA:={ak:=g.length,i1:=.lit 0,s1:=f.size}
  let v:SV:=match k with | .lit false=>.w (.one (.sl a d (.var nv))) | _=>.w (.one (.eu k a d (.var nv)))
  .app b v {t:=e,bz:=[{r:=nv+1,n1:=d,s1:=f.size,ks:=f.zero.map sZ}],own:=true,cap:=some (.var nv,f.size),nl:=k} 2
   [.be (GA nv d),.be (dP k d),.be (dP k (.var nv)),.cat (nv+1) len (uk f ay) n h] (wE d f.bytes :: (gN ++ os))
def wG (g:TI) (e:TypeId) (kn:Kn) (nv:Nat) (f:List SB) (dst:SV) (h:SA) (m:Nat):ER :=
 match f[h.ak]? with
 | some a =>
  if a.gone || a.lY then .no else
  match vK kn a h (m * g.size) 0 with
  | .ok (news,i) =>
   match Uv g e nv f dst m news with
   | .app b v sb k j d=>.app b v sb k j (i ++ (a.Gl ++ d))
   | _=>.no
  | .br c=>.br c
  | .no=>.no
 | none=>.no
def AU (d:TI) (e:TypeId) (nv:Nat) (b:List SB) (dst:SV) (c:BE) (f:SA) (n:IE) (os:List BE):ER :=
 match Uw d b c f n with
 | some (g,a)=>jy d e nv b dst n g (os ++ a)
 | none=>.no
def ER.amY:ER->Bool
 | .no=>true
 | _=>false
def Ux (T:bf) (f:List (Nat × Nat)) (nv:Nat) (kn:Kn) (fr:Fr) (b:List SB) (t:TypeId) (s x:Operand):ER :=
 match T.ty t with
 | some g=>match g.d with
  | .sl e=>match T.ty e,eQ f kn fr s with
   | some d,some dst =>
    match eQ f kn fr x with
    | some (.w (.one (.sl a n _))) =>
     match n.dM with
     | some m=>let r:=wG d e kn nv b dst a m.toNat;if r.amY then AU d e nv b dst (.lit false) a n [] else r
     | none=>AU d e nv b dst (.lit false) a n []
    | some (.w (.one (.eu c a n _)))=>AU d e nv b dst c a n [dP c n]
    | _=>.no
   | _,_=>.no
  | _=>.no
 | none=>.no
def OX (c:List (Nat × Nat)) (kn:Kn) (fr:Fr) (f:Operand) (args:Array Operand):ER :=
 match eQ c kn fr f,I7 (args.toList.map (eQ c kn fr)) with
 | some (.w (.one (.fn g d))),some a=>.call g (a ++ d.map λb=>.one (.ptr {ak:=b}))
 | _,_=>.no
def KF (T:bf) (d:List (Nat × Nat)) (kn:Kn) (fr:Fr) (e:List SB) (t:TypeId) (a x:Operand):ER :=
 match eQ d kn fr a,eQ d kn fr x,T.ty t with
 | some (.w (.one (.ptr b))),some (.w y),some f =>
  match e[b.ak]? with
  | some sb=>if sb.gone || sb.lY || sb.ro || !sb.own then .no else if y.cells.length == f.size then match zo sb b y.cells 0 with | some (c,g)=>.st b.ak c (sb.Gl ++ g) | none=>.no else .no
  | none=>.no
 | _,_,_=>.no
def Dh (T:bf) (c:List (Nat × Nat)) (kn:Kn) (fr:Fr) (b:List SB) (t:TypeId) (len:Nat) (parts:Array (Nat × Operand)):ER :=
 match T.ty t with
 | some d=>match d.d with
  | .sl e=>match T.ty e,LZ (parts.toList.map λp=>(p.1,eQ c kn fr p.2)) with
   | some a,some f =>
    if decide (len * a.size<=16777216) && decide (0<a.size) then
     match ui (λi=>some (i * a.size,a.size)) (zs len a.size a.zero) f with
     | some cs=>.new (.w (.one (.sl {ak:=b.length,i1:=.lit 0,s1:=a.size} (.lit len) (.lit len)))) {t:=e,cs:=cs,own:=true,cap:=some (.lit len,a.size)} []
     | none=>.no
    else .no
   | _,_=>.no
  | _=>.no
 | none=>.no
def KG (g:aU):List aU->List aU
 | []=>[g]
 | h :: r=>if g.n2 == 1 && h.n2 == 1 && g.s2 == 0 && h.s2 == 0 && h.lo == g.lo+g.ks.length then KG {g with ks:=g.ks ++ h.ks} r else g :: KG h r
def OY:List aU->List aU
 | []=>[]
 | g :: r=>KG g r
def OZ (T:bf):Nat->TypeId->Nat->List aU
 | 0,_,_=>[]
 | n+1,t,lo =>
  match T.ty t with
  | none=>[]
  | some b =>
   match b.d with
   | .int k=>[{r:=0,n1:=.lit 1,lo:=lo,ks:=[.int k],z:=true}]
   | .bool=>[{r:=0,n1:=.lit 1,lo:=lo,ks:=[.bool],z:=true}]
   | .struct c=>(c.map λf=>OZ T n f.2 (lo+f.1)).flatten
   | .arr m e=>match T.ty e,OY (OZ T n e lo) with
    | some a,[g]=>if g.n2 == 1 && g.ks.length == a.size then [{g with n2:=m,s2:=a.size}] else []
    | _,_=>[]
   | _=>[]
def zq:Kd->SC->Bool
 | .int k,.int l (.lit n)=>lX k l && n == 0
 | .bool,.bool (.lit b)=>!b
 | _,_=>false
def EY (zero:List SC) (g:aU):Bool :=
 g.z && (List.range g.n2).all λa=>(List.range g.ks.length).all λj=>match g.ks[j]?,zero[a * g.s2+g.lo+j]? with | some k,some c=>zq k c | _,_=>false
def GD (T:bf) (b:List (Nat × Nat)) (kn:Kn) (fr:Fr) (d:List SB) (t:TypeId) (l c:Operand):ER :=
 match T.ty t with
 | some f=>match f.d with
  | .sl e=>match T.ty e,eQ b kn fr l,eQ b kn fr c with
   | some a,some (.w (.one (.int _ n))),some (.w (.one (.int _ m))) =>
    let bz:=(OY (OZ T 8 e 0)).map λg=>{g with n1:=n,s1:=a.size}
    if n.same m && decide (0<a.size) && bz.all (EY a.zero) && !bz.isEmpty then
     .new (.w (.one (.sl {ak:=d.length,i1:=.lit 0,s1:=a.size} n n))) {t:=e,bz:=bz,own:=true,cap:=some (n,a.size)}
      [.ah (.lit 0) n,.ah (n.OV (.lit a.bytes)) (.lit 281474976710656),.ah n (.lit 9223372036854775807)]
    else .no
   | _,_,_=>.no
  | _=>.no
 | none=>.no
def O0 (a:TI):Option aU :=
 match a.d with
 | .arr n _=>if decide (11<=n) && n == a.zero.length && a.zero.all (λc=>zq (.int .i64) c) then some {r:=0,n1:=.lit n,s1:=1,ks:=[.int .i64],z:=true} else none
 | _=>none
def Uy (T:bf) (d:List (Nat × Nat)) (nv:Nat) (kn:Kn) (fr:Fr) (b:List SB) (o:Oper):ER :=
 match o.op with
 | .alloc t=>match T.ty t with
  | some e=>match O0 e with
   | some g=>.new (.w (.one (.ptr {ak:=b.length}))) {t:=t,bz:=[g],own:=true} []
   | none=>.new (.w (.one (.ptr {ak:=b.length}))) {t:=t,cs:=e.zero,own:=true} []
  | none=>.no
 | .box t x=>match T.ty t,eQ d kn fr x with | some _,some (.w y)=>.new (.w (.one (.ptr {ak:=b.length}))) {t:=t,cs:=y.cells,own:=true} [] | _,_=>.no
 | .buildSlice t len parts=>Dh T d kn fr b t len parts
 | .store t a x=>KF T d kn fr b t a x
 | .makeSlice t l c=>GD T d kn fr b t l c
 | .call {callee:=.builtin .append,args,argTypes} =>
  match args.toList,argTypes.toList with
  | [s,x],[t,h]=>if t == h then Ux T d nv kn fr b t s x else .no
  | _,_=>.no
 | .call {callee:=.value f,args,..}=>OX d kn fr f args
 | _=>match zk T d kn fr b o with
  | .ok v i=>.val v i
  | .br c=>.br c
  | .no=>.no
def Nv (ops:Array Oper) (fr:Fr) (o:Oper):Option BE :=
 match o.guard with
 | none=>some (.lit true)
 | some (j,want) =>
  match (ops[j]?).bind (·.dst) with
  | none=>none
  | some d =>
   match assoc d fr with
   | some (.w (.one (.bool b)))=>some (if want then b else b.oI)
   | some (.gd c (.one (.bool b)))=>some (.uE c (if want then b else b.oI))
   | some (.iB [])=>some (.lit false)
   | _=>none
def aZ.put (F:aZ) (dst:Option Tmp) (v:SV):aZ :=
 match dst with
 | some d=>{F with fr:=(d,v) :: F.fr}
 | none=>F
def vo (T:bf) (f:FuncId) (dst:Option Tmp):Bool:=match dst with | some d=>decide (d<T.ntmps f) | none=>true
def pJ (b:Option Nat) (a:List SB):List SB:=match b with | some b=>a.modify b (λs=>{s with gone:=true}) | none=>a
def aZ.Dj (F:aZ):List Nat:=match F.cur with | .reg p _=>p | .dr p _ _ _=>p | .none=>[]
def zt:List SW->Nat->Fr
 | [],_=>[]
 | x :: r,i=>(i,.w x) :: zt r (i+1)
structure HS where
 nv:Nat
 n:Nat
 news:List SB:=[]
 gone:List Nat:=[]
def HS.i (s:HS):HS × IE:=({s with nv:=s.nv+1},.var s.nv)
def HS.b (s:HS):HS × BE:=({s with nv:=s.nv+1},.var s.nv)
def afO (T:bf) (f:List SB) (g:HK) (s:HS) (c:SC):Option (HS × SC) :=
 let slice (e:TypeId) (nl:Bool) (ay:Option Nat):Option (HS × SC) :=
  match T.ty e with
  | none=>none
  | some d =>
   let (s,k):=if nl then s.b else (s,.lit false)
   let (s,l):=s.i
   let (s,cap):=s.i
   let own:=match ay with | some b=>(match f[b]? with | some sb=>sb.own | none=>true) | none=>true
   let sb:SB:={t:=e,bz:=[{r:=s.nv,n1:=l,s1:=d.size,ks:=d.zero.map sZ}],cap:=some (cap,d.size),own:=own,nl:=k}
   let a:SA:={ak:=s.n,i1:=.lit 0,s1:=d.size}
   some ({s with nv:=s.nv+1,n:=s.n+1,news:=sb :: s.news,gone:=match ay with | some b=>b :: s.gone | none=>s.gone},if nl then .eu k a l cap else .sl a l cap)
 match g with
 | .sl e=>slice e false (match c with | .sl a _ _=>some a.ak | _=>none)
 | .eu e=>slice e true (match c with | .sl a _ _=>some a.ak | .eu _ a _ _=>some a.ak | _=>none)
 | .au =>
  match c with
  | .int k _=>let (s,e):=s.i;some (s,.int k e)
  | .bool _=>let (s,b):=s.b;some (s,.bool b)
  | .val _ | .kV _ _ _ _=>some ({s with nv:=s.nv+1},.val s.nv)
  | .hole=>some (s,.hole)
  | _=>some (s,c)
def Uz (T:bf) (a:List SB) (s:HS):List SC->Option (HS × List SC)
 | []=>some (s,[])
 | c :: r=>match afO T a .au s c with
  | some (s,d)=>match Uz T a s r with | some (s,b)=>some (s,d :: b) | none=>none
  | none=>none
def amZ (T:bf) (a:List SB) (b:HK) (s:HS):SV->Option (HS × SV)
 | .w (.one c)=>(afO T a b s c).map λp=>(p.1,.w (.one p.2))
 | .w (.agg d)=>(Uz T a s d).map λp=>(p.1,.w (.agg p.2))
 | _=>none
def R9:List SC->Bool
 | []=>true
 | .bool _ :: r=>R9 r
 | _=>false
def am0 (T:bf) (a:List SB) (s:HS) (b:SB):Option (HS × SB) :=
 if b.bz.isEmpty && Nat.ble 9 b.cs.length && R9 b.cs then some ({s with nv:=s.nv+1},{b with cs:=[],bz:=[{r:=s.nv,n1:=.lit b.cs.length,s1:=1,ks:=[.bool]}],ups:=[]}) else
 match Uz T a s b.cs with
 | some (s,cs) =>
  let n:=b.bz.length
  some ({s with nv:=s.nv+n},{b with cs:=cs,bz:=(b.bz.zipIdx s.nv).map λp=>{p.1 with r:=p.2,z:=false},ups:=[]})
 | none=>none
def Sa (T:bf) (b:List SB) (fr:Fr):HS->List (Tmp × HK)->Option (HS × Fr)
 | s,[]=>some (s,[])
 | s,(t,c) :: r =>
  match assoc t fr with
  | some v=>match amZ T b c s v with
   | some (s,d)=>match Sa T b fr s r with | some (s,a)=>some (s,(t,d) :: a) | none=>none
   | none=>none
  | none=>none
def WU:SV->Option Nat
 | .w (.one (.ptr a))=>some a.ak
 | .w (.one (.sl a _ _))=>some a.ak
 | .w (.one (.eu _ a _ _))=>some a.ak
 | .w (.one (.mp b))=>some b
 | _=>none
def ab0 (T:bf) (fr:Fr):HS->List SB->List Tmp->Option (HS × List SB)
 | s,a,[]=>some (s,a)
 | s,a,t :: r =>
  match (assoc t fr).bind WU with
  | some b=>match a[b]? with
   | some sb=>match am0 T a s sb with
    | some (s,c)=>ab0 T fr s (a.set b c) r
    | none=>none
   | none=>none
  | none=>none
structure DS where
 s:HS
 hp:List SB
 done:List Nat:=[]
def Dk (T:bf):Nat->TypeId->Nat->Option TypeId
 | 0,_,_=>none
 | n+1,t,o =>
  match T.ty t with
  | none=>none
  | some a=>match a.d with
   | .struct c=>match c.find? (λf=>match T.ty f.2 with | some d=>Nat.ble f.1 o && Nat.blt o (f.1+d.size) | none=>false) with
    | some f=>Dk T n f.2 (o-f.1)
    | none=>none
   | .arr _ e=>match T.ty e with | some b=>Dk T n e (o % b.size) | none=>none
   | _=>some t
def afP (T:bf) (ro:Bool) (s:DS) (t:Option TypeId) (ay:Option Nat) (c:SC):DS × SC :=
 match t with
 | none=>(s,c)
 | some t =>
  match T.ty t with
  | none=>(s,c)
  | some d =>
   match d.d with
   | .sl e =>
    match T.ty e with
    | some a =>
     let v:=s.s.nv
     let sb:SB:=if ro then {t:=e,bz:=[{r:=v+3,n1:=.var (v+1),s1:=a.size,ks:=a.zero.map sZ}],ro:=true,nl:=.var v}
      else {t:=e,bz:=[{r:=v+3,n1:=.var (v+1),s1:=a.size,ks:=a.zero.map sZ}],cap:=some (.var (v+2),a.size),own:=true,nl:=.var v}
     ({s with s:={s.s with nv:=v+4,n:=s.s.n+1,news:=sb :: s.s.news,gone:=match ay with | some b=>b :: s.s.gone | none=>s.s.gone}},
       .eu (.var v) {ak:=s.s.n,i1:=.lit 0,s1:=a.size} (.var (v+1)) (.var (v+2)))
    | none=>(s,c)
   | _=>(s,c)
def ajR (T:bf) (s:DS) (t:Option TypeId) (ay:Nat) (c:SC):DS × SC :=
 match t with
 | none=>(s,c)
 | some t =>
  match T.ty t with
  | none=>(s,c)
  | some b =>
   match b.d with
   | .sl e =>
    match T.ty e with
    | some a =>
     let v:=s.s.nv
     let sb:SB:={t:=e,bz:=[{r:=v+3,n1:=.var v,s1:=a.size,ks:=a.zero.map sZ}],own:=true,nl:=.var v}
     ({s with s:={s.s with nv:=v+4,n:=s.s.n+1,news:=sb :: s.s.news,gone:=ay :: s.s.gone}},
       .eu (.var v) {ak:=s.s.n,i1:=.var (v+3),s1:=a.size} (.var (v+1)) (.var (v+2)))
    | none=>(s,c)
   | _=>(s,c)
def afQ:IE->Bool
 | .var _=>true
 | _=>false
def afR (s:DS) (t:TypeId):DS × SC :=
 ({s with s:={s.s with nv:=s.s.nv+1,n:=s.s.n+1,news:={t:=0,cs:=[],gone:=true} :: s.s.news}},.jH (.var s.s.nv) (.iface t (.ptr {ak:=s.s.n})))
def afS (T:bf) (L:iX) (go:DS->Nat->DS) (d:TypeId) (o:Nat) (s:DS) (c:SC):DS × SC :=
 match c with
 | .int k _=>let (h,e):=s.s.i;({s with s:=h},.int k e)
 | .bool _=>let (h,b):=s.s.b;({s with s:=h},.bool b)
 | .val _ | .kV _ _ _ _=>({s with s:={s.s with nv:=s.s.nv+1}},.val s.s.nv)
 | .ptr a=>(go s a.ak,c)
 | .mp b=>(go s b,c)
 | .sl a _ _=>(go s a.ak,c)
 | .eu _ a _ _=>if afQ a.i1 then ajR T s (Dk T 8 d o) a.ak c else afP T (L.ros.contains (d,o)) s (Dk T 8 d o) (some a.ak) c
 | .dA=>afP T (L.ros.contains (d,o)) s (Dk T 8 d o) none c
 | .jH _ (.iface t _)=>afR s t
 | .dW=>afR s L.ift
 | _=>(s,c)
def Sb (T:bf) (L:iX) (go:DS->Nat->DS) (a:TypeId):Nat->DS->List SC->DS × List SC
 | _,s,[]=>(s,[])
 | o,s,c :: r =>
  let (s,c'):=afS T L go a o s c
  let (s,r'):=Sb T L go a (o+1) s r
  (s,c' :: r')
def ab1 (T:bf) (L:iX):Nat->DS->Nat->DS
 | 0,s,_=>s
 | n+1,s,b =>
  if s.done.contains b then s else
  match s.hp[b]? with
  | none=>s
  | some sb =>
   if sb.gone || !sb.own then s else
   let (s,cs):=Sb T L (ab1 T L n) sb.t 0 {s with done:=b :: s.done} sb.cs
   let k:=sb.bz.length
   {s with s:={s.s with nv:=s.s.nv+k},hp:=s.hp.set b {sb with cs:=cs,bz:=(sb.bz.zipIdx s.s.nv).map λp=>{p.1 with r:=p.2,z:=false},ups:=[]}}
def WV (T:bf) (L:iX) (fr:Fr):DS->List Tmp->Option DS
 | s,[]=>some s
 | s,t :: r =>
  match (assoc t fr).bind WU with
  | some b=>WV T L fr (ab1 T L 8 s b) r
  | none=>none
def O1 (kill:List Tmp):Fr->List Tmp->Fr
 | [],_=>[]
 | (t,v) :: r,seen=>if kill.contains t || seen.contains t then O1 kill r seen else (t,v) :: O1 kill r (t :: seen)
def Sc:List Nat->List SB->List SB
 | [],a=>a
 | b :: r,a=>Sc r (a.modify b λs=>{s with gone:=true})
def O3 (T:bf) (L:iX) (c:dh) (todo:List SI):Option dh :=
 match Sa T c.hp c.top.fr {nv:=c.nv,n:=c.hp.length} L.xE with
 | none=>none
 | some (s,fr) =>
  match (ab0 T c.top.fr s c.hp L.mem).bind λp=>WV T L c.top.fr {s:=p.1,hp:=p.2} L.deep with
  | none=>none
  | some ⟨s,hp,_⟩ =>
   some {c with nv:=s.nv,hp:=Sc s.gone hp ++ s.news.reverse,top:={c.top with fr:=fr ++ O1 (L.kill ++ L.xE.map (·.1)) c.top.fr [],todo:=todo}}
def O4:SI->SI->Bool
 | .code p,.code q=>p == q
 | .ak i,.ak j=>i == j
 | .IC p,.IC q=>p == q
 | .scp p,.scp q=>p == q
 | _,_=>false
def pK:List SI->List SI->Bool
 | [],[]=>true
 | a :: r,b :: s=>O4 a b && pK r s
 | _,_=>false
def vN:List SW->List SW->Bool
 | [],[]=>true
 | a :: r,b :: s=>a.same b && vN r s
 | _,_=>false
def SV.same:SV->SV->Bool
 | .w a,.w b=>a.same b
 | .iB a,.iB b=>vN a b
 | .gd c a,.gd d b=>c.same d && a.same b
 | _,_=>false
def zu:Fr->Fr->Bool
 | [],[]=>true
 | (t,a) :: r,(u,b) :: s=>t == u && a.same b && zu r s
 | _,_=>false
def dC.same:dC->dC->Bool
 | .nil c,.nil d=>qW c d
 | .take i D k,.take j E l=>i == j && D == E && k.same l
 | .solo i k,.solo j l=>i == j && k.same l
 | .go i k,.go j l=>i == j && k.same l
 | .alt i k j l,.alt e f a b=>i == e && k.same f && j == a && l.same b
 | .two i k j l,.two e f a b=>i == e && k.same f && j == a && l.same b
 | .sU i k j l m n,.sU e f a b h g=>i == e && k.same f && j == a && l.same b && m == h && n.same g
 | .drop k,.drop l=>k.same l
 | _,_=>false
def SB.same (a b:SB):Bool:=a.gone == b.gone && a.own == b.own && a.opn == b.opn && xy a.cs b.cs && mi a.bz b.bz && nZ a.ups b.ups && a.t == b.t && a.ro == b.ro && vM a.cap b.cap && a.nl.same b.nl
def wH:List SB->List SB->Bool
 | [],[]=>true
 | a :: r,b :: s=>a.same b && wH r s
 | _,_=>false
def lg.same:lg->lg->Bool
 | .none,.none=>true
 | .reg p i,.reg q j=>p == q && i == j
 | .dr p k sc d,.dr q l a b=>p == q && k.same l && wH sc a && d == b
 | _,_=>false
def aZ.same (F G:aZ):Bool:=F.f == G.f && zu F.fr G.fr && F.cur.same G.cur && pK F.todo G.todo
def tq:List (aZ × Nat)->List (aZ × Nat)->Bool
 | [],[]=>true
 | a :: r,b :: s=>a.1.same b.1 && a.2 == b.2 && tq r s
 | _,_=>false
def wI:List (Nat × Nat)->List (Nat × Nat)->Bool
 | [],[]=>true
 | a :: r,b :: s=>a.1 == b.1 && a.2 == b.2 && wI r s
 | _,_=>false
def uFr (σ:Sub) (fr:Fr):Fr->Sub
 | []=>σ
 | (t,v) :: r=>match assoc t fr with | some x=>uFr (uSV σ v x) fr r | none=>σ
def mFr (σ:Sub) (fr:Fr):Fr->Bool
 | []=>true
 | (t,v) :: r=>(match assoc t fr with | some x=>mSV σ v x | none=>false) && mFr σ fr r
def lg.isNone:lg->Bool
 | .none=>true
 | _=>false
def Ja (lo ae:Nat) (cT c:dh):Option (Sub × List BE) :=
 let a:=KD (uFr {lo:=lo,ae:=ae} c.top.fr cT.top.fr) c.hp cT.hp
 if a.lo == lo && a.ae == ae && cT.top.f == c.top.f && cT.top.cur.isNone && c.top.cur.isNone && pK cT.top.todo c.top.todo && tq cT.dH c.dH && wI cT.gl c.gl && mFr a c.top.fr cT.top.fr then
  (qh a cT.hp c.hp).map λb=>(a,b)
 else none
inductive SR where
 | next (gN:List BE) (fs:List QF) (c:dh)
 | alt (c c':dh)
 | call (gN:List BE) (g:Nat) (σ:Sub) (c:dh)
 | br (c:BE)
 | ret (gN:List BE) (v:SV)
 | stop
 | no (n:Nat)
def ajS:SW->SW->Bool
 | .one .dB,.one (.ptr _)=>false
 | .one (.ptr _),.one .dB=>false
 | .one .dW,.one (.iface _ _)=>false
 | .one (.iface _ _),.one .dW=>false
 | .one (.iface t _),.one (.iface u _)=>t == u
 | _,_=>true
def WW:List SW->List SW->Bool
 | a :: r,b :: s=>ajS a b && WW r s
 | _,_=>true
def zw (f:FuncId) (aS0:List SW):List dJ->Nat->Option (Nat × dJ)
 | [],_=>none
 | c :: r,i=>if c.f == f && WW c.args aS0 then some (i,c) else zw f aS0 r (i+1)
def uGl (σ:Sub) (a:List (Nat × Nat)):List (Nat × Nat)->Sub
 | []=>σ
 | (g,k) :: r=>match assoc g a with | some b=>uGl (σ.OJ k {ak:=b}) a r | none=>σ
def WX (σ:Sub) (a:List (Nat × Nat)):List (Nat × Nat)->Bool
 | []=>true
 | (g,k) :: r=>(match assoc g a with | some b=>RU σ k b | none=>false) && WX σ a r
def pM (t:Tr) (σ:Sub) (b:List SB):List SB->Nat->List SB->Option (List SB)
 | [],_,c=>some c
 | T :: r,k,c =>
  if T.own && !T.gone then
   match assoc k σ.bk with
   | some a=>match (b[k]?).bind (SB.tr t) with | some sb=>pM t σ b r (k+1) (c.set a.ak sb) | none=>none
   | none=>pM t σ b r (k+1) c
  else pM t σ b r (k+1) c
def Jc (t:Tr):List SB->Option (List SB)
 | []=>some []
 | b :: r=>iJ List.cons (b.tr t) (Jc t r)
def Jd (nv n:Nat) (σ:Sub):Bool :=
 σ.iv.all (λp=>p.2.sc nv) && σ.bv.all (λp=>p.2.sc nv) && σ.vv.all (λp=>p.2.sc nv n) && σ.bk.all (λp=>p.2.sc nv n)
def Ny (k:dJ) (c:dh) (args:List SW):Option (Sub × List BE × SV × dh) :=
 let a:=KD (uGl (Ur {lo:=0,ae:=0} k.args args) c.gl k.gl) c.hp k.hp
 if a.lo == 0 && a.ae == 0 && Gt a k.args args && WX a c.gl k.gl && Jd c.nv c.hp.length a then
  match qh a k.hp c.hp with
  | none=>none
  | some b =>
   let t:Tr:=⟨a,k.nv,c.nv,k.hp.length,c.hp.length⟩
   match pM t a k.hp' k.hp 0 c.hp,Jc t (k.hp'.drop k.hp.length),k.ret.tr t with
   | some hp,some new,some v=>some (a,b,v,{c with nv:=c.nv+(k.iV-k.nv),hp:=hp ++ new})
   | _,_,_=>none
 else none
def AX (T:bf) (E:Ex) (c:dh) (ops:Array Oper) (i:Nat) (eB:aZ->aZ):SR :=
 match ops[i]? with
 | none=>.no 1
 | some o =>
  if !vo T c.top.f o.dst then .no 2 else
  match Nv ops c.top.fr o with
  | none=>.no 3
  | some g =>
   match g.decide c.kn with
   | some false=>.next [] [] {c with top:=eB (c.top.put o.dst (.iB []))}
   | none =>
    match zk (T.sw c.top.f) c.gl (jS g true c.kn) c.top.fr c.hp o with
    | .ok (.w x) a=>.next (a.map λb=>.or g.oI b) [] {c with top:=eB (c.top.put o.dst (.gd g x))}
    | _=>.br g
   | some true =>
    match Uy (T.sw c.top.f) c.gl c.nv c.kn c.top.fr c.hp o with
    | .val v a=>.next a [] {c with top:=eB (c.top.put o.dst v)}
    | .new v sb a=>if c.sc then .next a [] {c with hp:=c.hp ++ [sb],top:=eB (c.top.put o.dst v)} else .no 14
    | .st b sb a=>.next a [] {c with hp:=c.hp.set b sb,top:=eB (c.top.put o.dst (.iB []))}
    | .app b v sb k e a =>
     if c.sc && Ow c.nv a && !sb.lY then .next a e {c with nv:=c.nv+k,hp:=pJ b c.hp ++ [sb],top:=eB (c.top.put o.dst v)} else .no 15
    | .call f args =>
     match zw f args E.cons 0 with
     | some (g,k) =>
      if c.sc then
       match Ny k c args with
       | some (h,a,v,d)=>if Ow c.nv a then .call a g h {d with top:=eB (c.top.put o.dst v)} else .no 19
       | none=>.no 17
      else .no 18
     | none =>
      match T.f f with
      | some fn=>if fn.body.isSome && !(fn.name == "runtime.NumGoroutine") && decide (args.length<=fn.ntmps) then
        .next [] [] {c with top:={f:=f,fr:=zt args 0,todo:=[.code []]},dH:=(c.top,i) :: c.dH} else .no 4
      | none=>.stop
    | .br b=>.br b
    | .no=>.stop
def Dl (p:List Nat) (i:Nat) (F:aZ):aZ:={F with cur:=.reg p (i+1)}
def EZ (p:List Nat) (k:dC) (sc:List SB) (F:aZ):aZ:={F with cur:=.dr p k sc true}
def aZ.eB (F:aZ) (i:Nat):aZ :=
 match F.cur with
 | .reg p _=>Dl p i F
 | .dr p k sc _=>EZ p k.rest sc F
 | .none=>F
def aeb (T:bf) (c:List (Nat × Nat)) (kn:Kn) (fr:Fr) (o:Oper):Option (Nat × Option (Nat × Nat)) :=
 match o.op with
 | .load t a=>match eQ c kn fr a with | some (.w (.one (.ptr b)))=>some (b.ak,match b.dM,T.ty t with | some p,some d=>some (p,d.size) | _,_=>none) | _=>none
 | _=>none
def l5 (T:bf) (c:List (Nat × Nat)) (kn:Kn) (fr:Fr) (a sc:List SB) (o:Oper):Option (List SB) :=
 match aeb T c kn fr o with | some b=>some (hold b.2 sc a b.1) | none=>none
def Nz:Option Nat->List Nat->Bool
 | none,_=>true
 | some x,l=>l.contains x
def wJ (T:bf) (c:dh) (ops:Array Oper) (i D:Nat) (p:List Nat) (k:dC) (sc:List SB):SR :=
 match ops[i]? with
 | none=>.no 21
 | some o =>
  if !vo T c.top.f o.dst then .no 6 else
  match Nv ops c.top.fr o with
  | none=>.no 22
  | some g =>
   match g.decide c.kn with
   | some false=>.next [] [] {c with top:={c.top.put o.dst (.iB []) with cur:=.dr p k sc false}}
   | some true =>
    if (l5 T c.gl c.kn c.top.fr c.hp sc o).isSome && !Nz k.iA (bitsOf ops.size D) then .no 24 else
    match zk (T.sw c.top.f) c.gl c.kn c.top.fr ((l5 T c.gl c.kn c.top.fr c.hp sc o).getD []) o with
    | .ok v a=>.next a [] {c with top:={c.top.put o.dst v with cur:=.dr p k ((l5 T c.gl c.kn c.top.fr c.hp sc o).getD sc) false}}
    | .br b=>.br b
    | .no=>.no 7
   | none =>
    if (l5 T c.gl (jS g true c.kn) c.top.fr c.hp sc o).isSome && !Nz k.iA (bitsOf ops.size D) then .no 24 else
    match zk (T.sw c.top.f) c.gl (jS g true c.kn) c.top.fr ((l5 T c.gl (jS g true c.kn) c.top.fr c.hp sc o).getD []) o with
    | .ok (.w x) a=>.next (a.map λb=>.or g.oI b) [] {c with top:={c.top.put o.dst (.gd g x) with cur:=.dr p k ((l5 T c.gl (jS g true c.kn) c.top.fr c.hp sc o).getD sc) false}}
    | _=>.br g
def GG (T:bf) (E:Ex) (c:dh) (p:List Nat) (k:dC) (sc:List SB) (d:Bool):SR :=
 if k.De then .next [] [] {c with top:={c.top with cur:=.dr p k.rest [] false}} else
 if d then
  if fZ sc c.hp then .next [] [] {c with top:={c.top with cur:=.dr p k sc false}} else .no 5
 else
 let ops:=T.ops c.top.f p
 match k with
 | .nil _=>.next [] [] {c with top:={c.top with cur:=.none}}
 | .take i D k=>wJ T c ops i D p k sc
 | .solo i k | .go i k=>AX T E c ops i (EZ p k sc)
 | .alt i b j a=>.alt {c with top:={c.top with cur:=.dr p (.go i b) sc false}} {c with top:={c.top with cur:=.dr p (.go j a) sc false}}
 | .two i b j a=>.alt {c with top:={c.top with cur:=.dr p (.go i b) sc false}} {c with top:={c.top with cur:=.dr p (.go j a) sc false}}
 | .sU i b j a l e=>.alt {c with top:={c.top with cur:=.dr p (.go i b) sc false}} {c with top:={c.top with cur:=.dr p (.two j a l e) sc false}}
 | .drop _=>.no 25
def Dm (T:bf) (c:dh):List ResultVar->Option (List SW × List BE)
 | []=>some ([],[])
 | .tmp t :: r =>
  match assoc t c.top.fr,Dm T c r with
  | some (.w x),some (d,b)=>some (x :: d,b)
  | _,_=>none
 | .cell a t :: r =>
  match assoc a c.top.fr,Dm T c r with
  | some (.w (.one (.ptr f))),some (d,b) =>
   match Iz T c.kn c.hp t f with
   | .ok (.w x) e=>some (x :: d,e ++ b)
   | _=>none
  | _,_=>none
def Dn:List SW->SV
 | [x]=>.w x
 | a=>.iB a
def xI (T:bf) (c:dh):SR :=
 match T.f c.top.f with
 | none=>.no 8
 | some fn =>
  match Dm T c fn.results.toList with
  | none=>.no 9
  | some (b,a) =>
   let v:SV:=Dn b
   match c.dH with
   | []=>.ret a v
   | (G,i) :: st =>
    let o:=(T.ops G.f G.Dj)[i]?
    if vo T G.f (o.bind (·.dst)) then
     .next a [] {c with top:=(G.put (o.bind (·.dst)) v).eB i,dH:=st}
    else .no 10
def vO (f:FuncId) (p:List Nat):List ((FuncId × List Nat) × dC)->Option dC
 | []=>none
 | x :: r=>if x.1.1 == f && x.1.2 == p then some x.2 else vO f p r
def jX (T:bf):List ((FuncId × List Nat) × dC)->List (List OI)->Bool
 | [],[]=>true
 | x :: r,a :: s=>(let ops:=T.ops x.1.1 x.1.2;Region.noSelect ops && x.2.size == ops.size && !x.2.jk && lL ops ops.size ops.toList a && ll a (2 ^ ops.size-1) x.2) && jX T r s
 | _,_=>false
def rO (T:bf) (E:Ex) (c:dh):SR :=
 let F:=c.top
 match F.cur with
 | .reg p i =>
  let ops:=T.ops F.f p
  if decide (i<ops.size) then AX T E c ops i (Dl p i)
  else .next [] [] {c with top:={F with cur:=.none}}
 | .dr p k sc d=>GG T E c p k sc d
 | .none =>
  match F.todo with
  | []=>xI T c
  | .ak _ :: k=>.next [] [] {c with top:={F with todo:=k}}
  | .scp _ :: _=>.stop
  | .IC q :: k=>.next [] [] {c with top:={F with todo:=.code q :: .IC q :: k}}
  | .code p :: k =>
   match Code.at (T.body F.f) p with
   | some .skip | some (.label _)=>.next [] [] {c with top:={F with todo:=k}}
   | some (.seq _ _)=>.next [] [] {c with top:={F with todo:=.code (p ++ [0]) :: .code (p ++ [1]) :: k}}
   | some (.cond o _ _) =>
    match (eQ c.gl c.kn F.fr o).bind wu with
    | none=>.no 11
    | some b =>
     match b.decide c.kn with
     | some true=>.next [] [] {c with top:={F with todo:=.code (p ++ [0]) :: k}}
     | some false=>.next [] [] {c with top:={F with todo:=.code (p ++ [1]) :: k}}
     | none=>.br b
   | some (.block a _)=>.next [] [] {c with top:={F with todo:=.code (p ++ [0]) :: .ak a :: k}}
   | some (.loop _)=>.next [] [] {c with top:={F with todo:=.code (p ++ [0]) :: .IC (p ++ [0]) :: k}}
   | some (.exit a)=>match vL a k with | some e=>.next [] [] {c with top:={F with todo:=e}} | none=>.no 12
   | some .ret=>xI T c
   | some (.region _ _ false)=>.next [] [] {c with top:={F with cur:=.reg p 0,todo:=k}}
   | some (.region _ _ true)=>match vO F.f p E.sched with
    | some s=>.next [] [] {c with top:={F with cur:=.dr p s [] false,todo:=k}}
    | none=>.no 13
   | _=>.stop
def GH (f:FuncId) (p:List Nat):List iX->Option iX
 | []=>none
 | x :: r=>if x.f == f && x.p == p then some x else GH f p r
def O5 (T:bf) (E:Ex) (c:dh):Option (iX × List SI) :=
 match c.top.cur,c.top.todo with
 | .none,.code p :: k=>match GH c.top.f p E.loops with
  | some L=>match Code.at (T.body c.top.f) p with
   | some (.loop _)=>some (L,.code (p ++ [0]) :: .IC (p ++ [0]) :: k)
   | _=>none
  | none=>none
 | _,_=>none
def O6 (E:Ex) (c:dh):Option (List SI) :=
 match c.top.cur,c.top.todo with
 | .none,.IC q :: k=>match GH c.top.f q.dropLast E.loops with
  | some _=>some (.code q :: .IC q :: k)
  | none=>none
 | _,_=>none
structure FN where
 lo:Nat
 ae:Nat
 cT:dh
 deriving Inhabited
def zx (c:dh):List FN->Nat->Option (Nat × FN)
 | [],_=>none
 | o :: r,i=>if o.cT.top.f == c.top.f && pK o.cT.top.todo c.top.todo && o.cT.dH.length == c.dH.length then some (i,o) else zx c r (i+1)
def rP (kn:Kn):List BE->(Kn->Out)->Out
 | [],k=>k kn
 | b :: r,k =>
  match b.decide kn with
  | some true=>rP kn r k
  | some false=>.bad 20
  | none=>.ob b (rP (jS b true kn) r k)
def O7 (kn:Kn):List QF->Kn
 | []=>kn
 | .be k :: r=>O7 (jS k true kn) r
 | _ :: r=>O7 kn r
def Sd (nv:Nat) (fs:List QF) (k:Out):Out:=match fs with | []=>k | _=>.new nv fs k
def WY (F:dJ) (c:dh) (v:SV):Option (Sub × List BE) :=
 let a:=KD (uSV {lo:=F.nv,ae:=F.hp.length} F.ret v) c.hp F.hp'
 if a.lo == F.nv && a.ae == F.hp.length && mSV a F.ret v then (qh a F.hp' c.hp).map λb=>(a,b) else none
def wK:Kn->Kn->Bool
 | [],[]=>true
 | a :: r,b :: s=>a.1.same b.1 && a.2 == b.2 && wK r s
 | _,_=>false
def KH (x y:Fr):Fr:=x.filter λp=>(match assoc p.1 x with | some v=>v.same p.2 | none=>false) && match assoc p.1 y with | some v=>v.same p.2 | none=>false
def vP (x y:dh):Bool:=x.nv == y.nv && wK x.kn y.kn && wI x.gl y.gl && wH x.hp y.hp && x.top.f == y.top.f && x.top.cur.isNone && y.top.cur.isNone && pK x.top.todo y.top.todo && tq x.dH y.dH
def qm (x y:dh):dh:={x with top:={x.top with fr:=KH x.top.fr y.top.fr}}
def atEnd (d:Nat) (c:dh):Bool:=c.dH.length == d && c.top.cur.isNone
def UA (kn:Kn) (os:List BE):Bool:=os.all λb=>match b.decide kn with | some true=>true | _=>false
def Je (a:Nat) (x y:dh):Bool:=x.nv == y.nv && wK x.kn y.kn && x.sc && Nat.ble a x.hp.length && Dg a x.gl && xG x.nv a x.dH && match Ja y.nv a x y with | some (_,b)=>UA y.kn b | none=>false
def WZ (c:dh) (a:List SB):Bool:=match c.top.cur with | .dr _ _ sc false=>fZ sc a | _=>true
def zy (a m:Nat) (c:dh):dh :=
 if Nat.blt m c.hp.length && Nat.ble a m && WZ c (c.hp.take m) && ({c with hp:=c.hp.take m}:dh).sc then {c with hp:=c.hp.take m} else c
def vQ (a:Nat) (c:dh) (ls:List Nat) (c':dh):dh × List Nat :=
 if Nat.blt c.dH.length c'.dH.length then (c',c.hp.length :: ls)
 else if Nat.blt c'.dH.length c.dH.length then match ls with | m :: r=>(zy a m c',r) | []=>(c',[])
 else (c',ls)
def Dp (T:bf) (E:Ex) (d e:Nat):Nat->List Nat->dh->Option dh
 | 0,_,_=>none
 | n+1,g,c =>
  match rO T E c with
  | .next h j i=>if j.isEmpty && UA c.kn h then
    match vQ e c g i with
    | (c2,f)=>if atEnd d c2 then some c2 else Dp T E d e n f c2
   else none
  | .alt a b=>match Dp T E d e n g a,Dp T E d e n g b with
   | some x,some y=>if vP x y then some (qm x y) else if Je c.hp.length x y then some x else none
   | _,_=>none
  | _=>none
def O8 (T:bf) (E:Ex) (n d c:Nat) (a b:dh):Option dh :=
 if E.OU then match Dp T E d c n [] a,Dp T E d c n [] b with
  | some x,some y=>if vP x y then some (qm x y) else if Je c x y then some x else none
  | _,_=>none
 else none
def dh.norm {α:Type} (k:dh->α):dh->α
 | ⟨a,kn,b,c,⟨f,fr,cur,todo⟩,d⟩=>k ⟨a,kn,b,c,⟨f,fr,cur,todo⟩,d⟩
theorem dh.norm_eq {α:Type} (k:dh->α) (c:dh):dh.norm k c=k c:=rfl
def exec (T:bf) (E:Ex):Nat->List FN->dh->Out
 | 0,_,c=>.stop c
 | n+1,op,c=>dh.norm (λc =>
   match O5 T E c with
   | some (L,todo) =>
     match O3 T L c todo with
     | none=>.bad 40
     | some cT =>
       match Ja c.nv c.hp.length cT {c with top:={c.top with todo:=todo}} with
       | none=>.bad 41
       | some (e,d)=>if c.sc && cT.sc && Nat.ble c.nv cT.nv && Nat.ble c.hp.length cT.hp.length then rP c.kn d λ_=>.loop c.nv e (exec T E n (⟨c.nv,c.hp.length,cT⟩ :: op) cT) else .bad 42
   | none =>
     match O6 E c with
     | some todo =>
       match zx {c with top:={c.top with todo:=todo}} op 0 with
       | none=>.bad 43
       | some (i,o) =>
         match Ja o.lo o.ae o.cT {c with top:={c.top with todo:=todo}} with
         | none=>.bad 44
         | some (e,d)=>rP c.kn d λ_=>.back i e
     | none =>
       match rO T E c with
       | .next d j f=>rP c.kn d λkn=>Sd c.nv j (exec T E n op {f with kn:=O7 kn j})
       | .alt a b=>match O8 T E n c.dH.length c.hp.length a b with
         | some z=>exec T E n op z
         | none=>.alt (exec T E n op a) (exec T E n op b)
       | .call d g e f=>rP c.kn d λkn=>.call g e c.nv (exec T E n op {f with kn:=kn})
       | .br b=>.br b (exec T E n op {c with kn:=jS b true c.kn}) (exec T E n op {c with kn:=jS b false c.kn})
       | .ret d v =>
         match WY E.fin c v with
         | some (e,h)=>rP c.kn (d ++ h) λ_=>.fin e
         | none=>.bad 45
       | .stop=>.stop c
       | .no k=>.bad k) c
def ab3 (P:Program):List (FuncId × Func)->Prop
 | []=>True
 | x :: r=>P.funcs[x.1]?=some x.2/\ab3 P r
theorem W9 {P:Program}:∀{l:List (FuncId × Func)},ab3 P l->∀f fn,(f,fn)∈l->P.funcs[f]?=some fn
 | [],_,f,fn,h=>by cases h
 | x :: r,a,f,fn,h=>by
  rcases List.mem_cons.1 h with e | h
  ·have:=a.1
   rw [<-e] at this
   exact this
  ·exact W9 a.2 f fn h
def bZ (f:FuncId) (nv:Nat) (kn:Kn) (gl:List (Nat × Nat)) (hp:List SB) (args:List SW):dh :=
 {nv:=nv,kn:=kn,gl:=gl,hp:=hp,top:={f:=f,fr:=zt args 0,todo:=[.code []]}}
def ZG (n:Nat) (k:Nat->Bool):Bool:=match n with | 0=>k 0 | m+1=>k (m+1)
theorem Sg (n:Nat) (k:Nat->Bool):ZG n k=k n:=by cases n <;> rfl
def UB (ops:Array Oper):List Oper->(List OI->Bool)->Bool
 | [],k=>k []
 | o :: r,k=>ZG (nX (lK o)) λe=>ZG (nX (o.looksAt ops)) λl=>UB ops r λa=>k (⟨e,l,o.dst⟩ :: a)
def UC (ops:Array Oper) (o:Oper):OI:=⟨nX (lK o),nX (o.looksAt ops),o.dst⟩
theorem Si (ops:Array Oper):∀(l:List Oper) (k:List OI->Bool),UB ops l k=k (l.map (UC ops))
 | [],k=>rfl
 | o :: r,k=>by
  unfold UB
  rw [Sg,Sg,Si ops r]
  rfl
def KI (T:bf):List ((FuncId × List Nat) × dC)->Bool
 | []=>true
 | x :: r=>(let ops:=T.ops x.1.1 x.1.2;UB ops ops.toList λa=>Region.noSelect ops && x.2.size == ops.size && !x.2.jk && (ops.toList.all λo=>sV ops.size (lK o)) && ll a (2 ^ ops.size-1) x.2) && KI T r
theorem Jf (ops:Array Oper) (n:Nat):∀{l:List Oper},(l.all λo=>sV n (lK o))=true->lL ops n l (l.map (UC ops))=true
 | [],_=>rfl
 | o :: r,h=>by
  simp only [List.all_cons,Bool.and_eq_true] at h
  have hd:sW o.dst o.dst=true:=by cases o.dst <;> simp [sW]
  simp [lL,UC,h.1,hd,Jf ops n h.2]
def UD (T:bf) (l:List ((FuncId × List Nat) × dC)):List (List OI):=l.map λx=>(T.ops x.1.1 x.1.2).toList.map (UC (T.ops x.1.1 x.1.2))
theorem Jg {T:bf}:∀{l:List ((FuncId × List Nat) × dC)},KI T l=true->jX T l (UD T l)=true
 | [],_=>rfl
 | x :: r,h=>by
  simp only [KI,Bool.and_eq_true,Si] at h
  obtain ⟨⟨⟨⟨⟨d,b⟩,f⟩,c⟩,e⟩,a⟩:=h
  simp only [UD,List.map_cons,jX,Bool.and_eq_true]
  exact ⟨⟨⟨⟨⟨d,b⟩,f⟩,Jf _ _ c⟩,e⟩,Jg a⟩
def cS:List Nat->dC->dC
 | [],k=>k
 | i :: r,k=>.solo i (cS r k)
def cT:List Nat->dC->dC
 | [],k=>k
 | i :: r,k=>.take i 0 (cT r k)
def tF (l:List Nat):List (Nat × TI):=l.map λn=>(n,{d:=.fn,size:=1,bytes:=8,zero:=[.mI]})
def tC (l:List Nat):List (Nat × TI):=l.map λn=>(n,{d:=.Iu,size:=1,bytes:=16,zero:=[.dW]})
def tX (l:List Nat):List (Nat × TI):=l.map λn=>(n,{d:=.str,size:=1,bytes:=16,zero:=[.str []]})
def tP (l:List (Nat × Nat)):List (Nat × TI):=l.map λx=>(x.1,{d:=.ptr x.2,size:=1,bytes:=8,zero:=[.dB]})
def tL (l:List (Nat × Nat)):List (Nat × TI):=l.map λx=>(x.1,{d:=.sl x.2,size:=1,bytes:=24,zero:=[.dA]})
def zr:List Nat->List SC
 | []=>[]
 | [a]=>List.replicate a (.int .i64 (.lit 0))
 | a :: b :: r=>List.replicate a (.int .i64 (.lit 0)) ++ (List.replicate b (.bool (.lit false)) ++ zr r)
def tS (n:Nat) (d:TD) (b:Nat) (z:List SC) (e:Bool):Nat × TI:=(n,{d:=d,size:=z.length,bytes:=b,zero:=z,eqs:=e})
end Go.Rex
