/- part 8 of the proof -/
import Derived.ProofKit
import Derived.Deep.Slices
import Derived.OpenShut
import Derived.Test.YthomdlajobnmnaaGreatDoorX7
set_option linter.unusedSimpArgs false
set_option linter.unusedVariables false
namespace Go.Rex
open Go.WideShapes Go.ChangeShapes Go.RowKit
inductive FK where
 | int (k:IntKind) | bool | sl (e:TypeId) (ks:List Kd)
 deriving Inhabited
def uY:List FK→Option (List Kd)
 | []=>some []
 | .int k :: r=>(uY r).map (.int k :: ·)
 | .bool :: r=>(uY r).map (.bool :: ·)
 | .sl _ _ :: _=>none
mutual
def flat (P:Program):Nat→TypeId→Option (List FK)
 | 0,_=>none
 | n+1,t =>
  match P.underlying t with
  | some (.int k)=>some [.int k]
  | some .bool=>some [.bool]
  | some (.slice e) =>
   match flat P n e with
   | some l=>match uY l with
    | some ks=>if P.cellsOf e == l.length then some [.sl e ks] else none
    | none=>none
   | none=>none
  | some (.struct fs)=>match xh P n fs.toList 0 with | some l=>if P.cellsOf t == l.length then some l else none | none=>none
  | some (.array m e)=>match flat P n e with | some l=>if P.cellsOf e == l.length && P.cellsOf t == m * l.length then some ((List.replicate m l).flatten) else none | none=>none
  | _=>none
def xh (P:Program):Nat→List Field→Nat→Option (List FK)
 | 0,_,_=>none
 | _,[],_=>some []
 | n+1,f :: r,off =>
  match flat P n f.type with
  | some l=>if f.offset == off && P.cellsOf f.type == l.length then (xh P n r (off+l.length)).map (l ++ ·) else none
  | none=>none
end
def RJ (v:Value):Kd→Prop
 | .int k=>∃n,v=.int k n∧k.min≤n∧n≤k.max
 | .bool=>∃b,v=.bool b
 | .val=>False
def ahJ (w:World) (v:Value):FK→Prop
 | .int k=>∃n,v=.int k n∧k.min≤n∧n≤k.max
 | .bool=>∃b,v=.bool b
 | .sl _ ks=>v=.slice none 0 0∨∃(a:Addr) (len cap:Nat),v=.slice (some a) len cap∧len≤cap∧cap≤maxLen∧∀i j k,i<len→ks[j]?=some k→∃u,w.cell? (a.add (i * ks.length+j))=some u∧RJ u k
def jC (w:World):List Value→List FK→Prop
 | [],[]=>True
 | c :: r,k :: s=>ahJ w c k∧jC w r s
 | _,_=>False
theorem jC.append {w:World}:∀{a b:List Value} {l m:List FK},jC w a l→jC w b m→jC w (a ++ b) (l ++ m)
 | [],_,[],_,_,h=>h
 | _ :: _,_,_ :: _,_,h,h'=>⟨h.1,jC.append h.2 h'⟩
 | [],_,_ :: _,_,h,_=>h.elim
 | _ :: _,_,[],_,h,_=>h.elim
theorem jC.length {w:World}:∀{a:List Value} {l:List FK},jC w a l→a.length=l.length
 | [],[],_=>rfl
 | _ :: _,_ :: _,h=>by simp [jC.length h.2]
 | [],_ :: _,h=>h.elim
 | _ :: _,[],h=>h.elim
theorem Ev {w:World}:∀{cs:List Value} {l:List FK} {ks:List Kd},uY l=some ks→jC w cs l→ks.length=l.length∧∀(j:Nat) (k:Kd),ks[j]?=some k→∃u,cs[j]?=some u∧RJ u k
 | [],[],ks,h,_=>by simp [uY] at h;subst h;exact ⟨rfl,fun j k h=>by simp at h⟩
 | [],_ :: _,_,_,h=>h.elim
 | _ :: _,[],_,_,h=>h.elim
 | c :: r,.int k0 :: s,ks,h,hf=>by
  simp only [uY,Option.map_eq_some_iff] at h
  obtain ⟨q,hq,rfl⟩:=h
  obtain ⟨h1,h2⟩:=Ev hq hf.2
  refine ⟨by simp [h1],fun j k hj=>?_⟩
  cases j with
  | zero=>simp at hj;subst hj;exact ⟨c,rfl,hf.1⟩
  | succ j=>simpa using h2 j k (by simpa using hj)
 | c :: r,.bool :: s,ks,h,hf=>by
  simp only [uY,Option.map_eq_some_iff] at h
  obtain ⟨q,hq,rfl⟩:=h
  obtain ⟨h1,h2⟩:=Ev hq hf.2
  refine ⟨by simp [h1],fun j k hj=>?_⟩
  cases j with
  | zero=>simp at hj;subst hj;exact ⟨c,rfl,hf.1⟩
  | succ j=>simpa using h2 j k (by simpa using hj)
 | c :: r,.sl _ _ :: s,ks,h,hf=>by simp [uY] at h
section
variable {H:Type} {enc:TypeId × Value→H} {P:Program} {w:World} {base:Nat} {spare:Nat→Bool} {held:Bool}
theorem abw:∀(n:Nat),(∀(t:TypeId) (l:List FK) (fuel:Nat) (cs:List Value) (x:DataW H × List MemPlace),flat P n t=some l→DataW.trod enc P w base spare held fuel t cs=some x→jC w cs l) ∧
  (∀(fs:List Field) (off:Nat) (l:List FK) (cs:List Value),xh P n fs off=some l→cs.length=off+l.length →
    (∀f∈fs,∃(fuel:Nat) (x:DataW H × List MemPlace),DataW.trod enc P w base spare held fuel f.type ((cs.drop f.offset).take (P.cellsOf f.type))=some x)→jC w (cs.drop off) l):=by
 intro n
 induction n with
 | zero=>exact ⟨fun t l fuel cs x h=>by simp [flat] at h,fun fs off l cs h=>by simp [xh] at h⟩
 | succ n ih =>
  refine ⟨fun t l fuel cs x h ht=>?_,fun fs off l cs h hl hfs=>?_⟩
  ·unfold flat at h
   split at h
   ·rename_i k hu
    simp at h
    subst h
    cases fuel with
    | zero=>simp [DataW.trod] at ht
    | succ fuel =>
     unfold DataW.trod at ht
     rw [hu] at ht
     split at ht <;> try cases ht
     all_goals rename_i he
     all_goals try (simp at he;done)
     split at ht
     ·rename_i hc
      simp at he
      subst he
      obtain ⟨rfl,hwf⟩:=hc
      simp only [Lit.wf,Bool.and_eq_true,decide_eq_true_eq] at hwf
      exact ⟨⟨_,rfl,hwf.1,hwf.2⟩,trivial⟩
     ·cases ht
   ·rename_i hu
    simp at h
    subst h
    cases fuel with
    | zero=>simp [DataW.trod] at ht
    | succ fuel =>
     unfold DataW.trod at ht
     rw [hu] at ht
     split at ht <;> try cases ht
     all_goals rename_i he
     all_goals try (simp at he;done)
     exact ⟨⟨_,rfl⟩,trivial⟩
   ·rename_i e hu
    split at h
    case h_2=>cases h
    rename_i le hle
    split at h
    case h_2=>cases h
    rename_i ks hks
    split at h
    case isFalse=>cases h
    rename_i hc
    simp only [beq_iff_eq] at hc
    simp at h
    subst h
    rcases Go.Deep.open_slice hu ht with ⟨rfl,-⟩ | ⟨a,len,cap,m,fl,D,Pl,rfl,hb,hlc,hcm,hm,-,hi⟩
    ·exact ⟨.inl rfl,trivial⟩
    ·refine ⟨.inr ⟨a,len,cap,rfl,hlc,hcm,fun i j k hil hj=>?_⟩,trivial⟩
     have him:i<m:=by
      rw [hm]
      split
      ·omega
      ·exact hil
     obtain ⟨cs',hcs,htr⟩:=hi i him
     obtain ⟨_,hcl,hat⟩:=World.cells?_some hcs
     have hfit:=ih.1 e le fl cs' _ hle htr
     obtain ⟨h1,h2⟩:=Ev hks hfit
     obtain ⟨u,hu1,hu2⟩:=h2 j k hj
     have hjl:j<P.cellsOf e:=by
      have:=(List.getElem?_eq_some_iff.1 hj).1
      omega
     refine ⟨u,?_,hu2⟩
     have:=hat j hjl
     rw [hu1,hc,←h1,Addr.add_add] at this
     exact this
   ·rename_i fs hu
    split at h
    case h_2=>cases h
    rename_i l' hl'
    split at h
    case isFalse=>cases h
    rename_i hc
    simp only [beq_iff_eq] at hc
    simp at h
    subst h
    obtain ⟨xs,m,-,-,hlen,hxl,hf⟩:=DataW.trod_struct hu ht
    have:=ih.2 fs.toList 0 l' cs hl' (by omega) (fun f hm=>by
      obtain ⟨i,hi,he⟩:=List.getElem_of_mem hm
      have hfi:fs[i]?=some f:=by
        rw [←Array.getElem?_toList,List.getElem?_eq_getElem hi,he]
      have hil:i<xs.length:=by rw [hxl];simpa using hi
      exact ⟨m,xs[i],by rw [hf i f hfi,List.getElem?_eq_getElem hil]⟩)
    simpa using this
   ·rename_i m e hu
    split at h
    case h_2=>cases h
    rename_i le hle
    split at h
    case isFalse=>cases h
    rename_i hc
    simp only [Bool.and_eq_true,beq_iff_eq] at hc
    simp at h
    subst h
    obtain ⟨xs,fl,-,-,hlen,hxl,hf⟩:=DataW.trod_array hu ht
    have key:∀q,q≤m→jC w (cs.drop ((m-q) * le.length)) ((List.replicate q le).flatten):=by
     intro q
     induction q with
     | zero =>
      intro _
      have:cs.drop ((m-0) * le.length)=[]:=by
       apply List.drop_eq_nil_of_le
       rw [Nat.sub_zero]
       omega
      rw [this]
      trivial
     | succ q ihq =>
      intro hq
      have h1:=ihq (by omega)
      have hi:m-(q+1)<m:=by omega
      have h2:=hf (m-(q+1)) hi
      have hil:m-(q+1)<xs.length:=by rw [hxl];exact hi
      rw [List.getElem?_eq_getElem hil,hc.1] at h2
      have h3:=ih.1 e le fl _ _ hle h2
      have e1:cs.drop ((m-(q+1)) * le.length)=(cs.drop ((m-(q+1)) * le.length)).take le.length ++ cs.drop ((m-q) * le.length):=by
       have:(m-q) * le.length=(m-(q+1)) * le.length+le.length:=by rw [show m-q=(m-(q+1))+1 by omega,Nat.add_mul];omega
       rw [this,←List.drop_drop,List.take_append_drop]
      rw [e1,List.replicate_succ,List.flatten_cons]
      exact jC.append h3 h1
    have:=key m (Nat.le_refl m)
    simpa using this
   ·cases h
  ·cases fs with
   | nil =>
    simp [xh] at h
    subst h
    have:cs.drop off=[]:=List.drop_eq_nil_of_le (by simp at hl;omega)
    rw [this]
    trivial
   | cons f r =>
    simp only [xh] at h
    split at h
    case h_2=>cases h
    rename_i l0 hl0
    split at h
    case isFalse=>cases h
    rename_i hc
    simp only [Bool.and_eq_true,beq_iff_eq] at hc
    simp only [Option.map_eq_some_iff] at h
    obtain ⟨l1,hl1,rfl⟩:=h
    obtain ⟨fuel,x,htr⟩:=hfs f (List.mem_cons_self ..)
    have h1:=ih.1 f.type l0 fuel _ x hl0 htr
    have h2:=ih.2 r (off+l0.length) l1 cs hl1 (by simp at hl;omega) (fun g hg=>hfs g (List.mem_cons_of_mem _ hg))
    rw [hc.1,hc.2] at h1
    have e1:cs.drop off=(cs.drop off).take l0.length ++ cs.drop (off+l0.length):=by
     rw [←List.drop_drop,List.take_append_drop]
    rw [e1]
    exact jC.append h1 h2
end
end Go.Rex
namespace Go.Rex
open Go.WideShapes Go.ChangeShapes Go.RowKit
def rT:List FK→Nat→Nat→List SC × List SB × Nat
 | [],nv,_=>([],[],nv)
 | .int k :: r,nv,nb=>let x:=rT r (nv+1) nb;(.int k (.var nv) :: x.1,x.2.1,x.2.2)
 | .bool :: r,nv,nb=>let x:=rT r (nv+1) nb;(.bool (.var nv) :: x.1,x.2.1,x.2.2)
 | .sl e ks :: r,nv,nb =>
  let x:=rT r (nv+4) (nb+1)
  (.fw (.var nv) {aC:=nb,i1:=.lit 0,s1:=ks.length} (.var (nv+1)) (.var (nv+2)) :: x.1,
   {t:=e,aX:=[{r:=nv+3,n1:=.var (nv+1),s1:=ks.length,ks:=ks}],ro:=true,nl:=.var nv} :: x.2.1,x.2.2)
def abx (ρ:Env) (r:Nat) (n:Int) (ks:List Kd):Prop:=∀(i j:Nat) (k:IntKind),(i:Int)<n→ks[j]?=some (.int k)→k.min≤ρ.ic r i 0 j∧ρ.ic r i 0 j≤k.max
def Ew:List FK→Nat→Env→Prop
 | [],_,_=>True
 | .int k :: r,nv,ρ=>(k.min≤ρ.iv nv∧ρ.iv nv≤k.max)∧Ew r (nv+1) ρ
 | .bool :: r,nv,ρ=>Ew r (nv+1) ρ
 | .sl _ ks :: r,nv,ρ=>((ρ.bv nv=true→ρ.iv (nv+1)=0∧ρ.iv (nv+2)=0)∧0≤ρ.iv (nv+1)∧ρ.iv (nv+1)≤ρ.iv (nv+2)∧ρ.iv (nv+2)≤9223372036854775807∧abx ρ (nv+3) (ρ.iv (nv+1)) ks)∧Ew r (nv+4) ρ
theorem yP:∀{l:List FK} {nv:Nat} {ρ:Env},Ew l nv ρ→Ew l nv ρ.num
 | [],_,_,_=>trivial
 | .int _ :: _,_,_,h=>⟨h.1,yP h.2⟩
 | .bool :: r,_,_,h=>yP (l:=r) h
 | .sl _ _ :: _,_,_,h=>⟨h.1,yP h.2⟩
def MQ:Value→Int
 | .int _ n=>n
 | _=>0
def Qa:Value→Bool
 | .bool b=>b
 | _=>false
def RL (ρ:Env) (ν:Nat→Addr) (w:World) (k:Nat) (sb:SB):Prop :=
 (sb.ro=true∧sb.own=false)∧(sb.dead ρ=false→xW sb w (ν k).block∧∃arr:Array Value,sb.has ρ ν arr∧∀p v,arr[p]?=some v→w.cell? ((ν k).add p)=some v)
theorem Gw {w:World}:∀{cs:List Value} {l:List FK},jC w cs l→(∀(a:Addr) (len cap:Nat),Value.slice (some a) len cap∈cs→a.block<w.heap.size)→∀(nv nb:Nat) (ρ:Env) (ν:Nat→Addr),
  ∃ρ' aK,dF nv nb ρ ρ' ν aK∧(rT l nv nb).1.map (·.den ρ' aK)=cs∧(∀(i:Nat) (sb:SB),(rT l nv nb).2.1[i]?=some sb→RL ρ' aK w (nb+i) sb)∧Ew l nv ρ'
 | [],[],_,_,nv,nb,ρ,ν=>⟨ρ,ν,dF.refl _ _ _ _,rfl,fun i sb h=>by simp [rT] at h,trivial⟩
 | [],_ :: _,h,_,_,_,_,_=>h.elim
 | _ :: _,[],h,_,_,_,_,_=>h.elim
 | c :: r,.int k :: s,h,hb,nv,nb,ρ,ν=>by
  obtain ⟨⟨n,rfl,h1,h2⟩,h3⟩:=h
  obtain ⟨ρ',aK,hA,hc,hB,hp⟩:=Gw h3 (fun a len cap hm=>hb a len cap (List.mem_cons_of_mem _ hm)) (nv+1) nb {ρ with iv:=fun i=>if i=nv then n else ρ.iv i} ν
  have e:ρ'.iv nv=n:=by rw [hA.iv nv (by omega)];simp
  refine ⟨ρ',aK,⟨fun i hi=>?_,fun i hi=>hA.bv i (by omega),fun i hi=>hA.vv i (by omega),fun i hi=>hA.ic i (by omega),fun i hi=>hA.bc i (by omega),fun i hi=>hA.vc i (by omega),hA.bl⟩,?_,hB,⟨by rw [e];exact ⟨h1,h2⟩,hp⟩⟩
  ·rw [hA.iv i (by omega)];simp [show i≠nv by omega]
  ·simp only [rT,List.map_cons,SC.den,IE.den,e,hc]
 | c :: r,.bool :: s,h,hb,nv,nb,ρ,ν=>by
  obtain ⟨⟨b,rfl⟩,h3⟩:=h
  obtain ⟨ρ',aK,hA,hc,hB,hp⟩:=Gw h3 (fun a len cap hm=>hb a len cap (List.mem_cons_of_mem _ hm)) (nv+1) nb {ρ with bv:=fun i=>if i=nv then b else ρ.bv i} ν
  have e:ρ'.bv nv=b:=by rw [hA.bv nv (by omega)];simp
  refine ⟨ρ',aK,⟨fun i hi=>hA.iv i (by omega),fun i hi=>?_,fun i hi=>hA.vv i (by omega),fun i hi=>hA.ic i (by omega),fun i hi=>hA.bc i (by omega),fun i hi=>hA.vc i (by omega),hA.bl⟩,?_,hB,hp⟩
  ·rw [hA.bv i (by omega)];simp [show i≠nv by omega]
  ·simp only [rT,List.map_cons,SC.den,BE.den,e,hc]
 | c :: r,.sl el ks :: s,h,hb,nv,nb,ρ,ν=>by
  obtain ⟨hc0,h3⟩:=h
  obtain ⟨bn,len,cap,f,a,hcv,hnil,hlc,hcm,hcell,hblk⟩:∃(bn:Bool) (len cap:Nat) (f:Nat→Nat→Value) (a:Addr),c=(if bn=true then .slice none 0 0 else .slice (some a) len cap)∧(bn=true→len=0∧cap=0)∧len≤cap∧cap≤maxLen ∧
    (bn=false→∀i j k,i<len→ks[j]?=some k→w.cell? (a.add (i * ks.length+j))=some (f i j)∧RJ (f i j) k)∧(bn=false→a.block<w.heap.size):=by
   rcases hc0 with rfl | ⟨a,len,cap,rfl,h1,h2,h4⟩
   ·exact ⟨true,0,0,fun _ _=>undef,⟨0,0,none⟩,by simp,fun _=>⟨rfl,rfl⟩,Nat.le_refl _,Nat.zero_le _,(fun h=>by cases h),(fun h=>by cases h)⟩
   ·refine ⟨false,len,cap,fun i j=>(w.cell? (a.add (i * ks.length+j))).getD undef,a,by simp,(fun h=>by cases h),h1,h2,fun _ i j k hi hj=>?_,fun _=>hb a len cap (List.mem_cons_self ..)⟩
    obtain ⟨u,hu1,hu2⟩:=h4 i j k hi hj
    have e:(w.cell? (a.add (i * ks.length+j))).getD undef=u:=by rw [hu1];rfl
    simp only [e]
    exact ⟨hu1,hu2⟩
  obtain ⟨ρ',aK,hA,hc,hB,hp⟩:=Gw h3 (fun a len cap hm=>hb a len cap (List.mem_cons_of_mem _ hm)) (nv+4) (nb+1)
   {ρ with iv:=fun i=>if i=nv+1 then (len:Int) else if i=nv+2 then (cap:Int) else ρ.iv i,bv:=fun i=>if i=nv then bn else ρ.bv i,
            ic:=fun x=>if x=nv+3 then fun i _ j=>MQ (f i j) else ρ.ic x,bc:=fun x=>if x=nv+3 then fun i _ j=>Qa (f i j) else ρ.bc x}
   (fun k=>if k=nb then a else ν k)
  have e0:ρ'.bv nv=bn:=by rw [hA.bv nv (by omega)];simp
  have e1:ρ'.iv (nv+1)=(len:Int):=by rw [hA.iv (nv+1) (by omega)];simp
  have e2:ρ'.iv (nv+2)=(cap:Int):=by rw [hA.iv (nv+2) (by omega)];simp
  have e3:ρ'.ic (nv+3)=fun i _ j=>MQ (f i j):=by rw [hA.ic (nv+3) (by omega)];simp
  have e4:ρ'.bc (nv+3)=fun i _ j=>Qa (f i j):=by rw [hA.bc (nv+3) (by omega)];simp
  have e5:aK nb=a:=by rw [hA.bl nb (by omega)];simp
  refine ⟨ρ',aK,⟨fun i hi=>?_,fun i hi=>?_,fun i hi=>hA.vv i (by omega),fun i hi=>?_,fun i hi=>?_,fun i hi=>hA.vc i (by omega),fun i hi=>?_⟩,?_,fun i sb hi=>?_,⟨?_,hp⟩⟩
  ·rw [hA.iv i (by omega)];simp [show i≠nv+1 by omega,show i≠nv+2 by omega]
  ·rw [hA.bv i (by omega)];simp [show i≠nv by omega]
  ·rw [hA.ic i (by omega)];simp [show i≠nv+3 by omega]
  ·rw [hA.bc i (by omega)];simp [show i≠nv+3 by omega]
  ·rw [hA.bl i (by omega)];simp [show i≠nb by omega]
  ·simp only [rT,List.map_cons,hc]
   congr 1
   rw [hcv]
   simp only [SC.den,BE.den,IE.den,SA.den,SA.off,e0,e1,e2,e5,Int.toNat_natCast]
   simp [Addr.add_zero]
  ·cases i with
   | succ i =>
    have:=hB i sb (by simpa [rT] using hi)
    rw [show nb+(i+1)=nb+1+i by omega]
    exact this
   | zero =>
    simp [rT] at hi
    subst hi
    refine ⟨⟨rfl,rfl⟩,fun hd=>?_⟩
    have hbn:bn=false:=by simpa [SB.dead,BE.den,e0] using hd
    rw [show nb+0=nb from rfl,e5]
    refine ⟨⟨hblk hbn,fun h=>(by cases h)⟩,((List.range (len * ks.length)).map fun p=>f (p / ks.length) (p % ks.length)).toArray,⟨fun u hu=>(by cases hu),fun h=>(by cases h),fun _ _ h=>(by cases h),fun p c hp=>(by simp at hp),fun gi g hg i1 i2 j h1 h2 h3=>?_⟩,fun p v hp=>?_⟩
    ·cases gi with
     | succ gi=>simp at hg
     | zero =>
      simp at hg
      subst hg
      simp only [IE.den,e1] at h1 h2 h3 ⊢
      have hi2:i2=0:=by omega
      subst hi2
      obtain ⟨k,hk⟩:∃k,ks[j]?=some k:=⟨_,List.getElem?_eq_getElem h3⟩
      have hlt:i1 * ks.length+j<len * ks.length:=by
       have:(i1+1) * ks.length≤len * ks.length:=Nat.mul_le_mul_right _ (by omega)
       rw [Nat.add_mul] at this
       omega
      obtain ⟨-,hfit⟩:=hcell hbn i1 j k (by omega) hk
      have q1:(i1 * ks.length+j) / ks.length=i1:=by rw [Nat.mul_comm,Nat.mul_add_div (by omega),Nat.div_eq_of_lt h3,Nat.add_zero]
      have q2:(i1 * ks.length+j) % ks.length=j:=by rw [Nat.mul_comm,Nat.mul_add_mod,Nat.mod_eq_of_lt h3]
      rw [show i1 * ks.length+0 * 0+0+j=i1 * ks.length+j by omega]
      simp only [cK,List.getElem?_toArray,List.getElem?_map,List.getElem?_range hlt,Option.map_some,q1,q2,Option.some.injEq]
      rw [ae.CJ _ rfl]
      simp only [hk,e3,e4]
      cases k with
      | int kk=>obtain ⟨n,hn,-⟩:=hfit;rw [hn];rfl
      | bool=>obtain ⟨b,hn⟩:=hfit;rw [hn];rfl
      | val=>exact hfit.elim
    ·simp only [List.getElem?_toArray,List.getElem?_map,Option.map_eq_some_iff] at hp
     obtain ⟨q,hq,rfl⟩:=hp
     have Z0:=(List.getElem?_eq_some_iff.1 hq).1
     rw [List.length_range] at Z0
     rw [List.getElem?_range Z0] at hq
     simp at hq
     subst hq
     have hs:0<ks.length:=by
      rcases Nat.eq_zero_or_pos ks.length with h0 | h0
      ·rw [h0] at Z0;omega
      ·exact h0
     have hj:p % ks.length<ks.length:=Nat.mod_lt _ hs
     obtain ⟨k,hk⟩:∃k,ks[p % ks.length]?=some k:=⟨_,List.getElem?_eq_getElem hj⟩
     obtain ⟨q1,-⟩:=hcell hbn (p / ks.length) (p % ks.length) k ((Nat.div_lt_iff_lt_mul hs).2 Z0) hk
     rw [show p / ks.length * ks.length+p % ks.length=p by rw [Nat.mul_comm];exact Nat.div_add_mod p ks.length] at q1
     exact q1
  ·refine ⟨fun h=>?_,by rw [e1];omega,by rw [e1,e2];omega,by rw [e2];simp only [maxLen] at hcm;omega,fun i j k hi hj=>?_⟩
   ·obtain ⟨q1,q2⟩:=hnil (by rw [←e0];exact h)
    rw [e1,e2,q1,q2];exact ⟨rfl,rfl⟩
   ·rw [e1] at hi
    cases hbn:bn with
    | true =>
     obtain ⟨q1,-⟩:=hnil hbn
     omega
    | false =>
     obtain ⟨-,hfit⟩:=hcell hbn i j _ (by omega) hj
     obtain ⟨n,hn,h5,h6⟩:=hfit
     rw [e3]
     simp only [hn,MQ]
     exact ⟨h5,h6⟩
def xk:List (Bool × Nat)→List SC→List SW
 | [],_=>[]
 | (g,n) :: r,cs=>(if g then .agg (cs.take n) else .one (cs.headD .hole)) :: xk r (cs.drop n)
theorem Gx {ρ:Env} {ν:Nat→Addr}:∀{vs:List Value} {sh:List (Bool × Nat)} {cs:List SC},vs.length=sh.length →
  (∀(i:Nat) (v:Value) (g:Bool) (n:Nat),vs[i]?=some v→sh[i]?=some (g,n)→v.cells.size=n∧(if g then v=.agg v.cells else v.cells=#[v])) →
  cs.map (·.den ρ ν)=vs.flatMap (fun v=>v.cells.toList)→(xk sh cs).map (·.den ρ ν)=vs
 | [],[],cs,_,_,_=>by simp [xk]
 | [],_ :: _,_,h,_,_=>by simp at h
 | _ :: _,[],_,h,_,_=>by simp at h
 | v :: r,(g,n) :: s,cs,hl,hv,hc=>by
  obtain ⟨h1,h2⟩:=hv 0 v g n rfl rfl
  have h3:(cs.take n).map (·.den ρ ν)=v.cells.toList:=by
   rw [List.map_take,hc,List.flatMap_cons,←h1,←Array.length_toList,List.take_left]
  have h4:(cs.drop n).map (·.den ρ ν)=r.flatMap (fun v=>v.cells.toList):=by
   rw [List.map_drop,hc,List.flatMap_cons,←h1,←Array.length_toList,List.drop_left]
  have ih:=Gx (vs:=r) (sh:=s) (cs:=cs.drop n) (by simpa using hl) (fun i v' g' n' hi hs=>hv (i+1) v' g' n' (by simpa using hi) (by simpa using hs)) h4
  simp only [xk,List.map_cons,ih]
  congr 1
  cases g with
  | true =>
   simp only [if_true] at h2 ⊢
   simp only [SW.den,h3]
   exact h2.symm
  | false =>
   simp only [Bool.false_eq_true,if_false] at h2 ⊢
   rw [h2] at h3 h1
   have hn:n=1:=by simpa using h1.symm
   subst hn
   cases cs with
   | nil=>simp at h3
   | cons c q =>
    simp at h3
    simp only [SW.den,List.headD_cons,h3]
theorem RN {H:Type} {enc:TypeId × Value→H} {P:Program} {f:Func} {s:ChangeSpec} {apart fresh handsOn again:Bool} {W W':World} {args:Array Value} {v:Value} {ds gs:List (DataW H)} {before pa pv:List MemPlace}
  (hW:DataW.Whole enc P f.params.toList s.vars apart W args.toList ds gs before)
  (hres:∀(b:Nat) (sp:Nat→Bool) (hd:Bool),DataW.TrodAll enc P W' b sp hd f.resultTypes.toList (v.resultList f.resultTypes.size) (s.fn H (ds ++ gs)).results [])
  (hargs:∀sp:Nat→Bool,(∀p∈before,sp p.block=true)→DataW.TrodAll enc P W' 0 sp true f.params.toList args.toList (s.fn H (ds ++ gs)).args pa)
  (hvars:∀sp:Nat→Bool,(∀p∈before,sp p.block=true)→DataW.TrodVars enc P W' sp s.vars (s.fn H (ds ++ gs)).vars pv)
  (hps:before=pa ++ pv) (hb:Below W.heap.size W W')
  (hok:∀(j:Nat) (t:TypeId) (r:Value),f.resultTypes[j]?=some t→(v.resultList f.resultTypes.size)[j]?=some r→Value.okWide P W' .any 0 t r) :
  s.post enc P f apart fresh handsOn again W args v W':=by
 have hlt:∀p∈before,p.block<W.heap.size:=fun p hp=>hW.lt p hp
 have hold:∀p∈before,(fun b=>decide (b<W.heap.size)) p.block=true:=fun p hp=>by simpa using hlt p hp
 refine ⟨ds,gs,before,[],pa,pv,hW,hres _ _ _,hargs _ hold,hvars _ hold,World.keptBut_mono (fun p hp=>⟨hp,?_⟩) (hb.frame (·∈before)),fun _=>?_⟩
 ·rw [hps,List.mem_append] at hp
  exact Or.inr hp
 ·obtain ⟨_,_,_,_,_,hz,hn⟩:=hW
  refine ⟨hok,_,_,([] ++ pa) ++ pv,⟨[] ++ pa,pv,trodAll_append (hargs _ (fun _ _=>rfl)) (hres _ _ _),hvars _ (fun _ _=>rfl),rfl,?_,?_⟩,?_⟩
  ·intro b off hp
   have hin:MemPlace.cell b off∈before:=by rw [hps];simpa using hp
   rw [hb.frozen (hlt _ hin)]
   exact hz b off hin
  ·intro ha
   have:=hn ha
   rw [hps] at this
   simpa using this
  ·intro p hp _
   rw [hps]
   simpa using hp
def shapeOf (P:Program) (t:TypeId):Option (Bool × List FK) :=
 match P.underlying t with
 | some d=>(flat P 20 t).map fun l=>(Ui d,l)
 | none=>none
def yQ (P:Program):List TypeId→Option (List (Bool × List FK))
 | []=>some []
 | t :: r=>ig List.cons (shapeOf P t) (yQ P r)
def CY (P:Program):List TypeId→Bool
 | []=>true
 | t :: r=>P.readableRec t && Nat.blt t P.types.size && CY P r
section
variable {H:Type} {enc:TypeId × Value→H} {P:Program} {W:World}
theorem pR {r:_root_.Go.Reach} {base:Nat} {u:TypeId} {a:Addr} {len cap:Nat} (h:Cell.okWide P W r base u (.slice (some a) len cap)):a.block<W.heap.size:=by
 unfold Cell.okWide at h
 have h':Cell.ok P W r base u (.slice (some a) len cap):=by
  split at h <;> first | exact h | simp_all
 unfold Cell.ok at h'
 split at h' <;> try (exact h'.elim)
 all_goals rename_i he
 all_goals try (cases he;done)
 cases he
 obtain ⟨_,_,_,_,row,cells,hs,_⟩:=h'
 unfold World.shape? at hs
 split at hs
 ·rename_i c el fz hx
  exact (Array.getElem?_eq_some_iff.1 hx).1
 ·cases hs
theorem XY {base:Nat} {t:TypeId} {v:Value} {g:Bool} {l:List FK} {d:DataW H} {ps:List MemPlace} (hs:shapeOf P t=some (g,l)) (hok:Value.okWide P W .any base t v) (h:DataW.Trod enc P W 0 (fun _=>true) true t v d ps) :
  jC W v.cells.toList l∧v.cells.size=l.length∧(if g then v=.agg v.cells else v.cells=#[v])∧∀(a:Addr) (len cap:Nat),Value.slice (some a) len cap∈v.cells.toList→a.block<W.heap.size:=by
 unfold shapeOf at hs
 split at hs
 case h_2=>cases hs
 rename_i de hu
 simp only [Option.map_eq_some_iff,Prod.mk.injEq] at hs
 obtain ⟨l',hl,hg,rfl⟩:=hs
 obtain ⟨fuel,htr⟩:=h
 have hfit:=(abw (enc:=enc) (P:=P) (w:=W) 20).1 t l' fuel _ _ hl htr
 have hsz:v.cells.size=l'.length:=by rw [←Array.length_toList];exact hfit.length
 refine ⟨hfit,hsz,?_⟩
 unfold flat at hl
 rw [hu] at hl
 have one:∀v:Value,j6 v=false→v.cells=#[v]:=by
  intro v hv
  unfold Value.cells
  split
  ·cases hv
  ·rfl
 cases de <;> simp only at hl <;> try (cases hl;done)
 ·subst hg
  obtain ⟨b,rfl⟩:=okWide_bool hu hok
  exact ⟨rfl,fun a len cap hm=>by simp [Value.cells] at hm⟩
 ·rename_i k
  subst hg
  obtain ⟨n,rfl⟩:=okWide_int hu hok
  exact ⟨rfl,fun a len cap hm=>by simp [Value.cells] at hm⟩
 ·subst hg
  obtain ⟨a0,ajh,cap0,rfl⟩:=okWide_slice hu hok
  refine ⟨rfl,fun a len cap hm=>?_⟩
  simp [Value.cells] at hm
  obtain ⟨rfl,rfl,rfl⟩:=hm
  simp only [Value.okWide,hu] at hok
  exact pR hok
 ·subst hg
  simp only [Value.okWide,hu] at hok
  obtain ⟨cs,rfl,_,ts,_,_,hc⟩:=hok
  refine ⟨rfl,fun a len cap hm=>?_⟩
  obtain ⟨i,hi,he⟩:=List.getElem_of_mem hm
  have:cs[i]?=some (.slice (some a) len cap):=by
   rw [←Array.getElem?_toList]
   exact (List.getElem?_eq_getElem hi).trans (by rw [he])
  obtain ⟨u,_,hu2⟩:=hc i _ this
  exact pR hu2
 ·subst hg
  simp only [Value.okWide,hu] at hok
  obtain ⟨cs,rfl,_,ts,_,_,hc⟩:=hok
  refine ⟨rfl,fun a len cap hm=>?_⟩
  obtain ⟨i,hi,he⟩:=List.getElem_of_mem hm
  have:cs[i]?=some (.slice (some a) len cap):=by
   rw [←Array.getElem?_toList]
   exact (List.getElem?_eq_getElem hi).trans (by rw [he])
  obtain ⟨u,_,hu2⟩:=hc i _ this
  exact pR hu2
theorem JY {base:Nat}:∀{ts:List TypeId} {vs:List Value} {ds:List (DataW H)} {ps:List MemPlace} {sh:List (Bool × List FK)},yQ P ts=some sh→DataW.TrodAll enc P W 0 (fun _=>true) true ts vs ds ps →
  (∀(j:Nat) (t:TypeId) (v:Value),ts[j]?=some t→vs[j]?=some v→Value.okWide P W .any base t v) →
  jC W (vs.flatMap fun v=>v.cells.toList) (sh.flatMap (·.2))∧vs.length=sh.length∧ds.length=ts.length ∧
  (∀(i:Nat) (v:Value) (g:Bool) (n:Nat),vs[i]?=some v→(sh.map fun s=>(s.1,s.2.length))[i]?=some (g,n)→v.cells.size=n∧(if g then v=.agg v.cells else v.cells=#[v])) ∧
  ∀(a:Addr) (len cap:Nat),Value.slice (some a) len cap∈(vs.flatMap fun v=>v.cells.toList)→a.block<W.heap.size
 | [],[],[],ps,sh,hs,h,_=>by
  simp [yQ] at hs
  subst hs
  exact ⟨trivial,rfl,rfl,fun i v g n h=>by simp at h,fun a len cap h=>by simp at h⟩
 | t :: ts,v :: vs,d :: ds,ps,sh,hs,h,hok=>by
  obtain ⟨⟨g,l⟩,sh',h1,h2,rfl⟩:=fT hs
  obtain ⟨p,q,h3,h4,rfl⟩:=h
  obtain ⟨q1,q2,q3,q4⟩:=XY h1 (hok 0 t v rfl rfl) h3
  obtain ⟨r1,r2,r3,r4,r5⟩:=JY h2 h4 (fun j t' v' hj hv=>hok (j+1) t' v' (by simpa using hj) (by simpa using hv))
  refine ⟨by simp only [List.flatMap_cons];exact jC.append q1 r1,by simp [r2],by simp [r3],fun i v' g' n' hv hs'=>?_,fun a len cap hm=>?_⟩
  ·cases i with
   | zero =>
    simp at hv hs'
    obtain ⟨rfl,rfl⟩:=hs'
    subst hv
    exact ⟨q2,q3⟩
   | succ i=>exact r4 i v' g' n' (by simpa using hv) (by simpa using hs')
  ·rw [List.flatMap_cons,List.mem_append] at hm
   rcases hm with hm | hm
   ·exact q4 a len cap hm
   ·exact r5 a len cap hm
 | [],_ :: _,_,_,_,_,h,_=>by cases ‹List (DataW H)› <;> exact h.elim
 | [],[],_ :: _,_,_,_,h,_=>h.elim
 | _ :: _,[],_,_,_,_,h,_=>by cases ‹List (DataW H)› <;> exact h.elim
 | _ :: _,_ :: _,[],_,_,_,h,_=>h.elim
theorem zU {base:Nat} (laid:laidOutB P=true) {W':World} {sp:Nat→Bool}:∀{ts:List TypeId} {vs:List Value} {ds:List (DataW H)} {ps:List MemPlace},CY P ts=true→DataW.TrodAll enc P W base (fun _=>true) true ts vs ds ps →
  (∀p∈ps,W.sameAt W' p)→(∀p∈ps,sp p.block=true)→DataW.TrodAll enc P W' base sp true ts vs ds ps
 | [],[],[],_,_,h,_,_=>h
 | t :: ts,v :: vs,d :: ds,ps,hr,h,hs,hp=>by
  simp only [CY,Bool.and_eq_true,Nat.blt_eq] at hr
  obtain ⟨p,q,h3,h4,rfl⟩:=h
  exact ⟨p,q,WideElems.Trod_stays laid hr.1.1 hr.1.2 h3 (fun x hx=>hs x (List.mem_append_left _ hx)) (fun x hx=>hp x (List.mem_append_left _ hx)),
    zU laid hr.2 h4 (fun x hx=>hs x (List.mem_append_right _ hx)) (fun x hx=>hp x (List.mem_append_right _ hx)),rfl⟩
 | [],_ :: _,ds,_,_,h,_,_=>by cases ds <;> exact h.elim
 | [],[],_ :: _,_,_,h,_,_=>h.elim
 | _ :: _,[],ds,_,_,h,_,_=>by cases ds <;> exact h.elim
 | _ :: _,_ :: _,[],_,_,h,_,_=>h.elim
def Bz (sh:List (Bool × List FK)) (ρ:Env):Prop:=Ew (sh.flatMap (·.2)) 0 ρ
end
end Go.Rex
namespace Go.Rex.D
section
variable {ρ:Env} {a b:IE} {c d:BE} {k:IntKind}
theorem le:((BE.ai a b).den ρ=true)=(a.den ρ≤b.den ρ):=propext ⟨of_decide_eq_true,decide_eq_true⟩
theorem gQ:((BE.ai a b).den ρ=false)=(b.den ρ<a.den ρ):=propext ⟨fun h=>Int.not_le.1 (of_decide_eq_false h),fun h=>decide_eq_false (Int.not_le.2 h)⟩
theorem lt:((BE.bO a b).den ρ=true)=(a.den ρ<b.den ρ):=propext ⟨of_decide_eq_true,decide_eq_true⟩
theorem gU:((BE.bO a b).den ρ=false)=(b.den ρ≤a.den ρ):=propext ⟨fun h=>Int.not_lt.1 (of_decide_eq_false h),fun h=>decide_eq_false (Int.not_lt.2 h)⟩
theorem eq:((BE.aA a b).den ρ=true)=(a.den ρ=b.den ρ):=propext (by simp [BE.den])
theorem gV:((BE.aA a b).den ρ=false)=(¬a.den ρ=b.den ρ):=propext (by simp [BE.den])
theorem not:((BE.not c).den ρ=true)=(c.den ρ=false):=propext (by simp [BE.den])
theorem dU:((BE.not c).den ρ=false)=(c.den ρ=true):=propext (by simp [BE.den])
theorem and:((BE.and c d).den ρ=true)=(c.den ρ=true∧d.den ρ=true):=propext (by simp [BE.den])
theorem dV:((BE.and c d).den ρ=false)=(c.den ρ=false∨d.den ρ=false):=propext (by simp only [BE.den];cases c.den ρ <;> cases d.den ρ <;> simp)
theorem or:((BE.or c d).den ρ=true)=(c.den ρ=true∨d.den ρ=true):=propext (by simp [BE.den])
theorem gW:((BE.or c d).den ρ=false)=(c.den ρ=false∧d.den ρ=false):=propext (by simp [BE.den])
theorem inr:((BE.inr k a).den ρ=true)=(k.min≤a.den ρ∧a.den ρ≤k.max):=propext (by simp only [BE.den,Bool.and_eq_true];exact ⟨fun h=>⟨of_decide_eq_true h.1,of_decide_eq_true h.2⟩,fun h=>⟨decide_eq_true h.1,decide_eq_true h.2⟩⟩)
theorem var {i:Nat}:(BE.var i).den ρ=ρ.bv i:=rfl
theorem lit {x:Bool}:(BE.lit x).den ρ=x:=rfl
theorem dh {r j:Nat}:(BE.cell r a b j).den ρ=ρ.bc r (a.den ρ).toNat (b.den ρ).toNat j:=rfl
theorem beq:((BE.beq c d).den ρ=true)=(c.den ρ=d.den ρ):=propext (by simp [BE.den])
theorem dW:((BE.beq c d).den ρ=false)=(¬c.den ρ=d.den ρ):=propext (by simp [BE.den])
theorem dX {x:Int}:(IE.lit x).den ρ=x:=rfl
theorem dY {i:Nat}:(IE.var i).den ρ=ρ.iv i:=rfl
theorem add:(IE.add a b).den ρ=a.den ρ+b.den ρ:=rfl
theorem sub:(IE.sub a b).den ρ=a.den ρ-b.den ρ:=rfl
theorem mul:(IE.mul a b).den ρ=a.den ρ * b.den ρ:=rfl
theorem wrap:(IE.wrap k a).den ρ=k.wrap (a.den ρ):=rfl
theorem min:(IE.qg a b).den ρ=Min.min (a.den ρ) (b.den ρ):=rfl
theorem max:(IE.imax a b).den ρ=Max.max (a.den ρ) (b.den ρ):=rfl
theorem di {r j:Nat}:(IE.cell r a b j).den ρ=ρ.ic r (a.den ρ).toNat (b.den ρ).toNat j:=rfl
theorem bP:IntKind.i64.min=-9223372036854775808:=by decide
theorem bQ:IntKind.i64.max=9223372036854775807:=by decide
theorem be {x:BE}:(QF.be x).den ρ=(x.den ρ=true):=rfl
end
end Go.Rex.D
namespace Go.Proofs.YthomdlajobnmnaaGreatDoor
open Go.Rex
def yW:List Kd:=[.int .i64,.int .i64,.int .i64,.int .i64,.bool]
def yN:List Kd:=[.int .i64,.int .i64,.int .i64,.int .i64,.bool,.int .i64,.int .i64]
def yI:List Kd:=[.int .i64]
def yB:List Kd:=[.int .i64,.bool]
abbrev y0:IE:=.lit 0
abbrev y1:IE:=.lit 1
abbrev yz (n:Nat):Nat × IE:=(n,.lit 0)
abbrev yY:IE:=.sub (.var 17) (.lit 1)
abbrev yX:IE:=.sub (.cell 25 yY y0 0) y1
abbrev yv (n:Nat):IE:=.var n
abbrev yw (n:Nat):BE:=.var n
def yo (l r:List (Nat × IE)):List (Nat × IE):=l ++ r
def yr (a b:Nat):Nat→List (Nat × IE)→List (Nat × IE)
  | 0,r=>r
  | n+1,r=>(a,.var b) :: yr (a-1) (b-1) n r
abbrev yb (n:Nat):SA:={aC:=n}
abbrev yc (n s:Nat):SA:={aC:=n,i1:=.lit 0,s1:=s}
abbrev yu (r n s:Nat) (k:List Kd) (g:Nat):CV:=.up {r:=r,n1:=.var n,s1:=s,ks:=k} g [] (.lit 0)
abbrev yl (r:Nat) (n:Int) (s l:Nat) (k:List Kd) (g:Nat):CV:=.up {r:=r,n1:=.lit n,s1:=s,lo:=l,ks:=k} g [] (.lit 0)
theorem Da:type_of% (And.intro @D.le (And.intro @D.gQ (And.intro @D.lt (And.intro @D.gU (And.intro @D.eq (And.intro @D.gV (And.intro @D.not (And.intro @D.dU (And.intro @D.and (And.intro @D.dV (And.intro @D.or (And.intro @D.gW (And.intro @D.inr (And.intro @D.var (And.intro @D.lit (And.intro @D.dh (And.intro @D.beq (And.intro @D.dW (And.intro @D.dX (And.intro @D.dY (And.intro @D.add (And.intro @D.sub (And.intro @D.mul (And.intro @D.min (And.intro @D.max (And.intro @D.di (And.intro @D.bP (And.intro @D.bQ (@Int.toNat_zero))))))))))))))))))))))))))))):=And.intro @D.le (And.intro @D.gQ (And.intro @D.lt (And.intro @D.gU (And.intro @D.eq (And.intro @D.gV (And.intro @D.not (And.intro @D.dU (And.intro @D.and (And.intro @D.dV (And.intro @D.or (And.intro @D.gW (And.intro @D.inr (And.intro @D.var (And.intro @D.lit (And.intro @D.dh (And.intro @D.beq (And.intro @D.dW (And.intro @D.dX (And.intro @D.dY (And.intro @D.add (And.intro @D.sub (And.intro @D.mul (And.intro @D.min (And.intro @D.max (And.intro @D.di (And.intro @D.bP (And.intro @D.bQ (@Int.toNat_zero))))))))))))))))))))))))))))
structure Wd where
 slot:Int
 gen:Int
 tag:Int
 num:Int
 mark:Bool
 deriving DecidableEq
def Wd.zero:Wd:=⟨0,0,0,0,false⟩
structure Ac where
 kind:Int
 slot:Int
 gen:Int
 field:Int
 old:Wd
 new:Wd
structure Rp where
 word:Wd
 ok:Bool
 deriving DecidableEq
structure PS where
 nb:Int
 ns:Int
 nf:Int
 steps:Int
 made:Int
 bT:Bool
 bd:Nat→Wd
 gen:Nat→Int
 used:Nat→Bool
 cell:Nat→Nat→Wd
 fr:Nat→Int
def PS.is (p:PS) (n:Int):Prop:=1≤n∧n≤p.ns
instance (p:PS) (n:Int):Decidable (p.is n):=by unfold PS.is;exact inferInstance
def PS.has (p:PS) (slot gen field:Int):Prop:=if slot=0 then gen=0∧0≤field∧field<p.nb else p.is slot∧0≤field∧field<10
instance (p:PS) (s g f:Int):Decidable (p.has s g f):=by unfold PS.has;exact inferInstance
def PS.valid (p:PS) (a:Ac):Prop :=
 if a.kind=1∨a.kind=2∨a.kind=3 then p.has a.slot a.gen a.field else if a.kind=4 then True else if a.kind=5 then p.is a.old.slot else False
instance (p:PS) (a:Ac):Decidable (p.valid a):=by unfold PS.valid;exact inferInstance
def PS.live (p:PS) (slot gen:Int):Prop:=slot=0∨(p.used (slot-1).toNat=true∧p.gen (slot-1).toNat=gen)
instance (p:PS) (s g:Int):Decidable (p.live s g):=by unfold PS.live;exact inferInstance
def PS.right (p:PS) (a:Ac):Prop:=if a.kind=4 then True else if a.kind=5 then p.live a.old.slot a.old.gen else p.live a.slot a.gen
instance (p:PS) (a:Ac):Decidable (p.right a):=by unfold PS.right;exact inferInstance
def PS.at (p:PS) (slot field:Int):Wd:=if slot=0 then p.bd field.toNat else p.cell (slot-1).toNat field.toNat
def PS.put (p:PS) (slot field:Int) (w:Wd):PS :=
 if slot=0 then {p with bd:=fun i=>if i=field.toNat then w else p.bd i}
 else {p with cell:=fun i k=>if i=(slot-1).toNat∧k=field.toNat then w else p.cell i k}
def gF (a b:Wd):Prop:=a.slot=b.slot∧a.tag=b.tag∧a.num=b.num∧a.mark=b.mark
instance (a b:Wd):Decidable (gF a b):=by unfold gF;exact inferInstance
def Rp.no:Rp:=⟨Wd.zero,false⟩
def iM (kZ:Int) (k:Nat):Wd:=if k=9 then {Wd.zero with num:=kZ} else Wd.zero
def PS.alloc (p:PS) (kZ:Int):PS × Rp :=
 if p.nf=0 then (p,Rp.no) else
  let n:=p.fr (p.nf-1).toNat
  let g:=p.gen (n-1).toNat+1
  ({p with nf:=p.nf-1,made:=p.made+1,gen:=fun i=>if i=(n-1).toNat then g else p.gen i,used:=fun i=>if i=(n-1).toNat then true else p.used i,
            cell:=fun i k=>if i=(n-1).toNat∧k<10 then iM kZ k else p.cell i k},⟨⟨n,g,0,0,false⟩,true⟩)
def PS.free (p:PS) (n:Int):PS:={p with used:=fun i=>if i=(n-1).toNat then false else p.used i,fr:=fun i=>if i=p.nf.toNat then n else p.fr i,nf:=p.nf+1}
def eD (kind:Int):Rp:=if kind=1∨kind=3 then ⟨{Wd.zero with num:=-1},false⟩ else Rp.no
def PS.makes (p:PS) (a:Ac):PS × Rp :=
 if a.kind=4 then p.alloc a.new.num else
 if a.kind=5 then (p.free a.old.slot,⟨Wd.zero,true⟩) else
 if a.kind=1 then (p,⟨p.at a.slot a.field,true⟩) else
 if a.kind=2 then (p.put a.slot a.field a.new,⟨Wd.zero,true⟩) else
 if gF (p.at a.slot a.field) a.old then (p.put a.slot a.field a.new,⟨p.at a.slot a.field,true⟩) else (p,⟨p.at a.slot a.field,false⟩)
def PS.act (p:PS) (a:Ac):PS × Option Rp :=
 if p.valid a then
  if p.right a then
   let r:=PS.makes {p with steps:=p.steps+1} a
   (r.1,some r.2)
  else ({p with steps:=p.steps+1,bT:=false},some (eD a.kind))
 else (p,none)
def kv (u:Nat→Bool):Nat→Nat
 | 0=>0
 | n+1=>kv u n+if u n then 1 else 0
theorem r9 {u v:Nat→Bool}:∀{n:Nat},(∀i,i<n→u i=v i)→kv u n=kv v n
 | 0,_=>rfl
 | n+1,h=>by simp only [kv,r9 fun i hi=>h i (Nat.lt_succ_of_lt hi),h n (Nat.lt_succ_self n)]
theorem MR {u:Nat→Bool} {k:Nat}:∀{n:Nat},k<n→u k=false→kv (fun i=>if i=k then true else u i) n=kv u n+1
 | n+1,h,hu=>by
  simp only [kv]
  by_cases hk:k=n
  ·subst hk
   rw [r9 (v:=u) fun i hi=>(if_neg (by omega))]
   simp [hu]
  ·have e:(if n=k then true else u n)=u n:=if_neg fun e=>hk e.symm
   simp only [MR (show k<n by omega) hu,e]
   omega
theorem JZ {u:Nat→Bool} {k:Nat}:∀{n:Nat},k<n→u k=true→kv (fun i=>if i=k then false else u i) n+1=kv u n
 | n+1,h,hu=>by
  simp only [kv]
  by_cases hk:k=n
  ·subst hk
   rw [r9 (v:=u) fun i hi=>(if_neg (by omega))]
   simp [hu]
  ·have:=JZ (n:=n) (by omega) hu
   have e:(if n=k then false else u n)=u n:=if_neg fun e=>hk e.symm
   simp only [e]
   omega
theorem Gy:∀n,kv (fun _=>false) n=0
 | 0=>rfl
 | n+1=>by simp [kv,Gy n]
structure PS.OK (p:PS):Prop where
 nb:0≤p.nb∧p.nb≤200
 ns:0≤p.ns∧p.ns≤1024
 nf:0≤p.nf
 made:0≤p.made∧p.made≤p.steps
 gen:∀i:Nat,0≤p.gen i∧p.gen i≤p.made
 fr:∀i:Nat,(i:Int)<p.nf→1≤p.fr i∧p.fr i≤p.ns∧p.used (p.fr i-1).toNat=false
 one:∀i j:Nat,i<j→(j:Int)<p.nf→p.fr i≠p.fr j
 DJ:(kv p.used p.ns.toNat:Int)+p.nf=p.ns
theorem PS.OK.IA {p:PS} (h:p.OK):({p with steps:=p.steps+1}:PS).OK:=⟨h.nb,h.ns,h.nf,⟨h.made.1,by have:=h.made.2;show p.made≤p.steps+1;omega⟩,h.gen,h.fr,h.one,h.DJ⟩
theorem PS.OK.bad {p:PS} (h:p.OK):({p with steps:=p.steps+1,bT:=false}:PS).OK:=⟨h.nb,h.ns,h.nf,⟨h.made.1,by have:=h.made.2;show p.made≤p.steps+1;omega⟩,h.gen,h.fr,h.one,h.DJ⟩
theorem PS.OK.put {p:PS} (h:p.OK) (s f:Int) (w:Wd):(p.put s f w).OK:=by
 unfold PS.put
 split <;> exact ⟨h.nb,h.ns,h.nf,h.made,h.gen,h.fr,h.one,h.DJ⟩
theorem PS.OK.alloc {p:PS} (h:p.OK) (hm:p.made<p.steps) (b:Int):(p.alloc b).1.OK:=by
 unfold PS.alloc
 split
 ·exact h
 ·rename_i h0
  have h1:=h.nf
  obtain ⟨f1,f2,f3⟩:=h.fr (p.nf-1).toNat (by omega)
  have h2:=h.made
  refine ⟨h.nb,h.ns,by show 0≤p.nf-1;omega,⟨by show 0≤p.made+1;omega,by show p.made+1≤p.steps;omega⟩,fun i=>?_,fun i hi=>?_,fun i j hi hj=>?_,?_⟩
  ·show 0≤(if i=_ then _ else _)∧(if i=_ then _ else _)≤p.made+1
   have g:=h.gen i
   have g2:=h.gen (p.fr (p.nf-1).toNat-1).toNat
   split <;> omega
  ·replace hi:(i:Int)<p.nf-1:=hi
   obtain ⟨e1,e2,e3⟩:=h.fr i (by omega)
   refine ⟨e1,e2,?_⟩
   show (if (p.fr i-1).toNat=_ then true else _)=false
   have:=h.one i (p.nf-1).toNat (by omega) (by omega)
   rw [if_neg (by omega)]
   exact e3
  ·exact h.one i j hi (by have:(j:Int)<p.nf-1:=hj;omega)
  ·have:=MR (u:=p.used) (n:=p.ns.toNat) (k:=(p.fr (p.nf-1).toNat-1).toNat) (by omega) f3
   have h3:=h.DJ
   show ((kv (fun i=>if i=_ then true else p.used i) p.ns.toNat:Nat):Int)+(p.nf-1)=p.ns
   omega
theorem PS.OK.free {p:PS} (h:p.OK) {n:Int} (hn:p.is n) (hu:p.used (n-1).toNat=true):(p.free n).OK:=by
 obtain ⟨n1,n2⟩:=hn
 have h1:=h.nf
 refine ⟨h.nb,h.ns,by show 0≤p.nf+1;omega,h.made,h.gen,fun i hi=>?_,fun i j hi hj=>?_,?_⟩
 ·replace hi:(i:Int)<p.nf+1:=hi
  show 1≤(if i=p.nf.toNat then n else p.fr i)∧(if i=p.nf.toNat then n else p.fr i)≤p.ns∧(if ((if i=p.nf.toNat then n else p.fr i)-1).toNat=(n-1).toNat then false else p.used ((if i=p.nf.toNat then n else p.fr i)-1).toNat)=false
  by_cases hx:i=p.nf.toNat
  ·simp only [if_pos hx]
   exact ⟨n1,n2,by simp⟩
  ·simp only [if_neg hx]
   obtain ⟨e1,e2,e3⟩:=h.fr i (by omega)
   refine ⟨e1,e2,?_⟩
   split
   ·rfl
   ·exact e3
 ·replace hj:(j:Int)<p.nf+1:=hj
  show (if i=p.nf.toNat then n else p.fr i)≠(if j=p.nf.toNat then n else p.fr j)
  rw [if_neg (by omega)]
  by_cases hx:j=p.nf.toNat
  ·rw [if_pos hx]
   intro he
   obtain ⟨e1,e2,e3⟩:=h.fr i (by omega)
   rw [he,hu] at e3
   cases e3
  ·rw [if_neg hx]
   exact h.one i j hi (by omega)
 ·have:=JZ (u:=p.used) (n:=p.ns.toNat) (k:=(n-1).toNat) (by omega) hu
  have h3:=h.DJ
  show ((kv (fun i=>if i=_ then false else p.used i) p.ns.toNat:Nat):Int)+(p.nf+1)=p.ns
  omega
theorem PS.OK.act {p:PS} (h:p.OK) (a:Ac):(p.act a).1.OK:=by
 unfold PS.act
 split
 ·rename_i hv
  split
  ·rename_i hr
   have hs:=h.IA
   show (PS.makes {p with steps:=p.steps+1} a).1.OK
   unfold PS.makes
   split
   ·exact hs.alloc (by have:=h.made.2;show p.made<p.steps+1;omega) _
   split
   ·rename_i h4 h5
    have hv':p.is a.old.slot:=by
     unfold PS.valid at hv
     rw [if_neg (by omega),if_neg h4,if_pos h5] at hv
     exact hv
    have hr':p.live a.old.slot a.old.gen:=by
     unfold PS.right at hr
     rw [if_neg h4,if_pos h5] at hr
     exact hr
    have hne:a.old.slot≠0:=by have:=hv'.1;omega
    exact hs.free hv' (by
      rcases hr' with h | h
      · exact absurd h hne
      · exact h.1)
   split
   ·exact hs
   split
   ·exact hs.put _ _ _
   split
   ·exact hs.put _ _ _
   ·exact hs
  ·exact h.bad
 ·exact h
deriving instance DecidableEq for Ac
structure Ca where
 kind:Int
 slot:Int
 gen:Int
 field:Int
 old:Wd
 new:Wd
 i:Int
 j:Int
 code:Int
 val:Int
 deriving DecidableEq
structure Nt where
 ref:Wd
 kZ:Int
 lS:Int
 deriving DecidableEq
structure Sp where
 is:Bool
 low:Int
 high:Int
 deriving DecidableEq
def Ac.zero:Ac:=⟨0,0,0,0,Wd.zero,Wd.zero⟩
def Ca.zero:Ca:=⟨0,0,0,0,Wd.zero,Wd.zero,0,0,0,0⟩
def Sp.zero:Sp:=⟨false,0,0⟩
def Wd.dM (n:Int):Wd:=⟨0,0,0,n,false⟩
def Wd.gI (w:Wd):Wd:=⟨w.slot,w.gen,0,0,false⟩
structure RS where
 call:Ca
 step:Int
 acc:Ac
 word:Wd
 clock:Wd
 index:Int
 seen:List Wd
 bD:List Nt
 af:Int
 me:Int
 threads:Int
 most:Int
 holds:Nat→Wd
 span:Sp
 notes:List Nt
 freed:Int
 bR:Rp
namespace RS
variable (r:RS)
def bL:Prop:=r.af=2∨r.af=3
def bC:Prop:=r.af=3∨r.af=5
def bY:Prop:=r.af=4∨r.af=5
instance:Decidable r.bL:=by unfold bL;exact inferInstance
instance:Decidable r.bC:=by unfold bC;exact inferInstance
instance:Decidable r.bY:=by unfold bY;exact inferInstance
def ask (step:Int) (a:Ac):RS:={r with step:=step,acc:=a}
def load (step slot gen field:Int):RS:=r.ask step ⟨1,slot,gen,field,Wd.zero,Wd.zero⟩
def era (step:Int):RS:=r.load step 0 0 24
def advance (step:Int):RS:=r.ask step ⟨3,0,0,24,r.clock,⟨0,0,r.clock.tag+1,r.clock.num+1,false⟩⟩
def hold (n:Int) (w:Wd):RS:={r with holds:=fun i=>if i=n.toNat then w else r.holds i}
def post (step n:Int) (w:Wd):RS:=(r.hold n w).ask step ⟨2,0,0,25+r.me * 9+n,Wd.zero,w⟩
def yR (s:Sp):Wd:=if s.is=true then ⟨0,0,s.high,s.low,true⟩ else Wd.zero
def eF (step:Int) (s:Sp):RS:={r with span:=s}.ask step ⟨2,0,0,79+r.me,Wd.zero,yR s⟩
def finish (x:Rp):RS:={r with call:=Ca.zero,step:=0,acc:=Ac.zero,word:=Wd.zero,clock:=Wd.zero,index:=0,seen:=[],bD:=[],bR:=x}
def done:RS:=r.finish ⟨Wd.zero,true⟩
def first (h:Nat→Wd) (n:Nat):Nat→Option Nat
 | 0=>none
 | k+1=>if h n≠Wd.zero then some n else first h (n+1) k
def leave (start:Int):RS :=
 if r.bY∧r.span≠Sp.zero then r.eF 2 Sp.zero
 else if r.bL then
  match first r.holds start.toNat (9-start.toNat) with
  | some n=>{r with index:=n}.post 4 n Wd.zero
  | none=>r.done
 else r.done
def look (n:Int):Option RS :=
 if r.bL then
  if n≥r.threads * 9 then none else some ({r with index:=n}.load 13 0 0 (25+n))
 else if n≥r.threads then none else some ({r with index:=n}.load 13 0 0 (79+n))
def scan:RS :=
 if r.af=1 then r.done
 else if r.af=4 then r.era 12
 else (r.look 0).getD r
def note (kZ lS:Int):RS:={r with notes:=r.notes ++ [⟨r.call.old.gI,kZ,lS⟩]}
def bS:RS:=if r.notes.length≥r.most then r.scan else r.done
def eQ:RS :=
 if r.af=2 then (r.note 0 0).bS
 else if r.af=4 then r.era 10
 else if r.af=3∨r.af=5 then r.load 9 r.call.old.slot r.call.old.gen 9
 else r.done
def opened:RS :=
 let c:=r.call
 if c.kind=1 then (if r.bY then r.era 3 else r.done)
 else if c.kind=2 then r.leave 0
 else if c.kind=3 then r.load 1 c.slot c.gen c.field
 else if c.kind=4 then r.ask 1 ⟨2,c.slot,c.gen,c.field,c.old,c.new⟩
 else if c.kind=5 then r.ask 1 ⟨3,c.slot,c.gen,c.field,c.old,c.new⟩
 else if c.kind=6 then r.load 5 c.slot c.gen c.field
 else if c.kind=7 then (if r.bL∧r.holds c.i.toNat≠r.holds c.j.toNat then r.post 2 c.i (r.holds c.j.toNat) else r.done)
 else if c.kind=8 then (if r.bC then r.era 8 else r.ask 1 ⟨4,0,0,0,Wd.zero,Wd.zero⟩)
 else if c.kind=9 then r.ask 2 ⟨5,0,0,0,c.old,Wd.zero⟩
 else if c.kind=10 then r.eQ
 else if c.kind=11 then r.scan
 else r
def begin (c:Ca):RS × Bool :=
 if r.step≠0 then (r,false)
 else if c.kind<1∨c.kind > 11 then (r,false)
 else if (c.kind=6∨c.kind=7)∧(c.i<0∨c.i≥9∨c.j<0∨c.j≥9) then (r,false)
 else ({r with call:=c,step:=0,acc:=Ac.zero,word:=Wd.zero,clock:=Wd.zero,index:=0,seen:=[],bD:=[]}.opened,true)
def dN (i now:Int):Prop :=
 if r.af=3 then r.holds i.toNat≠Wd.zero∧(r.holds i.toNat).num=now
 else r.span.is=true∧r.span.high=now
instance (i now:Int):Decidable (r.dN i now):=by unfold dN;exact inferInstance
def bB (x:Rp):RS :=
 let i:=r.call.i
 if r.step=7 then r.load 5 r.call.slot r.call.gen r.call.field
 else if r.step=5 then
  if r.bC then {r with word:=x.word}.era 6
  else if r.af=2∧x.word.slot≠0∧r.holds i.toNat≠x.word.gI then {r with word:=x.word}.post 7 i x.word.gI
  else {r with word:=x.word}.finish ⟨x.word,true⟩
 else if r.step=6 then
  let now:=x.word.num
  if r.dN i now then r.finish ⟨r.word,true⟩
  else if r.af=3 then r.post 7 i (Wd.dM now)
  else r.eF 7 ⟨true,if r.span.is=true then r.span.low else now,now⟩
 else r
def ek (x:Rp):RS :=
 if r.step=9 then {r with word:=x.word}.era 10
 else if r.step=10 then
  let s:={r with clock:=x.word}.note r.word.num x.word.num
  if r.bC then s.advance 11 else s.bS
 else if r.step=11 then r.bS
 else r
def kR (w:Wd):Sp:=if w.mark=true then ⟨true,w.num,w.tag⟩ else Sp.zero
def may (now:Int) (l:List Sp):Bool:=l.all fun s=>!(s.is && s.low != now)
def dz:RS :=
 match r.bD with
 | []=>r.done
 | d :: _=>r.ask 16 ⟨5,0,0,0,d.ref,Wd.zero⟩
def yS (w:Wd) (n:Nt):Bool:=w.slot == n.ref.slot
def xm (e:Int) (n:Nt):Bool:=decide (0<e∧n.kZ≤e∧e≤n.lS)
def uf (s:Sp) (n:Nt):Bool:=s.is && decide (s.low≤n.lS∧s.high≥n.kZ)
def ry (now:Int) (n:Nt):Bool:=decide (now < -9223372036854775808+2∨n.lS > now-2)
def kept (n:Nt):Bool :=
 if r.af=2 then r.seen.any fun w=>yS w n
 else if r.af=3 then r.seen.any fun w=>xm w.num n
 else if r.af=5 then r.seen.any fun w=>uf (kR w) n
 else if r.af=4 then ry r.clock.num n
 else true
def gM:RS :=
 (if 2≤r.af∧r.af≤5 then {r with bD:=r.notes.filter fun n=>!r.kept n} else r).dz
def bM (x:Rp):RS :=
 if r.step=12 then (({r with clock:=x.word}:RS).look 0).getD {r with clock:=x.word}
 else if r.step=13 then
  let s:RS:={r with seen:=r.seen ++ [x.word]}
  match s.look (r.index+1) with
  | some t=>t
  | none =>
   if r.af≠4 then s.gM
   else if may s.clock.num (s.seen.map kR)=true then s.advance 14
   else s.era 15
 else if r.step=14 then r.era 15
 else if r.step=15 then {r with clock:=x.word}.gM
 else if r.step=16 then
  match r.bD with
  | []=>r
  | d :: l=>{r with notes:=r.notes.erase d,freed:=r.freed+1,bD:=l}.dz
 else r
def aG (x:Rp):RS × Bool :=
 if r.step=0 then (r,false)
 else if r.step=1 then (r.finish x,true)
 else if r.step=2 then (r.done,true)
 else if r.step=3 then (r.eF 2 ⟨true,x.word.num,x.word.num⟩,true)
 else if r.step=4 then (r.leave (r.index+1),true)
 else if r.step=8 then (r.ask 1 ⟨4,0,0,0,Wd.zero,Wd.dM x.word.num⟩,true)
 else if r.step=5∨r.step=6∨r.step=7 then (r.bB x,true)
 else if r.step=9∨r.step=10∨r.step=11 then (r.ek x,true)
 else (r.bM x,true)
end RS
def RS.new (af me threads most:Int):RS:=⟨Ca.zero,0,Ac.zero,Wd.zero,Wd.zero,0,[],[],af,me,threads,most,fun _=>Wd.zero,Sp.zero,[],0,⟨Wd.zero,false⟩⟩
end Go.Proofs.YthomdlajobnmnaaGreatDoor
namespace Go.Proofs.YthomdlajobnmnaaGreatDoor
open Go.Rex
def UY (w:Wd):Int:=w.slot+2000 * w.gen
def Ca.of (kind:Int):Ca:={Ca.zero with kind:=kind}
structure Lo where
 af:Int
 me:Int
 threads:Int
 most:Int
 h:Nat→Wd
 s:Sp
 notes:List Nt
 freed:Int
namespace Lo
variable (l:Lo)
def bL:Prop:=l.af=2∨l.af=3
def bC:Prop:=l.af=3∨l.af=5
def bY:Prop:=l.af=4∨l.af=5
instance:Decidable l.bL:=by unfold bL;exact inferInstance
instance:Decidable l.bC:=by unfold bC;exact inferInstance
instance:Decidable l.bY:=by unfold bY;exact inferInstance
def hold (n:Int) (w:Wd):Lo:={l with h:=fun i=>if i=n.toNat then w else l.h i}
def all:Int:=if l.bL then l.threads * 9 else l.threads
def base:Int:=if l.bL then 25 else 79
end Lo
inductive RT where
 | idle (x:Rp)
 | one (a:Ac)
 | fin (a:Ac)
 | lC
 | ik (i:Int)
 | bW (c:Ca)
 | ib (c:Ca) (w:Wd)
 | gz (c:Ca) (a:Ac)
 | lT
 | fB (old:Wd)
 | iT (old:Wd) (b:Int)
 | iD (clock:Wd)
 | kT
 | fM (clock:Wd) (seen:List Wd)
 | jo (clock:Wd)
 | fG
 | iA (d:Nt) (l:List Nt)
def Ac.load (slot gen field:Int):Ac:=⟨1,slot,gen,field,Wd.zero,Wd.zero⟩
def Ac.era:Ac:=Ac.load 0 0 24
def Ac.eB (clock:Wd):Ac:=⟨3,0,0,24,clock,⟨0,0,clock.tag+1,clock.num+1,false⟩⟩
def Ac.store (slot gen field:Int) (w:Wd):Ac:=⟨2,slot,gen,field,Wd.zero,w⟩
def RT.acc (l:Lo):RT→Ac
 | .idle _=>Ac.zero
 | .one a=>a
 | .fin a=>a
 | .lC=>Ac.era
 | .ik i=>Ac.store 0 0 (25+l.me * 9+i) Wd.zero
 | .bW c=>Ac.load c.slot c.gen c.field
 | .ib _ _=>Ac.era
 | .gz _ a=>a
 | .lT=>Ac.era
 | .fB old=>Ac.load old.slot old.gen 9
 | .iT _ _=>Ac.era
 | .iD clock=>Ac.eB clock
 | .kT=>Ac.era
 | .fM _ seen=>Ac.load 0 0 (l.base+seen.length)
 | .jo clock=>Ac.eB clock
 | .fG=>Ac.era
 | .iA d _=>⟨5,0,0,0,d.ref,Wd.zero⟩
def RT.dB:RT→Int
 | .idle _=>0
 | .one _=>1
 | .fin _=>2
 | .lC=>3
 | .ik _=>4
 | .bW _=>5
 | .ib _ _=>6
 | .gz _ _=>7
 | .lT=>8
 | .fB _=>9
 | .iT _ _=>10
 | .iD _=>11
 | .kT=>12
 | .fM _ _=>13
 | .jo _=>14
 | .fG=>15
 | .iA _ _=>16
def Rp.yes:Rp:=⟨Wd.zero,true⟩
abbrev LR:=Lo × RT
namespace RT
def jW (l:Lo) (s:Sp):Ac:=Ac.store 0 0 (79+l.me) (RS.yR s)
def leave (l:Lo) (start:Int):LR :=
 if l.bY∧l.s≠Sp.zero then ({l with s:=Sp.zero},.fin (jW l Sp.zero))
 else if l.bL then
  match RS.first l.h start.toNat (9-start.toNat) with
  | some n=>(l.hold n Wd.zero,.ik n)
  | none=>(l,.idle Rp.yes)
 else (l,.idle Rp.yes)
def scan (l:Lo):LR :=
 if l.af=1 then (l,.idle Rp.yes)
 else if l.af=4 then (l,.kT)
 else (l,.fM Wd.zero [])
def bS (l:Lo):LR:=if l.notes.length≥l.most then scan l else (l,.idle Rp.yes)
def note (l:Lo) (old:Wd) (b d:Int):Lo:={l with notes:=l.notes ++ [⟨old.gI,b,d⟩]}
def eQ (l:Lo) (old:Wd):LR :=
 if l.af=2 then bS (note l old 0 0)
 else if l.af=4 then (l,.iT old 0)
 else if l.af=3∨l.af=5 then (l,.fB old)
 else (l,.idle Rp.yes)
def begin (l:Lo) (c:Ca):LR :=
 if c.kind=1 then (if l.bY then (l,.lC) else (l,.idle Rp.yes))
 else if c.kind=2 then leave l 0
 else if c.kind=3 then (l,.one (Ac.load c.slot c.gen c.field))
 else if c.kind=4 then (l,.one ⟨2,c.slot,c.gen,c.field,c.old,c.new⟩)
 else if c.kind=5 then (l,.one ⟨3,c.slot,c.gen,c.field,c.old,c.new⟩)
 else if c.kind=6 then (l,.bW c)
 else if c.kind=7 then (if l.bL∧l.h c.i.toNat≠l.h c.j.toNat then (l.hold c.i (l.h c.j.toNat),.fin (Ac.store 0 0 (25+l.me * 9+c.i) (l.h c.j.toNat))) else (l,.idle Rp.yes))
 else if c.kind=8 then (if l.bC then (l,.lT) else (l,.one ⟨4,0,0,0,Wd.zero,Wd.zero⟩))
 else if c.kind=9 then (l,.fin ⟨5,0,0,0,c.old,Wd.zero⟩)
 else if c.kind=10 then eQ l c.old
 else scan l
def dN (l:Lo) (i now:Int):Prop :=
 if l.af=3 then l.h i.toNat≠Wd.zero∧(l.h i.toNat).num=now
 else l.s.is=true∧l.s.high=now
instance (l:Lo) (i now:Int):Decidable (dN l i now):=by unfold dN;exact inferInstance
def kept (l:Lo) (clock:Wd) (seen:List Wd) (n:Nt):Bool :=
 if l.af=2 then seen.any fun w=>RS.yS w n
 else if l.af=3 then seen.any fun w=>RS.xm w.num n
 else if l.af=5 then seen.any fun w=>RS.uf (RS.kR w) n
 else RS.ry clock.num n
def dz (l:Lo):List Nt→LR
 | []=>(l,.idle Rp.yes)
 | d :: r=>(l,.iA d r)
def gM (l:Lo) (clock:Wd) (seen:List Wd):LR:=dz l (l.notes.filter fun n=>!kept l clock seen n)
def aG (l:Lo):RT→Rp→LR
 | .idle x,_=>(l,.idle x)
 | .one _,x=>(l,.idle x)
 | .fin _,_=>(l,.idle Rp.yes)
 | .lC,x=>({l with s:=⟨true,x.word.num,x.word.num⟩},.fin (jW l ⟨true,x.word.num,x.word.num⟩))
 | .ik i,_=>leave l (i+1)
 | .bW c,x =>
  if l.bC then (l,.ib c x.word)
  else if l.af=2∧x.word.slot≠0∧l.h c.i.toNat≠x.word.gI then (l.hold c.i x.word.gI,.gz c (Ac.store 0 0 (25+l.me * 9+c.i) x.word.gI))
  else (l,.idle ⟨x.word,true⟩)
 | .ib c w,x =>
  if dN l c.i x.word.num then (l,.idle ⟨w,true⟩)
  else if l.af=3 then (l.hold c.i (Wd.dM x.word.num),.gz c (Ac.store 0 0 (25+l.me * 9+c.i) (Wd.dM x.word.num)))
  else ({l with s:=⟨true,if l.s.is=true then l.s.low else x.word.num,x.word.num⟩},.gz c (jW l ⟨true,if l.s.is=true then l.s.low else x.word.num,x.word.num⟩))
 | .gz c _,_=>(l,.bW c)
 | .lT,x=>(l,.one ⟨4,0,0,0,Wd.zero,Wd.dM x.word.num⟩)
 | .fB old,x=>(l,.iT old x.word.num)
 | .iT old b,x=>if l.bC then (note l old b x.word.num,.iD x.word) else bS (note l old b x.word.num)
 | .iD _,_=>bS l
 | .kT,x=>(l,.fM x.word [])
 | .fM clock seen,x =>
  if (seen.length:Int)+1<l.all then (l,.fM clock (seen ++ [x.word]))
  else if l.af≠4 then gM l clock (seen ++ [x.word])
  else if RS.may clock.num ((seen ++ [x.word]).map RS.kR)=true then (l,.jo clock)
  else (l,.fG)
 | .jo _,_=>(l,.fG)
 | .fG,x=>gM l x.word []
 | .iA d r,_=>dz {l with notes:=l.notes.erase d,freed:=l.freed+1} r
end RT
structure iG (l:Lo) (t:RT) (r:RS):Prop where
 af:r.af=l.af
 me:r.me=l.me
 threads:r.threads=l.threads
 most:r.most=l.most
 holds:r.holds=l.h
 span:r.span=l.s
 notes:r.notes=l.notes
 freed:r.freed=l.freed
 step:r.step=t.dB
 acc:t.dB≠0→r.acc=t.acc l
 more:match t with
  | .idle x=>r.bR=x
  | .ik i=>r.index=i
  | .bW c=>r.call=c
  | .ib c w=>r.call=c∧r.word=w
  | .gz c _=>r.call=c
  | .fB old=>r.call.old=old∧r.seen=[]
  | .iT old b=>r.call.old=old∧r.word.num=b∧r.seen=[]
  | .iD _=>r.seen=[]
  | .kT=>r.seen=[]
  | .fM clock seen=>(l.af=4→r.clock=clock)∧r.seen=seen∧r.index=seen.length
  | .iA d rest=>r.bD=d :: rest
  | _=>True
structure Lo.OK (l:Lo):Prop where
 af:1≤l.af∧l.af≤5
 me:0≤l.me∧l.me<l.threads
 threads:1≤l.threads∧l.threads≤6
 most:1≤l.most
section
variable {l:Lo} {r:RS}
theorem iG.bL {t:RT} (h:iG l t r):r.bL↔l.bL:=by simp only [RS.bL,Lo.bL,h.af]
theorem iG.bC {t:RT} (h:iG l t r):r.bC↔l.bC:=by simp only [RS.bC,Lo.bC,h.af]
theorem iG.bY {t:RT} (h:iG l t r):r.bY↔l.bY:=by simp only [RS.bY,Lo.bY,h.af]
end
structure bU (l:Lo) (r:RS):Prop where
 af:r.af=l.af
 me:r.me=l.me
 threads:r.threads=l.threads
 most:r.most=l.most
 holds:r.holds=l.h
 span:r.span=l.s
 notes:r.notes=l.notes
 freed:r.freed=l.freed
theorem iG.keeps {l:Lo} {t:RT} {r:RS} (h:iG l t r):bU l r:=⟨h.af,h.me,h.threads,h.most,h.holds,h.span,h.notes,h.freed⟩
section
variable {l:Lo} {r:RS}
theorem bU.bL (h:bU l r):r.bL↔l.bL:=by simp only [RS.bL,Lo.bL,h.af]
theorem bU.bC (h:bU l r):r.bC↔l.bC:=by simp only [RS.bC,Lo.bC,h.af]
theorem bU.bY (h:bU l r):r.bY↔l.bY:=by simp only [RS.bY,Lo.bY,h.af]
theorem bU.fin (h:bU l r) (x:Rp):iG l (.idle x) (r.finish x) :=
 ⟨h.af,h.me,h.threads,h.most,h.holds,h.span,h.notes,h.freed,rfl,fun h=>absurd rfl h,rfl⟩
theorem bU.done (h:bU l r):iG l (.idle Rp.yes) r.done:=h.fin _
theorem bU.ask (h:bU l r) {t:RT} {a:Ac} (h0:t.dB≠0) (ha:a=t.acc l) (hm:match t with
    | .idle x=>r.bR=x
    | .ik i=>r.index=i
    | .bW c=>r.call=c
    | .ib c w=>r.call=c∧r.word=w
    | .gz c _=>r.call=c
    | .fB old=>r.call.old=old∧r.seen=[]
    | .iT old b=>r.call.old=old∧r.word.num=b∧r.seen=[]
    | .iD _=>r.seen=[]
    | .kT=>r.seen=[]
    | .fM clock seen=>(l.af=4→r.clock=clock)∧r.seen=seen∧r.index=seen.length
    | .iA d rest=>r.bD=d :: rest
    | _=>True):iG l t (r.ask t.dB a):=by
 refine ⟨h.af,h.me,h.threads,h.most,h.holds,h.span,h.notes,h.freed,rfl,fun _=>ha,?_⟩
 cases t <;> exact hm
theorem bU.hold (h:bU l r) (n:Int) (w:Wd):bU (l.hold n w) (r.hold n w) :=
 ⟨h.af,h.me,h.threads,h.most,by simp only [RS.hold,Lo.hold,h.holds],h.span,h.notes,h.freed⟩
theorem bU.leave (h:bU l r) (n:Int):iG (RT.leave l n).1 (RT.leave l n).2 (r.leave n):=by
 have c1:(r.bY∧r.span≠Sp.zero)↔(l.bY∧l.s≠Sp.zero):=by rw [h.bY,h.span]
 unfold RS.leave RT.leave
 by_cases hA:l.bY∧l.s≠Sp.zero
 ·rw [if_pos (c1.2 hA),if_pos hA]
  refine bU.ask (l:={l with s:=Sp.zero}) (r:={r with span:=Sp.zero}) (t:=.fin (RT.jW l Sp.zero)) ⟨h.af,h.me,h.threads,h.most,h.holds,rfl,h.notes,h.freed⟩ (show (2:Int)≠0 by decide) ?_ trivial
  show (⟨2,0,0,79+r.me,Wd.zero,RS.yR Sp.zero⟩:Ac)=_
  rw [h.me];rfl
 ·rw [if_neg (fun x=>hA (c1.1 x)),if_neg hA]
  by_cases hB:l.bL
  ·rw [if_pos (h.bL.2 hB),if_pos hB]
   have e:RS.first r.holds n.toNat (9-n.toNat)=RS.first l.h n.toNat (9-n.toNat):=by rw [h.holds]
   rw [e]
   cases RS.first l.h n.toNat (9-n.toNat) with
   | some k =>
    refine bU.ask (l:=l.hold k Wd.zero) (r:=({r with index:=k}:RS).hold k Wd.zero) (t:=.ik k) (bU.hold (r:={r with index:=k}) ⟨h.af,h.me,h.threads,h.most,h.holds,h.span,h.notes,h.freed⟩ _ _) (show (4:Int)≠0 by decide) ?_ rfl
    show (⟨2,0,0,25+r.me * 9+k,Wd.zero,Wd.zero⟩:Ac)=_
    rw [h.me];rfl
   | none=>exact h.done
  ·rw [if_neg (fun x=>hB (h.bL.1 x)),if_neg hB]
   exact h.done
theorem bU.look (h:bU l r) (n:Int) {clock:Wd} {seen:List Wd} (hn:n=seen.length) (hc:l.af=4→r.clock=clock) (hs:r.seen=seen) :
  if n<l.all then ∃q,r.look n=some q∧iG l (.fM clock seen) q else r.look n=none:=by
 unfold RS.look Lo.all
 by_cases hB:l.bL
 ·rw [if_pos hB,if_pos (h.bL.2 hB)]
  have ht:=h.threads
  by_cases hn':n<l.threads * 9
  ·rw [if_pos hn',if_neg (by omega)]
   refine ⟨_,rfl,⟨h.af,h.me,h.threads,h.most,h.holds,h.span,h.notes,h.freed,rfl,fun _=>?_,hc,hs,hn⟩⟩
   show (⟨1,0,0,25+n,Wd.zero,Wd.zero⟩:Ac)=Ac.load 0 0 (l.base+seen.length)
   rw [hn,Lo.base,if_pos hB];rfl
  ·rw [if_neg hn',if_pos (by omega)]
 ·rw [if_neg hB,if_neg (fun x=>hB (h.bL.1 x))]
  have ht:=h.threads
  by_cases hn':n<l.threads
  ·rw [if_pos hn',if_neg (by omega)]
   refine ⟨_,rfl,⟨h.af,h.me,h.threads,h.most,h.holds,h.span,h.notes,h.freed,rfl,fun _=>?_,hc,hs,hn⟩⟩
   show (⟨1,0,0,79+n,Wd.zero,Wd.zero⟩:Ac)=Ac.load 0 0 (l.base+seen.length)
   rw [hn,Lo.base,if_neg hB];rfl
  ·rw [if_neg hn',if_pos (by omega)]
theorem Lo.OK.all {l:Lo} (h:l.OK):0<l.all:=by
 have:=h.threads
 unfold Lo.all
 split <;> omega
theorem bU.Z4 (h:bU l r) (ho:l.OK) {clock:Wd} (hc:l.af=4→r.clock=clock) (hs:r.seen=[]):iG l (.fM clock []) ((r.look 0).getD r):=by
 have:=h.look 0 (clock:=clock) (seen:=[]) rfl hc hs
 rw [if_pos ho.all] at this
 obtain ⟨q,h1,h2⟩:=this
 rw [h1]
 exact h2
theorem bU.scan (h:bU l r) (ho:l.OK) (hs:r.seen=[]):iG (RT.scan l).1 (RT.scan l).2 r.scan:=by
 unfold RS.scan RT.scan
 rw [h.af]
 by_cases h1:l.af=1
 ·rw [if_pos h1,if_pos h1];exact h.done
 ·rw [if_neg h1,if_neg h1]
  by_cases h4:l.af=4
  ·rw [if_pos h4,if_pos h4]
   exact h.ask (t:=.kT) (show (12:Int)≠0 by decide) rfl hs
  ·rw [if_neg h4,if_neg h4]
   exact h.Z4 ho (fun h=>absurd h h4) hs
theorem bU.bS (h:bU l r) (ho:l.OK) (hs:r.seen=[]):iG (RT.bS l).1 (RT.bS l).2 r.bS:=by
 unfold RS.bS RT.bS
 rw [h.notes,h.most]
 split
 ·exact h.scan ho hs
 ·exact h.done
theorem bU.note (h:bU l r) (b d:Int):bU (RT.note l r.call.old b d) (r.note b d) :=
 ⟨h.af,h.me,h.threads,h.most,h.holds,h.span,by simp only [RS.note,RT.note,h.notes],h.freed⟩
theorem Lo.OK.note {l:Lo} (h:l.OK) (w:Wd) (b d:Int):(RT.note l w b d).OK:=⟨h.af,h.me,h.threads,h.most⟩
theorem bU.eQ (h:bU l r) (ho:l.OK) (hs:r.seen=[]) (hw:r.word.num=0):iG (RT.eQ l r.call.old).1 (RT.eQ l r.call.old).2 r.eQ:=by
 unfold RS.eQ RT.eQ
 rw [h.af]
 by_cases h2:l.af=2
 ·rw [if_pos h2,if_pos h2]
  exact (h.note 0 0).bS (ho.note _ _ _) hs
 rw [if_neg h2,if_neg h2]
 by_cases h4:l.af=4
 ·rw [if_pos h4,if_pos h4]
  exact h.ask (t:=.iT r.call.old 0) (show (10:Int)≠0 by decide) rfl ⟨rfl,hw,hs⟩
 rw [if_neg h4,if_neg h4]
 by_cases MS:l.af=3∨l.af=5
 ·rw [if_pos MS,if_pos MS]
  exact h.ask (t:=.fB r.call.old) (show (9:Int)≠0 by decide) rfl ⟨rfl,hs⟩
 rw [if_neg MS,if_neg MS]
 exact h.done
def Ca.OK (c:Ca):Prop:=1≤c.kind∧c.kind≤11∧0≤c.i∧c.i<9∧0≤c.j∧c.j<9
theorem bU.opened (h:bU l r) (ho:l.OK) (hs:r.seen=[]) (hw:r.word.num=0) (hc:r.call.OK):iG (RT.begin l r.call).1 (RT.begin l r.call).2 r.opened:=by
 unfold RS.opened RT.begin
 simp only
 by_cases k1:r.call.kind=1
 ·rw [if_pos k1,if_pos k1]
  by_cases g:l.bY
  ·rw [if_pos g,if_pos (h.bY.2 g)]
   exact h.ask (t:=.lC) (show (3:Int)≠0 by decide) rfl trivial
  ·rw [if_neg g,if_neg (fun x=>g (h.bY.1 x))]
   exact h.done
 rw [if_neg k1,if_neg k1]
 by_cases k2:r.call.kind=2
 ·rw [if_pos k2,if_pos k2]
  exact h.leave 0
 rw [if_neg k2,if_neg k2]
 by_cases k3:r.call.kind=3
 ·rw [if_pos k3,if_pos k3]
  exact h.ask (t:=.one (Ac.load r.call.slot r.call.gen r.call.field)) (show (1:Int)≠0 by decide) rfl trivial
 rw [if_neg k3,if_neg k3]
 by_cases k4:r.call.kind=4
 ·rw [if_pos k4,if_pos k4]
  exact h.ask (t:=.one ⟨2,r.call.slot,r.call.gen,r.call.field,r.call.old,r.call.new⟩) (show (1:Int)≠0 by decide) rfl trivial
 rw [if_neg k4,if_neg k4]
 by_cases k5:r.call.kind=5
 ·rw [if_pos k5,if_pos k5]
  exact h.ask (t:=.one ⟨3,r.call.slot,r.call.gen,r.call.field,r.call.old,r.call.new⟩) (show (1:Int)≠0 by decide) rfl trivial
 rw [if_neg k5,if_neg k5]
 by_cases k6:r.call.kind=6
 ·rw [if_pos k6,if_pos k6]
  exact h.ask (t:=.bW r.call) (show (5:Int)≠0 by decide) rfl rfl
 rw [if_neg k6,if_neg k6]
 by_cases k7:r.call.kind=7
 ·rw [if_pos k7,if_pos k7]
  have e:(r.bL∧r.holds r.call.i.toNat≠r.holds r.call.j.toNat)↔(l.bL∧l.h r.call.i.toNat≠l.h r.call.j.toNat):=by rw [h.bL,h.holds]
  by_cases g:l.bL∧l.h r.call.i.toNat≠l.h r.call.j.toNat
  ·rw [if_pos g,if_pos (e.2 g)]
   have h':=h.hold r.call.i (l.h r.call.j.toNat)
   have e2:r.post 2 r.call.i (r.holds r.call.j.toNat)=(r.hold r.call.i (l.h r.call.j.toNat)).ask 2 ⟨2,0,0,25+l.me * 9+r.call.i,Wd.zero,l.h r.call.j.toNat⟩:=by
    unfold RS.post
    rw [h.holds,h.me]
   rw [e2]
   exact h'.ask (t:=.fin (Ac.store 0 0 (25+l.me * 9+r.call.i) (l.h r.call.j.toNat))) (show (2:Int)≠0 by decide) rfl trivial
  ·rw [if_neg g,if_neg (fun x=>g (e.1 x))]
   exact h.done
 rw [if_neg k7,if_neg k7]
 by_cases k8:r.call.kind=8
 ·rw [if_pos k8,if_pos k8]
  by_cases g:l.bC
  ·rw [if_pos g,if_pos (h.bC.2 g)]
   exact h.ask (t:=.lT) (show (8:Int)≠0 by decide) rfl trivial
  ·rw [if_neg g,if_neg (fun x=>g (h.bC.1 x))]
   exact h.ask (t:=.one ⟨4,0,0,0,Wd.zero,Wd.zero⟩) (show (1:Int)≠0 by decide) rfl trivial
 rw [if_neg k8,if_neg k8]
 by_cases k9:r.call.kind=9
 ·rw [if_pos k9,if_pos k9]
  exact h.ask (t:=.fin ⟨5,0,0,0,r.call.old,Wd.zero⟩) (show (2:Int)≠0 by decide) rfl trivial
 rw [if_neg k9,if_neg k9]
 by_cases k10:r.call.kind=10
 ·rw [if_pos k10,if_pos k10]
  exact h.eQ ho hs hw
 rw [if_neg k10,if_neg k10,if_pos (by have:=hc.1;have:=hc.2.1;omega)]
 exact h.scan ho hs
theorem iG.begin {x:Rp} (h:iG l (.idle x) r) (ho:l.OK) {c:Ca} (hc:c.OK):iG (RT.begin l c).1 (RT.begin l c).2 (r.begin c).1∧(r.begin c).2=true:=by
 have hs:r.step=0:=h.step
 unfold RS.begin
 obtain ⟨c1,c2,c3,c4,c5,c6⟩:=hc
 rw [if_neg (by omega),if_neg (by omega),if_neg (by omega)]
 exact ⟨bU.opened (r:={r with call:=c,step:=0,acc:=Ac.zero,word:=Wd.zero,clock:=Wd.zero,index:=0,seen:=[],bD:=[]}) ⟨h.af,h.me,h.threads,h.most,h.holds,h.span,h.notes,h.freed⟩ ho rfl rfl ⟨c1,c2,c3,c4,c5,c6⟩,rfl⟩
theorem bU.eF (h:bU l r) (s:Sp) {t:RT} (ht:t=.fin (RT.jW l s)∨∃c,t=.gz c (RT.jW l s)∧r.call=c):iG {l with s:=s} t (r.eF t.dB s):=by
 have h':bU {l with s:=s} {r with span:=s}:=⟨h.af,h.me,h.threads,h.most,h.holds,rfl,h.notes,h.freed⟩
 have e:(⟨2,0,0,79+r.me,Wd.zero,RS.yR s⟩:Ac)=RT.jW l s:=by rw [h.me];rfl
 unfold RS.eF
 rw [e]
 rcases ht with rfl | ⟨c,rfl,hc⟩
 ·exact h'.ask (t:=.fin (RT.jW l s)) (show (2:Int)≠0 by decide) rfl trivial
 ·exact h'.ask (t:=.gz c (RT.jW l s)) (show (7:Int)≠0 by decide) rfl hc
theorem bU.dz (h:bU l r):iG (RT.dz l r.bD).1 (RT.dz l r.bD).2 r.dz:=by
 unfold RS.dz RT.dz
 cases hd:r.bD with
 | nil=>exact h.done
 | cons d q=>exact h.ask (t:=.iA d q) (show (16:Int)≠0 by decide) rfl hd
theorem bU.gM (h:bU l r) (ho:l.OK) (h1:l.af≠1) {clock:Wd} {seen:List Wd} (hc:l.af=4→r.clock=clock) (hs:r.seen=seen∨l.af=4):iG (RT.gM l clock seen).1 (RT.gM l clock seen).2 r.gM:=by
 have ho1:=ho.af
 unfold RS.gM RT.gM
 rw [if_pos (by rw [h.af];omega)]
 have e:(r.notes.filter fun n=>!r.kept n)=l.notes.filter fun n=>!RT.kept l clock seen n:=by
  rw [h.notes]
  congr 1
  funext n
  congr 1
  unfold RS.kept RT.kept
  rw [h.af]
  split
  ·rename_i e;rcases hs with hs | hs
   ·rw [hs]
   ·omega
  split
  ·rcases hs with hs | hs
   ·rw [hs]
   ·omega
  split
  ·rcases hs with hs | hs
   ·rw [hs]
   ·omega
  rw [if_pos (by omega),hc (by omega)]
 have:=bU.dz (l:=l) (r:={r with bD:=r.notes.filter fun n=>!r.kept n}) ⟨h.af,h.me,h.threads,h.most,h.holds,h.span,h.notes,h.freed⟩
 rw [e] at this
 rw [e]
 exact this
def RT.fits (l:Lo):RT→Prop
 | .ib _ _=>l.bC
 | .kT | .jo _ | .fG=>l.af=4
 | .fM _ _=>l.af≠1
 | .bW c | .gz c _=>0≤c.i∧c.i<9
 | _=>True
theorem iG.aG {t:RT} (h:iG l t r) (ho:l.OK) (hf:t.fits l) (h0:t.dB≠0) (x:Rp):iG (RT.aG l t x).1 (RT.aG l t x).2 (r.aG x).1∧(r.aG x).2=true:=by
 have hk:=h.keeps
 have hs:=h.step
 have hm:=h.more
 unfold RS.aG
 cases t with
 | idle y=>exact absurd rfl h0
 | one a =>
  replace hs:r.step=1:=hs
  rw [if_neg (by omega),if_pos hs]
  exact ⟨hk.fin x,rfl⟩
 | fin a =>
  replace hs:r.step=2:=hs
  rw [if_neg (by omega),if_neg (by omega),if_pos hs]
  exact ⟨hk.done,rfl⟩
 | lC =>
  replace hs:r.step=3:=hs
  rw [if_neg (by omega),if_neg (by omega),if_neg (by omega),if_pos hs]
  exact ⟨hk.eF _ (t:=.fin _) (.inl rfl),rfl⟩
 | ik i =>
  replace hs:r.step=4:=hs
  replace hm:r.index=i:=hm
  rw [if_neg (by omega),if_neg (by omega),if_neg (by omega),if_neg (by omega),if_pos hs,hm]
  exact ⟨hk.leave _,rfl⟩
 | lT =>
  replace hs:r.step=8:=hs
  rw [if_neg (by omega),if_neg (by omega),if_neg (by omega),if_neg (by omega),if_neg (by omega),if_pos hs]
  exact ⟨hk.ask (t:=.one _) (show (1:Int)≠0 by decide) rfl trivial,rfl⟩
 | gz c a =>
  replace hs:r.step=7:=hs
  replace hm:r.call=c:=hm
  subst hm
  rw [if_neg (by omega),if_neg (by omega),if_neg (by omega),if_neg (by omega),if_neg (by omega),if_neg (by omega),if_pos (by omega)]
  refine ⟨?_,rfl⟩
  unfold RS.bB
  simp only
  rw [if_pos hs]
  exact hk.ask (t:=.bW r.call) (show (5:Int)≠0 by decide) rfl rfl
 | bW c =>
  replace hs:r.step=5:=hs
  replace hm:r.call=c:=hm
  subst hm
  rw [if_neg (by omega),if_neg (by omega),if_neg (by omega),if_neg (by omega),if_neg (by omega),if_neg (by omega),if_pos (by omega)]
  refine ⟨?_,rfl⟩
  have hk':bU l {r with word:=x.word}:=⟨h.af,h.me,h.threads,h.most,h.holds,h.span,h.notes,h.freed⟩
  unfold RS.bB
  simp only
  rw [if_neg (by omega),if_pos hs]
  show iG (if l.bC then _ else _:LR).1 (if l.bC then _ else _:LR).2 _
  by_cases hd:l.bC
  ·rw [if_pos (h.bC.2 hd),if_pos hd]
   exact hk'.ask (t:=.ib r.call x.word) (show (6:Int)≠0 by decide) rfl ⟨rfl,rfl⟩
  rw [if_neg (fun y=>hd (h.bC.1 y)),if_neg hd]
  have e:(r.af=2∧x.word.slot≠0∧r.holds r.call.i.toNat≠x.word.gI)↔(l.af=2∧x.word.slot≠0∧l.h r.call.i.toNat≠x.word.gI):=by rw [h.af,h.holds]
  by_cases g:l.af=2∧x.word.slot≠0∧l.h r.call.i.toNat≠x.word.gI
  ·rw [if_pos (e.2 g),if_pos g]
   have e2:({r with word:=x.word}:RS).post 7 r.call.i x.word.gI=(({r with word:=x.word}:RS).hold r.call.i x.word.gI).ask 7 (Ac.store 0 0 (25+l.me * 9+r.call.i) x.word.gI):=by
    unfold RS.post
    rw [show ({r with word:=x.word}:RS).me=l.me from h.me]
    rfl
   rw [e2]
   exact (hk'.hold r.call.i x.word.gI).ask (t:=.gz r.call (Ac.store 0 0 (25+l.me * 9+r.call.i) x.word.gI)) (show (7:Int)≠0 by decide) rfl rfl
  ·rw [if_neg (fun y=>g (e.1 y)),if_neg g]
   exact hk'.fin _
 | ib c w =>
  replace hs:r.step=6:=hs
  obtain ⟨hm,hw⟩:r.call=c∧r.word=w:=hm
  subst hm hw
  rw [if_neg (by omega),if_neg (by omega),if_neg (by omega),if_neg (by omega),if_neg (by omega),if_neg (by omega),if_pos (by omega)]
  refine ⟨?_,rfl⟩
  unfold RS.bB
  simp only
  rw [if_neg (by omega),if_neg (by omega),if_pos hs]
  show iG (if RT.dN l r.call.i x.word.num then _ else _:LR).1 (if RT.dN l r.call.i x.word.num then _ else _:LR).2 _
  have e:r.dN r.call.i x.word.num↔RT.dN l r.call.i x.word.num:=by unfold RS.dN RT.dN;rw [h.af,h.holds,h.span]
  by_cases g:RT.dN l r.call.i x.word.num
  ·rw [if_pos (e.2 g),if_pos g]
   exact hk.fin _
  rw [if_neg (fun y=>g (e.1 y)),if_neg g,h.af]
  by_cases g3:l.af=3
  ·rw [if_pos g3,if_pos g3]
   have e2:r.post 7 r.call.i (Wd.dM x.word.num)=(r.hold r.call.i (Wd.dM x.word.num)).ask 7 (Ac.store 0 0 (25+l.me * 9+r.call.i) (Wd.dM x.word.num)):=by
    unfold RS.post
    rw [h.me]
    rfl
   rw [e2]
   exact (hk.hold r.call.i _).ask (t:=.gz r.call (Ac.store 0 0 (25+l.me * 9+r.call.i) (Wd.dM x.word.num))) (show (7:Int)≠0 by decide) rfl rfl
  ·rw [if_neg g3,if_neg g3,h.span]
   exact hk.eF _ (t:=.gz r.call _) (.inr ⟨_,rfl,rfl⟩)
 | fB old =>
  replace hs:r.step=9:=hs
  obtain ⟨h1,h2⟩:r.call.old=old∧r.seen=[]:=hm
  rw [if_neg (by omega),if_neg (by omega),if_neg (by omega),if_neg (by omega),if_neg (by omega),if_neg (by omega),if_neg (by omega),if_pos (by omega)]
  refine ⟨?_,rfl⟩
  unfold RS.ek
  rw [if_pos hs]
  have hk':bU l {r with word:=x.word}:=⟨h.af,h.me,h.threads,h.most,h.holds,h.span,h.notes,h.freed⟩
  exact hk'.ask (t:=.iT old x.word.num) (show (10:Int)≠0 by decide) rfl ⟨h1,rfl,h2⟩
 | iT old b =>
  replace hs:r.step=10:=hs
  obtain ⟨h1,h2,h3⟩:r.call.old=old∧r.word.num=b∧r.seen=[]:=hm
  rw [if_neg (by omega),if_neg (by omega),if_neg (by omega),if_neg (by omega),if_neg (by omega),if_neg (by omega),if_neg (by omega),if_pos (by omega)]
  refine ⟨?_,rfl⟩
  unfold RS.ek
  simp only
  rw [if_neg (by omega),if_pos hs,h2]
  show iG (if l.bC then _ else _:LR).1 (if l.bC then _ else _:LR).2 _
  have hk':bU l {r with clock:=x.word}:=⟨h.af,h.me,h.threads,h.most,h.holds,h.span,h.notes,h.freed⟩
  have hk2:=hk'.note b x.word.num
  rw [show ({r with clock:=x.word}:RS).call.old=old from h1] at hk2
  by_cases hd:l.bC
  ·rw [if_pos (h.bC.2 hd),if_pos hd]
   exact hk2.ask (t:=.iD x.word) (show (11:Int)≠0 by decide) rfl h3
  ·rw [if_neg (fun y=>hd (h.bC.1 y)),if_neg hd]
   exact hk2.bS (ho.note _ _ _) h3
 | iD clock =>
  replace hs:r.step=11:=hs
  replace hm:r.seen=[]:=hm
  rw [if_neg (by omega),if_neg (by omega),if_neg (by omega),if_neg (by omega),if_neg (by omega),if_neg (by omega),if_neg (by omega),if_pos (by omega)]
  refine ⟨?_,rfl⟩
  unfold RS.ek
  rw [if_neg (by omega),if_neg (by omega),if_pos hs]
  exact hk.bS ho hm
 | kT =>
  replace hs:r.step=12:=hs
  replace hm:r.seen=[]:=hm
  rw [if_neg (by omega),if_neg (by omega),if_neg (by omega),if_neg (by omega),if_neg (by omega),if_neg (by omega),if_neg (by omega),if_neg (by omega)]
  refine ⟨?_,rfl⟩
  unfold RS.bM
  rw [if_pos hs]
  have hk':bU l {r with clock:=x.word}:=⟨h.af,h.me,h.threads,h.most,h.holds,h.span,h.notes,h.freed⟩
  exact hk'.Z4 ho (fun _=>rfl) hm
 | fM clock seen =>
  replace hs:r.step=13:=hs
  obtain ⟨h1,h2,h3⟩:(l.af=4→r.clock=clock)∧r.seen=seen∧r.index=seen.length:=hm
  subst h2
  replace hf:l.af≠1:=hf
  rw [if_neg (by omega),if_neg (by omega),if_neg (by omega),if_neg (by omega),if_neg (by omega),if_neg (by omega),if_neg (by omega),if_neg (by omega)]
  refine ⟨?_,rfl⟩
  unfold RS.bM
  simp only
  rw [if_neg (by omega),if_pos hs]
  show iG (if (r.seen.length:Int)+1<l.all then _ else _:LR).1 (if (r.seen.length:Int)+1<l.all then _ else _:LR).2 _
  have hk':bU l {r with seen:=r.seen ++ [x.word]}:=⟨h.af,h.me,h.threads,h.most,h.holds,h.span,h.notes,h.freed⟩
  have hl:=hk'.look (r.index+1) (clock:=clock) (seen:=r.seen ++ [x.word]) (by rw [h3];simp) h1 rfl
  by_cases g:(r.seen.length:Int)+1<l.all
  ·rw [if_pos (by omega)] at hl
   obtain ⟨q,e1,e2⟩:=hl
   rw [e1,if_pos g]
   exact e2
  ·rw [if_neg (by omega)] at hl
   rw [hl,if_neg g]
   simp only
   by_cases g4:l.af=4
   ·have g4':r.af=4:=h.af.trans g4
    obtain rfl:=h1 g4
    rw [if_neg (show ¬l.af≠4 from fun y=>y g4),if_neg (show ¬r.af≠4 from fun y=>y g4')]
    by_cases gm:RS.may r.clock.num ((r.seen ++ [x.word]).map RS.kR)=true
    ·rw [if_pos gm,if_pos gm]
     exact hk'.ask (t:=.jo r.clock) (show (14:Int)≠0 by decide) rfl trivial
    ·rw [if_neg gm,if_neg gm]
     exact hk'.ask (t:=.fG) (show (15:Int)≠0 by decide) rfl trivial
   ·rw [if_pos (show l.af≠4 from g4),if_pos (show r.af≠4 from fun y=>g4 (h.af.symm.trans y))]
    exact hk'.gM ho hf h1 (.inl rfl)
 | jo clock =>
  replace hs:r.step=14:=hs
  rw [if_neg (by omega),if_neg (by omega),if_neg (by omega),if_neg (by omega),if_neg (by omega),if_neg (by omega),if_neg (by omega),if_neg (by omega)]
  refine ⟨?_,rfl⟩
  unfold RS.bM
  rw [if_neg (by omega),if_neg (by omega),if_pos hs]
  exact hk.ask (t:=.fG) (show (15:Int)≠0 by decide) rfl trivial
 | fG =>
  replace hs:r.step=15:=hs
  replace hf:l.af=4:=hf
  rw [if_neg (by omega),if_neg (by omega),if_neg (by omega),if_neg (by omega),if_neg (by omega),if_neg (by omega),if_neg (by omega),if_neg (by omega)]
  refine ⟨?_,rfl⟩
  unfold RS.bM
  rw [if_neg (by omega),if_neg (by omega),if_neg (by omega),if_pos hs]
  have hk':bU l {r with clock:=x.word}:=⟨h.af,h.me,h.threads,h.most,h.holds,h.span,h.notes,h.freed⟩
  exact hk'.gM ho (by omega) (fun _=>rfl) (.inr hf)
 | iA d rest =>
  replace hs:r.step=16:=hs
  replace hm:r.bD=d :: rest:=hm
  rw [if_neg (by omega),if_neg (by omega),if_neg (by omega),if_neg (by omega),if_neg (by omega),if_neg (by omega),if_neg (by omega),if_neg (by omega)]
  refine ⟨?_,rfl⟩
  unfold RS.bM
  simp only
  rw [if_neg (by omega),if_neg (by omega),if_neg (by omega),if_neg (by omega),if_pos hs,hm]
  have hk':bU {l with notes:=l.notes.erase d,freed:=l.freed+1} {r with notes:=r.notes.erase d,freed:=r.freed+1,bD:=rest}:=⟨h.af,h.me,h.threads,h.most,h.holds,h.span,by simp only [h.notes],by simp only [h.freed]⟩
  exact hk'.dz
end
end Go.Proofs.YthomdlajobnmnaaGreatDoor
namespace Go.Proofs.YthomdlajobnmnaaGreatDoor
open Go.Rex
structure Th where
 l:Lo
 t:RT
 pc:Int
 old:Wd
 node:Wd
 bad:Bool
 stop:Bool
def Th.call (h:Th) (x:Rp):Th × Ca :=
 if h.pc=0 then ({h with pc:=1},Ca.of 1)
 else if h.pc=1 then ({h with pc:=2},Ca.of 6)
 else if h.pc=2 then ({h with pc:=3,old:=x.word},if x.word.slot=0 then Ca.of 3 else {Ca.of 3 with slot:=x.word.slot,gen:=x.word.gen,field:=1})
 else if h.pc=3 then ({h with pc:=4,bad:=h.bad || (h.old.slot != 0 && x.word.num != UY h.old)},Ca.of 8)
 else if h.pc=4 then
  if x.ok=false then ({h with pc:=0},Ca.of 2)
  else ({h with pc:=5,node:=x.word},{Ca.of 4 with slot:=x.word.slot,gen:=x.word.gen,field:=1,new:=Wd.dM (UY x.word)})
 else if h.pc=5 then ({h with pc:=6},{Ca.of 5 with old:=h.old,new:=⟨h.node.slot,h.node.gen,h.old.tag+1,0,false⟩})
 else if h.pc=6 then ({h with pc:=7},if x.ok=false then {Ca.of 9 with old:=h.node} else if h.old.slot=0 then Ca.of 3 else {Ca.of 10 with old:=h.old})
 else ({h with pc:=0},Ca.of 2)
def Th.with (h:Th) (q:LR):Th:={h with l:=q.1,t:=q.2}
def Th.bZ (h:Th) (x:Rp):Th:=(h.call x).1.with (RT.begin (h.call x).1.l (h.call x).2)
structure Sm (a b:Lo):Prop where
 af:b.af=a.af
 me:b.me=a.me
 threads:b.threads=a.threads
 most:b.most=a.most
theorem Sm.refl (a:Lo):Sm a a:=⟨rfl,rfl,rfl,rfl⟩
theorem fU {c:Prop} [Decidable c] {l:Lo} {a b:LR} (h1:Sm l a.1) (h2:Sm l b.1):Sm l (if c then a else b).1:=by
 by_cases h:c
 ·rw [if_pos h];exact h1
 ·rw [if_neg h];exact h2
theorem RT.MU (l:Lo) (k:Int):Sm l (RT.leave l k).1:=by
 refine fU ⟨rfl,rfl,rfl,rfl⟩ (fU ?_ (Sm.refl l))
 cases RS.first l.h k.toNat (9-k.toNat) <;> exact ⟨rfl,rfl,rfl,rfl⟩
theorem RT.Qb (l:Lo):Sm l (RT.scan l).1:=fU (Sm.refl l) (fU (Sm.refl l) (Sm.refl l))
theorem RT.MV (l:Lo):Sm l (RT.bS l).1:=fU (RT.Qb l) (Sm.refl l)
theorem RT.Qc (l:Lo) (w:Wd) (b d:Int):Sm l (RT.bS (RT.note l w b d)).1:=by
 obtain ⟨a1,a2,a3,a4⟩:=RT.MV (RT.note l w b d)
 exact ⟨a1,a2,a3,a4⟩
theorem RT.XZ (l:Lo) (c:Ca):Sm l (RT.begin l c).1 :=
 fU (fU (Sm.refl l) (Sm.refl l))<|fU (RT.MU l 0)<|fU (Sm.refl l)<|fU (Sm.refl l)<|fU (Sm.refl l)<|fU (Sm.refl l)<|fU (fU ⟨rfl,rfl,rfl,rfl⟩ (Sm.refl l))<|fU (fU (Sm.refl l) (Sm.refl l))<|fU (Sm.refl l) <|
  fU (fU (RT.Qc ..)<|fU (Sm.refl l)<|fU (Sm.refl l) (Sm.refl l)) (RT.Qb l)
theorem RT.IB (l:Lo) (r:List Nt):Sm l (RT.dz l r).1:=by cases r <;> exact Sm.refl l
theorem Sm.ok {a b:Lo} (h:Sm a b) (ho:a.OK):b.OK:=⟨by rw [h.af];exact ho.af,by rw [h.me,h.threads];exact ho.me,by rw [h.threads];exact ho.threads,by rw [h.most];exact ho.most⟩
theorem RT.MW {l:Lo} {c:Ca} (h:l.OK):(RT.begin l c).1.OK:=(RT.XZ l c).ok h
theorem RT.CZ {t:RT} (h:t.dB=0):∃x,t=.idle x:=by
 cases t with
 | idle x=>exact ⟨x,rfl⟩
 | _=>cases h
section
variable {p:PS}
theorem qE {s g f:Int} {o w:Wd} (hv:p.has s g f) (hl:p.live s g):p.act ⟨1,s,g,f,o,w⟩=({p with steps:=p.steps+1},some ⟨p.at s f,true⟩):=by
 unfold PS.act
 rw [if_pos (by unfold PS.valid;rw [if_pos (.inl rfl)];exact hv),if_pos (by unfold PS.right;rw [if_neg (show ¬(1:Int)=4 by decide),if_neg (show ¬(1:Int)=5 by decide)];exact hl)]
 rfl
theorem rz {s g f:Int} {o w:Wd} (hv:p.has s g f) (hl:p.live s g):p.act ⟨2,s,g,f,o,w⟩=(PS.put {p with steps:=p.steps+1} s f w,some ⟨Wd.zero,true⟩):=by
 unfold PS.act
 rw [if_pos (by unfold PS.valid;rw [if_pos (.inr (.inl rfl))];exact hv),if_pos (by unfold PS.right;rw [if_neg (show ¬(2:Int)=4 by decide),if_neg (show ¬(2:Int)=5 by decide)];exact hl)]
 rfl
theorem ug {s g f:Int} {o w:Wd} (hv:p.has s g f) (hl:p.live s g):p.act ⟨3,s,g,f,o,w⟩=if gF (p.at s f) o then (PS.put {p with steps:=p.steps+1} s f w,some ⟨p.at s f,true⟩) else ({p with steps:=p.steps+1},some ⟨p.at s f,false⟩):=by
 unfold PS.act
 rw [if_pos (by unfold PS.valid;rw [if_pos (.inr (.inr rfl))];exact hv),if_pos (by unfold PS.right;rw [if_neg (show ¬(3:Int)=4 by decide),if_neg (show ¬(3:Int)=5 by decide)];exact hl)]
 unfold PS.makes
 rw [if_neg (show ¬(3:Int)=4 by decide),if_neg (show ¬(3:Int)=5 by decide),if_neg (show ¬(3:Int)=1 by decide),if_neg (show ¬(3:Int)=2 by decide)]
 by_cases g:gF (p.at s f) o
 ·rw [if_pos g,if_pos (show gF (PS.at {p with steps:=p.steps+1} s f) o from g)]
  rfl
 ·rw [if_neg g,if_neg (show ¬gF (PS.at {p with steps:=p.steps+1} s f) o from g)]
  rfl
theorem Qd {s g f:Int} {o w:Wd}:p.act ⟨4,s,g,f,o,w⟩=((PS.alloc {p with steps:=p.steps+1} w.num).1,some (PS.alloc {p with steps:=p.steps+1} w.num).2):=by
 unfold PS.act
 rw [if_pos (by unfold PS.valid;rw [if_neg (by simp),if_pos rfl];trivial),if_pos (by unfold PS.right;rw [if_pos rfl];trivial)]
 rfl
theorem X0 {s g f:Int} {o w:Wd} (hv:p.is o.slot) (hl:p.live o.slot o.gen):p.act ⟨5,s,g,f,o,w⟩=(PS.free {p with steps:=p.steps+1} o.slot,some ⟨Wd.zero,true⟩):=by
 unfold PS.act
 rw [if_pos (by unfold PS.valid;rw [if_neg (by simp),if_neg (by simp),if_pos rfl];exact hv),if_pos (by unfold PS.right;rw [if_neg (by simp),if_pos rfl];exact hl)]
 rfl
end
structure Wb (k:Int) (w:Wd):Prop where
 s:-2000≤w.slot∧w.slot≤2000
 g:-k≤w.gen∧w.gen≤k
 t:-(2000 * k+3000)≤w.tag∧w.tag≤2000 * k+3000
 n:-(2000 * k+3000)≤w.num∧w.num≤2000 * k+3000
theorem Wb.mono {k k':Int} {w:Wd} (h:Wb k w) (hk:k≤k'):Wb k' w:=by
 obtain ⟨h1,h2,h3,h4⟩:=h
 exact ⟨h1,by omega,by omega,by omega⟩
theorem Wb.zero {k:Int} (h:0≤k):Wb k Wd.zero:=by
 refine ⟨?_,?_,?_,?_⟩ <;> simp [Wd.zero] <;> omega
theorem Wb.num {k n:Int} (h:0≤k) (hn:-(2000 * k+3000)≤n∧n≤2000 * k+3000):Wb k (Wd.dM n):=by
 refine ⟨?_,?_,?_,hn⟩ <;> simp [Wd.dM] <;> omega
theorem Wb.ref {k:Int} {w:Wd} (h0:0≤k) (h:Wb k w):Wb k w.gI:=by
 obtain ⟨h1,h2,h3,h4⟩:=h
 refine ⟨h1,h2,?_,?_⟩ <;> simp [Wd.gI] <;> omega
structure PS.wb (k:Int) (p:PS):Prop where
 bd:∀i,Wb k (p.bd i)
 cell:∀i j,Wb k (p.cell i j)
theorem PS.wb.mono {k k':Int} {p:PS} (h:p.wb k) (hk:k≤k'):p.wb k':=⟨fun i=>(h.bd i).mono hk,fun i j=>(h.cell i j).mono hk⟩
theorem PS.wb.at {k:Int} {p:PS} (h:p.wb k) (s f:Int):Wb k (p.at s f):=by
 unfold PS.at
 split
 ·exact h.bd _
 ·exact h.cell _ _
theorem PS.wb.put {k:Int} {p:PS} (h:p.wb k) {s f:Int} {w:Wd} (hw:Wb k w):(p.put s f w).wb k:=by
 unfold PS.put
 split
 ·refine ⟨fun i=>?_,h.cell⟩
  show Wb k (if i=f.toNat then w else p.bd i)
  split
  ·exact hw
  ·exact h.bd i
 ·refine ⟨h.bd,fun i j=>?_⟩
  show Wb k (if i=(s-1).toNat∧j=f.toNat then w else p.cell i j)
  split
  ·exact hw
  ·exact h.cell i j
theorem PS.wb.act {k:Int} {p:PS} {a:Ac} (h0:0≤k) (h:p.wb k) (hok:p.OK) (hs:p.steps≤k) (ha:Wb (k+1) a.new):(p.act a).1.wb (k+1)∧∀x,(p.act a).2=some x→Wb (k+1) x.word:=by
 have h':p.wb (k+1):=h.mono (by omega)
 have hz:Wb (k+1) Wd.zero:=Wb.zero (by omega)
 unfold PS.act
 by_cases hv:p.valid a
 ·rw [if_pos hv]
  by_cases hr:p.right a
  ·rw [if_pos hr]
   have q:(PS.wb (k+1) {p with steps:=p.steps+1}):=⟨h'.bd,h'.cell⟩
   suffices hm:(PS.makes {p with steps:=p.steps+1} a).1.wb (k+1)∧Wb (k+1) (PS.makes {p with steps:=p.steps+1} a).2.word from ⟨hm.1,fun x hx=>by cases hx;exact hm.2⟩
   unfold PS.makes
   split
   ·unfold PS.alloc
    split
    ·exact ⟨q,hz⟩
    ·rename_i hnf
     have aji:¬p.nf=0:=hnf
     have ajj:=hok.nf
     have hfr:=hok.fr (p.nf-1).toNat (by omega)
     have hg:=hok.gen (p.fr (p.nf-1).toNat-1).toNat
     have hmd:=hok.made
     have hns:=hok.ns
     refine ⟨⟨h'.bd,fun i j=>?_⟩,?_⟩
     ·show Wb (k+1) (if i=(p.fr (p.nf-1).toNat-1).toNat∧j<10 then iM a.new.num j else p.cell i j)
      split
      ·unfold iM
       split
       ·exact ⟨hz.s,hz.g,hz.t,ha.n⟩
       ·exact hz
      ·exact h'.cell i j
     ·refine ⟨?_,?_,?_,?_⟩
      ·show -2000≤p.fr (p.nf-1).toNat∧p.fr (p.nf-1).toNat≤2000
       omega
      ·show -(k+1)≤p.gen (p.fr (p.nf-1).toNat-1).toNat+1∧p.gen (p.fr (p.nf-1).toNat-1).toNat+1≤k+1
       omega
      ·show -(2000 * (k+1)+3000)≤0∧0≤2000 * (k+1)+3000
       omega
      ·show -(2000 * (k+1)+3000)≤0∧0≤2000 * (k+1)+3000
       omega
   split
   ·exact ⟨⟨h'.bd,h'.cell⟩,hz⟩
   split
   ·exact ⟨q,q.at _ _⟩
   split
   ·exact ⟨q.put ha,hz⟩
   split
   ·exact ⟨q.put ha,q.at _ _⟩
   ·exact ⟨q,q.at _ _⟩
  ·rw [if_neg hr]
   refine ⟨⟨h'.bd,h'.cell⟩,fun x hx=>?_⟩
   cases hx
   unfold eD
   split
   ·exact ⟨hz.s,hz.g,hz.t,by show -(2000 * (k+1)+3000)≤-1∧(-1:Int)≤2000 * (k+1)+3000;omega⟩
   ·exact hz
 ·rw [if_neg hv]
  exact ⟨h',fun x hx=>by cases hx⟩
def RT.wb (k:Int):RT→Prop
 | .idle x=>Wb k x.word
 | .one a=>Wb (k+1) a.new
 | .fin a=>Wb (k+1) a.new
 | .ib _ w=>Wb k w
 | .gz _ a=>Wb (k+1) a.new
 | .fB old=>Wb k old
 | .iT old _=>Wb k old
 | .iD c=>Wb k c
 | .fM c _=>Wb k c
 | .jo c=>Wb k c
 | _=>True
structure Lo.wb (k:Int) (l:Lo):Prop where
 h:∀i,Wb k (l.h i)
 lo:-(2000 * k+3000)≤l.s.low∧l.s.low≤2000 * k+3000
 hi:-(2000 * k+3000)≤l.s.high∧l.s.high≤2000 * k+3000
structure vZ (k:Int) (q:LR):Prop where
 l:q.1.wb k
 t:q.2.wb k
section
variable {k:Int} {l:Lo}
theorem Lo.wb.mono {k':Int} (h:l.wb k) (hk:k≤k'):l.wb k':=⟨fun i=>(h.h i).mono hk,by have:=h.lo;omega,by have:=h.hi;omega⟩
theorem Lo.wb.hold (h:l.wb k) {w:Wd} (hw:Wb k w) (n:Int):(l.hold n w).wb k:=by
 refine ⟨fun i=>?_,h.lo,h.hi⟩
 show Wb k (if i=n.toNat then w else l.h i)
 split
 ·exact hw
 ·exact h.h i
theorem fV {c:Prop} [Decidable c] {a b:LR} (h1:c→vZ k a) (h2:¬c→vZ k b):vZ k (if c then a else b):=by
 split
 ·exact h1 (by assumption)
 ·exact h2 (by assumption)
theorem Qe (h0:0≤k) {s:Sp} (h1:-(2000 * k+3000)≤s.low∧s.low≤2000 * k+3000) (h2:-(2000 * k+3000)≤s.high∧s.high≤2000 * k+3000):Wb k (RS.yR s):=by
 unfold RS.yR
 split
 ·refine ⟨?_,?_,h2,h1⟩
  ·show (-2000:Int)≤0∧(0:Int)≤2000
   exact ⟨by decide,by decide⟩
  ·show -k≤0∧0≤k
   omega
 ·exact Wb.zero h0
theorem MX (h0:0≤k) (h:l.wb k) (n:Int):vZ k (RT.leave l n):=by
 have hz:∀{k:Int},0≤k→Wb k Wd.zero:=Wb.zero
 unfold RT.leave
 refine fV (fun _=>⟨⟨h.h,by show -(2000 * k+3000)≤0∧0≤2000 * k+3000;omega,by show -(2000 * k+3000)≤0∧0≤2000 * k+3000;omega⟩,?_⟩) fun _=>fV (fun _=>?_) fun _=>⟨h,hz h0⟩
 ·exact hz (by omega)
 ·split
  ·exact ⟨h.hold (hz h0) _,trivial⟩
  ·exact ⟨h,hz h0⟩
theorem Qf (h0:0≤k) (h:l.wb k):vZ k (RT.scan l):=by
 unfold RT.scan
 exact fV (fun _=>⟨h,Wb.zero h0⟩) fun _=>fV (fun _=>⟨h,trivial⟩) fun _=>⟨h,Wb.zero h0⟩
theorem Ey (h0:0≤k) (h:l.wb k):vZ k (RT.bS l):=by
 unfold RT.bS
 exact fV (fun _=>Qf h0 h) fun _=>⟨h,Wb.zero h0⟩
theorem UZ (h0:0≤k) (h:l.wb k) {w:Wd} (hw:Wb k w):vZ k (RT.eQ l w):=by
 unfold RT.eQ
 exact fV (fun _=>Ey h0 ⟨h.h,h.lo,h.hi⟩) fun _=>fV (fun _=>⟨h,hw⟩) fun _=>fV (fun _=>⟨h,hw⟩) fun _=>⟨h,Wb.zero h0⟩
theorem X3 (h0:0≤k) (h:l.wb k) {c:Ca} (hn:Wb (k+1) c.new) (ho:Wb k c.old):vZ k (RT.begin l c):=by
 have hz:∀{k:Int},0≤k→Wb k Wd.zero:=Wb.zero
 unfold RT.begin
 refine fV (fun _=>fV (fun _=>⟨h,trivial⟩) fun _=>⟨h,hz h0⟩) fun _=>fV (fun _=>MX h0 h 0) fun _=>fV (fun _=>⟨h,?_⟩) fun _=>fV (fun _=>⟨h,hn⟩) fun _=>fV (fun _=>⟨h,hn⟩) fun _=>fV (fun _=>⟨h,trivial⟩) fun _ =>
  fV (fun _=>fV (fun _=>⟨h.hold (h.h _) _,(h.h _).mono (by omega)⟩) fun _=>⟨h,hz h0⟩) fun _=>fV (fun _=>fV (fun _=>⟨h,trivial⟩) fun _=>⟨h,?_⟩) fun _=>fV (fun _=>⟨h,?_⟩) fun _=>fV (fun _=>UZ h0 h ho) fun _=>Qf h0 h
 ·exact hz (by omega)
 ·exact hz (by omega)
 ·exact hz (by omega)
theorem IC (h0:0≤k) (h:l.wb k) (r:List Nt):vZ k (RT.dz l r):=by
 cases r
 ·exact ⟨h,Wb.zero h0⟩
 ·exact ⟨h,trivial⟩
theorem aby (h0:0≤k) (h:l.wb k) {t:RT} (ht:t.wb k) {x:Rp} (hx:Wb (k+1) x.word):vZ (k+1) (RT.aG l t x):=by
 have h':l.wb (k+1):=h.mono (by omega)
 have hz:∀{k:Int},0≤k→Wb k Wd.zero:=Wb.zero
 have hz1:Wb (k+1) Wd.zero:=hz (by omega)
 have xn:-(2000 * (k+1)+3000)≤x.word.num∧x.word.num≤2000 * (k+1)+3000:=hx.n
 have hs:Wb (k+1) (Wd.dM x.word.num):=Wb.num (by omega) xn
 cases t with
 | idle y=>exact ⟨h',Wb.mono ht (by omega)⟩
 | one a=>exact ⟨h',hx⟩
 | fin a=>exact ⟨h',hz1⟩
 | lC=>exact ⟨⟨h'.h,xn,xn⟩,(Qe (k:=k+1) (s:=⟨true,x.word.num,x.word.num⟩) (by omega) xn xn).mono (by omega)⟩
 | ik i=>exact MX (by omega) h' _
 | bW c =>
  exact fV (fun _=>⟨h',hx⟩) fun _=>fV (fun _=>⟨h'.hold (hx.ref (by omega)) _,(hx.ref (by omega):Wb (k+1) _).mono (by omega)⟩) fun _=>⟨h',hx⟩
 | ib c w =>
  refine fV (fun _=>⟨h',Wb.mono ht (by omega)⟩) fun _=>fV (fun _=>⟨h'.hold hs _,hs.mono (by omega)⟩) fun _=>?_
  have hl:-(2000 * (k+1)+3000)≤(if l.s.is=true then l.s.low else x.word.num)∧(if l.s.is=true then l.s.low else x.word.num)≤2000 * (k+1)+3000:=by
   split
   ·exact h'.lo
   ·exact xn
  exact ⟨⟨h'.h,hl,xn⟩,(Qe (k:=k+1) (s:=⟨true,if l.s.is=true then l.s.low else x.word.num,x.word.num⟩) (by omega) hl xn).mono (by omega)⟩
 | gz c a=>exact ⟨h',trivial⟩
 | lT=>exact ⟨h',hs.mono (by omega)⟩
 | fB old=>exact ⟨h',Wb.mono ht (by omega)⟩
 | iT old b=>exact fV (fun _=>⟨⟨h'.h,h'.lo,h'.hi⟩,hx⟩) fun _=>Ey (by omega) ⟨h'.h,h'.lo,h'.hi⟩
 | iD c=>exact Ey (by omega) h'
 | kT=>exact ⟨h',hx⟩
 | fM c seen =>
  exact fV (fun _=>⟨h',Wb.mono ht (by omega)⟩) fun _=>fV (fun _=>IC (by omega) h' _) fun _=>fV (fun _=>⟨h',Wb.mono ht (by omega)⟩) fun _=>⟨h',trivial⟩
 | jo c=>exact ⟨h',trivial⟩
 | fG=>exact IC (by omega) h' _
 | iA d r=>exact IC (l:={l with notes:=l.notes.erase d,freed:=l.freed+1}) (by omega) ⟨h'.h,h'.lo,h'.hi⟩ r
theorem adn (h0:0≤k) {t:RT} (ht:t.wb k) (h:l.wb k):Wb (k+1) (t.acc l).new:=by
 have hz:Wb (k+1) Wd.zero:=Wb.zero (by omega)
 have eB:∀{c:Wd},Wb k c→Wb (k+1) ⟨0,0,c.tag+1,c.num+1,false⟩:=fun {c} hc=>by
  obtain ⟨a,b,d,e⟩:=hc
  refine ⟨⟨by show (-2000:Int)≤0;decide,by show (0:Int)≤2000;decide⟩,?_,?_,?_⟩
  ·show -(k+1)≤0∧0≤k+1
   omega
  ·show -(2000 * (k+1)+3000)≤c.tag+1∧c.tag+1≤2000 * (k+1)+3000
   omega
  ·show -(2000 * (k+1)+3000)≤c.num+1∧c.num+1≤2000 * (k+1)+3000
   omega
 cases t with
 | one a=>exact ht
 | fin a=>exact ht
 | gz c a=>exact ht
 | iD c=>exact eB ht
 | jo c=>exact eB ht
 | _=>exact hz
end
end Go.Proofs.YthomdlajobnmnaaGreatDoor
