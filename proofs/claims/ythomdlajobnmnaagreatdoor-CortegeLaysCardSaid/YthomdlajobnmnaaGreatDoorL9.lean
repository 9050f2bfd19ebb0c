/- part 9 of the proof -/
import Derived.ProofKit
import Derived.Deep.Slices
import Derived.OpenShut
import Derived.Test.YthomdlajobnmnaaGreatDoorL8
set_option linter.unusedSimpArgs false
set_option linter.unusedVariables false
namespace Go.Rex
open Go.WideShapes Go.ChangeShapes Go.RowKit
inductive FK where
 | int (k:IntKind) | bool | sl (e:TypeId) (ks:List Kd)
 deriving Inhabited
def tZ:List FK→Option (List Kd)
 | []=>some []
 | .int k :: r=>(tZ r).map (.int k :: ·)
 | .bool :: r=>(tZ r).map (.bool :: ·)
 | .sl _ _ :: _=>none
mutual
def flat (P:Program):Nat→TypeId→Option (List FK)
 | 0,_=>none
 | n+1,t =>
  match P.underlying t with
  | some (.int k)=>some [.int k]
  | some .bool=>some [.bool]
  | some (.slice e) =>
   match flat P n e with
   | some l=>match tZ l with
    | some ks=>if P.cellsOf e == l.length then some [.sl e ks] else none
    | none=>none
   | none=>none
  | some (.struct fs)=>match vD P n fs.toList 0 with | some l=>if P.cellsOf t == l.length then some l else none | none=>none
  | some (.array m e)=>match flat P n e with | some l=>if P.cellsOf e == l.length && P.cellsOf t == m * l.length then some ((List.replicate m l).flatten) else none | none=>none
  | _=>none
def vD (P:Program):Nat→List Field→Nat→Option (List FK)
 | 0,_,_=>none
 | _,[],_=>some []
 | n+1,f :: r,off =>
  match flat P n f.type with
  | some l=>if f.offset == off && P.cellsOf f.type == l.length then (vD P n r (off+l.length)).map (l ++ ·) else none
  | none=>none
end
def N9 (v:Value):Kd→Prop
 | .int k=>∃n,v=.int k n∧k.min≤n∧n≤k.max
 | .bool=>∃b,v=.bool b
 | .val=>False
def abu (w:World) (v:Value):FK→Prop
 | .int k=>∃n,v=.int k n∧k.min≤n∧n≤k.max
 | .bool=>∃b,v=.bool b
 | .sl _ ks=>v=.slice none 0 0∨∃(a:Addr) (len cap:Nat),v=.slice (some a) len cap∧len≤cap∧cap≤maxLen∧∀i j k,i<len→ks[j]?=some k→∃u,w.cell? (a.add (i * ks.length+j))=some u∧N9 u k
def jd (w:World):List Value→List FK→Prop
 | [],[]=>True
 | c :: r,k :: s=>abu w c k∧jd w r s
 | _,_=>False
theorem jd.append {w:World}:∀{a b:List Value} {l m:List FK},jd w a l→jd w b m→jd w (a ++ b) (l ++ m)
 | [],_,[],_,_,h=>h
 | _ :: _,_,_ :: _,_,h,h'=>⟨h.1,jd.append h.2 h'⟩
 | [],_,_ :: _,_,h,_=>h.elim
 | _ :: _,_,[],_,h,_=>h.elim
theorem jd.length {w:World}:∀{a:List Value} {l:List FK},jd w a l→a.length=l.length
 | [],[],_=>rfl
 | _ :: _,_ :: _,h=>by simp [jd.length h.2]
 | [],_ :: _,h=>h.elim
 | _ :: _,[],h=>h.elim
theorem Ct {w:World}:∀{cs:List Value} {l:List FK} {ks:List Kd},tZ l=some ks→jd w cs l→ks.length=l.length∧∀(j:Nat) (k:Kd),ks[j]?=some k→∃u,cs[j]?=some u∧N9 u k
 | [],[],ks,h,_=>by simp [tZ] at h;subst h;exact ⟨rfl,fun j k h=>by simp at h⟩
 | [],_ :: _,_,_,h=>h.elim
 | _ :: _,[],_,_,h=>h.elim
 | c :: r,.int k0 :: s,ks,h,hf=>by
  simp only [tZ,Option.map_eq_some_iff] at h
  obtain ⟨q,hq,rfl⟩:=h
  obtain ⟨h1,h2⟩:=Ct hq hf.2
  refine ⟨by simp [h1],fun j k hj=>?_⟩
  cases j with
  | zero=>simp at hj;subst hj;exact ⟨c,rfl,hf.1⟩
  | succ j=>simpa using h2 j k (by simpa using hj)
 | c :: r,.bool :: s,ks,h,hf=>by
  simp only [tZ,Option.map_eq_some_iff] at h
  obtain ⟨q,hq,rfl⟩:=h
  obtain ⟨h1,h2⟩:=Ct hq hf.2
  refine ⟨by simp [h1],fun j k hj=>?_⟩
  cases j with
  | zero=>simp at hj;subst hj;exact ⟨c,rfl,hf.1⟩
  | succ j=>simpa using h2 j k (by simpa using hj)
 | c :: r,.sl _ _ :: s,ks,h,hf=>by simp [tZ] at h
section
variable {H:Type} {enc:TypeId × Value→H} {P:Program} {w:World} {base:Nat} {spare:Nat→Bool} {held:Bool}
theorem WH:∀(n:Nat),(∀(t:TypeId) (l:List FK) (fuel:Nat) (cs:List Value) (x:DataW H × List MemPlace),flat P n t=some l→DataW.trod enc P w base spare held fuel t cs=some x→jd w cs l) ∧
  (∀(fs:List Field) (off:Nat) (l:List FK) (cs:List Value),vD P n fs off=some l→cs.length=off+l.length →
    (∀f∈fs,∃(fuel:Nat) (x:DataW H × List MemPlace),DataW.trod enc P w base spare held fuel f.type ((cs.drop f.offset).take (P.cellsOf f.type))=some x)→jd w (cs.drop off) l):=by
 intro n
 induction n with
 | zero=>exact ⟨fun t l fuel cs x h=>by simp [flat] at h,fun fs off l cs h=>by simp [vD] at h⟩
 | succ n ih =>
  refine ⟨fun t l fuel cs x h ht=>?_,fun fs off l cs h hl hfs=>?_⟩
  ·unfold flat at h
   split at h
   ·rename_i k hu
    simp at h
    subst h
    cases fuel with
    | zero=>simp [DataW.trod] at ht
    | succ fuel =>
     unfold DataW.trod at ht
     rw [hu] at ht
     split at ht <;> try cases ht
     all_goals rename_i he
     all_goals try (simp at he;done)
     split at ht
     ·rename_i hc
      simp at he
      subst he
      obtain ⟨rfl,hwf⟩:=hc
      simp only [Lit.wf,Bool.and_eq_true,decide_eq_true_eq] at hwf
      exact ⟨⟨_,rfl,hwf.1,hwf.2⟩,trivial⟩
     ·cases ht
   ·rename_i hu
    simp at h
    subst h
    cases fuel with
    | zero=>simp [DataW.trod] at ht
    | succ fuel =>
     unfold DataW.trod at ht
     rw [hu] at ht
     split at ht <;> try cases ht
     all_goals rename_i he
     all_goals try (simp at he;done)
     exact ⟨⟨_,rfl⟩,trivial⟩
   ·rename_i e hu
    split at h
    case h_2=>cases h
    rename_i le hle
    split at h
    case h_2=>cases h
    rename_i ks hks
    split at h
    case isFalse=>cases h
    rename_i hc
    simp only [beq_iff_eq] at hc
    simp at h
    subst h
    rcases Go.Deep.open_slice hu ht with ⟨rfl,-⟩ | ⟨a,len,cap,m,fl,D,Pl,rfl,hb,hlc,hcm,hm,-,hi⟩
    ·exact ⟨.inl rfl,trivial⟩
    ·refine ⟨.inr ⟨a,len,cap,rfl,hlc,hcm,fun i j k hil hj=>?_⟩,trivial⟩
     have him:i<m:=by
      rw [hm]
      split
      ·omega
      ·exact hil
     obtain ⟨cs',hcs,htr⟩:=hi i him
     obtain ⟨_,hcl,hat⟩:=World.cells?_some hcs
     have hfit:=ih.1 e le fl cs' _ hle htr
     obtain ⟨h1,h2⟩:=Ct hks hfit
     obtain ⟨u,hu1,hu2⟩:=h2 j k hj
     have hjl:j<P.cellsOf e:=by
      have:=(List.getElem?_eq_some_iff.1 hj).1
      omega
     refine ⟨u,?_,hu2⟩
     have:=hat j hjl
     rw [hu1,hc,←h1,Addr.add_add] at this
     exact this
   ·rename_i fs hu
    split at h
    case h_2=>cases h
    rename_i l' hl'
    split at h
    case isFalse=>cases h
    rename_i hc
    simp only [beq_iff_eq] at hc
    simp at h
    subst h
    obtain ⟨xs,m,-,-,hlen,hxl,hf⟩:=DataW.trod_struct hu ht
    have:=ih.2 fs.toList 0 l' cs hl' (by omega) (fun f hm=>by
      obtain ⟨i,hi,he⟩:=List.getElem_of_mem hm
      have hfi:fs[i]?=some f:=by
        rw [←Array.getElem?_toList,List.getElem?_eq_getElem hi,he]
      have hil:i<xs.length:=by rw [hxl];simpa using hi
      exact ⟨m,xs[i],by rw [hf i f hfi,List.getElem?_eq_getElem hil]⟩)
    simpa using this
   ·rename_i m e hu
    split at h
    case h_2=>cases h
    rename_i le hle
    split at h
    case isFalse=>cases h
    rename_i hc
    simp only [Bool.and_eq_true,beq_iff_eq] at hc
    simp at h
    subst h
    obtain ⟨xs,fl,-,-,hlen,hxl,hf⟩:=DataW.trod_array hu ht
    have key:∀q,q≤m→jd w (cs.drop ((m-q) * le.length)) ((List.replicate q le).flatten):=by
     intro q
     induction q with
     | zero =>
      intro _
      have:cs.drop ((m-0) * le.length)=[]:=by
       apply List.drop_eq_nil_of_le
       rw [Nat.sub_zero]
       omega
      rw [this]
      trivial
     | succ q ihq =>
      intro hq
      have h1:=ihq (by omega)
      have hi:m-(q+1)<m:=by omega
      have h2:=hf (m-(q+1)) hi
      have hil:m-(q+1)<xs.length:=by rw [hxl];exact hi
      rw [List.getElem?_eq_getElem hil,hc.1] at h2
      have h3:=ih.1 e le fl _ _ hle h2
      have e1:cs.drop ((m-(q+1)) * le.length)=(cs.drop ((m-(q+1)) * le.length)).take le.length ++ cs.drop ((m-q) * le.length):=by
       have:(m-q) * le.length=(m-(q+1)) * le.length+le.length:=by rw [show m-q=(m-(q+1))+1 by omega,Nat.add_mul];omega
       rw [this,←List.drop_drop,List.take_append_drop]
      rw [e1,List.replicate_succ,List.flatten_cons]
      exact jd.append h3 h1
    have:=key m (Nat.le_refl m)
    simpa using this
   ·cases h
  ·cases fs with
   | nil =>
    simp [vD] at h
    subst h
    have:cs.drop off=[]:=List.drop_eq_nil_of_le (by simp at hl;omega)
    rw [this]
    trivial
   | cons f r =>
    simp only [vD] at h
    split at h
    case h_2=>cases h
    rename_i l0 hl0
    split at h
    case isFalse=>cases h
    rename_i hc
    simp only [Bool.and_eq_true,beq_iff_eq] at hc
    simp only [Option.map_eq_some_iff] at h
    obtain ⟨l1,hl1,rfl⟩:=h
    obtain ⟨fuel,x,htr⟩:=hfs f (List.mem_cons_self ..)
    have h1:=ih.1 f.type l0 fuel _ x hl0 htr
    have h2:=ih.2 r (off+l0.length) l1 cs hl1 (by simp at hl;omega) (fun g hg=>hfs g (List.mem_cons_of_mem _ hg))
    rw [hc.1,hc.2] at h1
    have e1:cs.drop off=(cs.drop off).take l0.length ++ cs.drop (off+l0.length):=by
     rw [←List.drop_drop,List.take_append_drop]
    rw [e1]
    exact jd.append h1 h2
end
end Go.Rex
namespace Go.Rex
open Go.WideShapes Go.ChangeShapes Go.RowKit
def qO:List FK→Nat→Nat→List SC × List SB × Nat
 | [],nv,_=>([],[],nv)
 | .int k :: r,nv,nb=>let x:=qO r (nv+1) nb;(.int k (.var nv) :: x.1,x.2.1,x.2.2)
 | .bool :: r,nv,nb=>let x:=qO r (nv+1) nb;(.bool (.var nv) :: x.1,x.2.1,x.2.2)
 | .sl e ks :: r,nv,nb =>
  let x:=qO r (nv+4) (nb+1)
  (.eU (.var nv) {aC:=nb,i1:=.lit 0,s1:=ks.length} (.var (nv+1)) (.var (nv+2)) :: x.1,
   {t:=e,aX:=[{r:=nv+3,n1:=.var (nv+1),s1:=ks.length,ks:=ks}],ro:=true,nl:=.var nv} :: x.2.1,x.2.2)
def WI (ρ:Env) (r:Nat) (n:Int) (ks:List Kd):Prop:=∀(i j:Nat) (k:IntKind),(i:Int)<n→ks[j]?=some (.int k)→k.min≤ρ.ic r i 0 j∧ρ.ic r i 0 j≤k.max
def Cu:List FK→Nat→Env→Prop
 | [],_,_=>True
 | .int k :: r,nv,ρ=>(k.min≤ρ.iv nv∧ρ.iv nv≤k.max)∧Cu r (nv+1) ρ
 | .bool :: r,nv,ρ=>Cu r (nv+1) ρ
 | .sl _ ks :: r,nv,ρ=>((ρ.bv nv=true→ρ.iv (nv+1)=0∧ρ.iv (nv+2)=0)∧0≤ρ.iv (nv+1)∧ρ.iv (nv+1)≤ρ.iv (nv+2)∧ρ.iv (nv+2)≤9223372036854775807∧WI ρ (nv+3) (ρ.iv (nv+1)) ks)∧Cu r (nv+4) ρ
theorem wY:∀{l:List FK} {nv:Nat} {ρ:Env},Cu l nv ρ→Cu l nv ρ.num
 | [],_,_,_=>trivial
 | .int _ :: _,_,_,h=>⟨h.1,wY h.2⟩
 | .bool :: r,_,_,h=>wY (l:=r) h
 | .sl _ _ :: _,_,_,h=>⟨h.1,wY h.2⟩
def J5:Value→Int
 | .int _ n=>n
 | _=>0
def MC:Value→Bool
 | .bool b=>b
 | _=>false
def Oa (ρ:Env) (ν:Nat→Addr) (w:World) (k:Nat) (sb:SB):Prop :=
 (sb.ro=true∧sb.own=false)∧(sb.dead ρ=false→wm sb w (ν k).block∧∃arr:Array Value,sb.has ρ ν arr∧∀p v,arr[p]?=some v→w.cell? ((ν k).add p)=some v)
theorem Et {w:World}:∀{cs:List Value} {l:List FK},jd w cs l→(∀(a:Addr) (len cap:Nat),Value.slice (some a) len cap∈cs→a.block<w.heap.size)→∀(nv nb:Nat) (ρ:Env) (ν:Nat→Addr),
  ∃ρ' aI,dC nv nb ρ ρ' ν aI∧(qO l nv nb).1.map (·.den ρ' aI)=cs∧(∀(i:Nat) (sb:SB),(qO l nv nb).2.1[i]?=some sb→Oa ρ' aI w (nb+i) sb)∧Cu l nv ρ'
 | [],[],_,_,nv,nb,ρ,ν=>⟨ρ,ν,dC.refl _ _ _ _,rfl,fun i sb h=>by simp [qO] at h,trivial⟩
 | [],_ :: _,h,_,_,_,_,_=>h.elim
 | _ :: _,[],h,_,_,_,_,_=>h.elim
 | c :: r,.int k :: s,h,hb,nv,nb,ρ,ν=>by
  obtain ⟨⟨n,rfl,h1,h2⟩,h3⟩:=h
  obtain ⟨ρ',aI,hA,hc,hB,hp⟩:=Et h3 (fun a len cap hm=>hb a len cap (List.mem_cons_of_mem _ hm)) (nv+1) nb {ρ with iv:=fun i=>if i=nv then n else ρ.iv i} ν
  have e:ρ'.iv nv=n:=by rw [hA.iv nv (by omega)];simp
  refine ⟨ρ',aI,⟨fun i hi=>?_,fun i hi=>hA.bv i (by omega),fun i hi=>hA.vv i (by omega),fun i hi=>hA.ic i (by omega),fun i hi=>hA.bc i (by omega),fun i hi=>hA.vc i (by omega),hA.bl⟩,?_,hB,⟨by rw [e];exact ⟨h1,h2⟩,hp⟩⟩
  ·rw [hA.iv i (by omega)];simp [show i≠nv by omega]
  ·simp only [qO,List.map_cons,SC.den,IE.den,e,hc]
 | c :: r,.bool :: s,h,hb,nv,nb,ρ,ν=>by
  obtain ⟨⟨b,rfl⟩,h3⟩:=h
  obtain ⟨ρ',aI,hA,hc,hB,hp⟩:=Et h3 (fun a len cap hm=>hb a len cap (List.mem_cons_of_mem _ hm)) (nv+1) nb {ρ with bv:=fun i=>if i=nv then b else ρ.bv i} ν
  have e:ρ'.bv nv=b:=by rw [hA.bv nv (by omega)];simp
  refine ⟨ρ',aI,⟨fun i hi=>hA.iv i (by omega),fun i hi=>?_,fun i hi=>hA.vv i (by omega),fun i hi=>hA.ic i (by omega),fun i hi=>hA.bc i (by omega),fun i hi=>hA.vc i (by omega),hA.bl⟩,?_,hB,hp⟩
  ·rw [hA.bv i (by omega)];simp [show i≠nv by omega]
  ·simp only [qO,List.map_cons,SC.den,BE.den,e,hc]
 | c :: r,.sl el ks :: s,h,hb,nv,nb,ρ,ν=>by
  obtain ⟨hc0,h3⟩:=h
  obtain ⟨bn,len,cap,f,a,hcv,hnil,hlc,hcm,hcell,hblk⟩:∃(bn:Bool) (len cap:Nat) (f:Nat→Nat→Value) (a:Addr),c=(if bn=true then .slice none 0 0 else .slice (some a) len cap)∧(bn=true→len=0∧cap=0)∧len≤cap∧cap≤maxLen ∧
    (bn=false→∀i j k,i<len→ks[j]?=some k→w.cell? (a.add (i * ks.length+j))=some (f i j)∧N9 (f i j) k)∧(bn=false→a.block<w.heap.size):=by
   rcases hc0 with rfl | ⟨a,len,cap,rfl,h1,h2,h4⟩
   ·exact ⟨true,0,0,fun _ _=>undef,⟨0,0,none⟩,by simp,fun _=>⟨rfl,rfl⟩,Nat.le_refl _,Nat.zero_le _,(fun h=>by cases h),(fun h=>by cases h)⟩
   ·refine ⟨false,len,cap,fun i j=>(w.cell? (a.add (i * ks.length+j))).getD undef,a,by simp,(fun h=>by cases h),h1,h2,fun _ i j k hi hj=>?_,fun _=>hb a len cap (List.mem_cons_self ..)⟩
    obtain ⟨u,hu1,hu2⟩:=h4 i j k hi hj
    have e:(w.cell? (a.add (i * ks.length+j))).getD undef=u:=by rw [hu1];rfl
    simp only [e]
    exact ⟨hu1,hu2⟩
  obtain ⟨ρ',aI,hA,hc,hB,hp⟩:=Et h3 (fun a len cap hm=>hb a len cap (List.mem_cons_of_mem _ hm)) (nv+4) (nb+1)
   {ρ with iv:=fun i=>if i=nv+1 then (len:Int) else if i=nv+2 then (cap:Int) else ρ.iv i,bv:=fun i=>if i=nv then bn else ρ.bv i,
            ic:=fun x=>if x=nv+3 then fun i _ j=>J5 (f i j) else ρ.ic x,bc:=fun x=>if x=nv+3 then fun i _ j=>MC (f i j) else ρ.bc x}
   (fun k=>if k=nb then a else ν k)
  have e0:ρ'.bv nv=bn:=by rw [hA.bv nv (by omega)];simp
  have e1:ρ'.iv (nv+1)=(len:Int):=by rw [hA.iv (nv+1) (by omega)];simp
  have e2:ρ'.iv (nv+2)=(cap:Int):=by rw [hA.iv (nv+2) (by omega)];simp
  have e3:ρ'.ic (nv+3)=fun i _ j=>J5 (f i j):=by rw [hA.ic (nv+3) (by omega)];simp
  have e4:ρ'.bc (nv+3)=fun i _ j=>MC (f i j):=by rw [hA.bc (nv+3) (by omega)];simp
  have e5:aI nb=a:=by rw [hA.bl nb (by omega)];simp
  refine ⟨ρ',aI,⟨fun i hi=>?_,fun i hi=>?_,fun i hi=>hA.vv i (by omega),fun i hi=>?_,fun i hi=>?_,fun i hi=>hA.vc i (by omega),fun i hi=>?_⟩,?_,fun i sb hi=>?_,⟨?_,hp⟩⟩
  ·rw [hA.iv i (by omega)];simp [show i≠nv+1 by omega,show i≠nv+2 by omega]
  ·rw [hA.bv i (by omega)];simp [show i≠nv by omega]
  ·rw [hA.ic i (by omega)];simp [show i≠nv+3 by omega]
  ·rw [hA.bc i (by omega)];simp [show i≠nv+3 by omega]
  ·rw [hA.bl i (by omega)];simp [show i≠nb by omega]
  ·simp only [qO,List.map_cons,hc]
   congr 1
   rw [hcv]
   simp only [SC.den,BE.den,IE.den,SA.den,SA.off,e0,e1,e2,e5,Int.toNat_natCast]
   simp [Addr.add_zero]
  ·cases i with
   | succ i =>
    have:=hB i sb (by simpa [qO] using hi)
    rw [show nb+(i+1)=nb+1+i by omega]
    exact this
   | zero =>
    simp [qO] at hi
    subst hi
    refine ⟨⟨rfl,rfl⟩,fun hd=>?_⟩
    have hbn:bn=false:=by simpa [SB.dead,BE.den,e0] using hd
    rw [show nb+0=nb from rfl,e5]
    refine ⟨⟨hblk hbn,fun h=>(by cases h)⟩,((List.range (len * ks.length)).map fun p=>f (p / ks.length) (p % ks.length)).toArray,⟨fun u hu=>(by cases hu),fun h=>(by cases h),fun _ _ h=>(by cases h),fun p c hp=>(by simp at hp),fun gi g hg i1 i2 j h1 h2 h3=>?_⟩,fun p v hp=>?_⟩
    ·cases gi with
     | succ gi=>simp at hg
     | zero =>
      simp at hg
      subst hg
      simp only [IE.den,e1] at h1 h2 h3 ⊢
      have hi2:i2=0:=by omega
      subst hi2
      obtain ⟨k,hk⟩:∃k,ks[j]?=some k:=⟨_,List.getElem?_eq_getElem h3⟩
      have hlt:i1 * ks.length+j<len * ks.length:=by
       have:(i1+1) * ks.length≤len * ks.length:=Nat.mul_le_mul_right _ (by omega)
       rw [Nat.add_mul] at this
       omega
      obtain ⟨-,hfit⟩:=hcell hbn i1 j k (by omega) hk
      have q1:(i1 * ks.length+j) / ks.length=i1:=by rw [Nat.mul_comm,Nat.mul_add_div (by omega),Nat.div_eq_of_lt h3,Nat.add_zero]
      have q2:(i1 * ks.length+j) % ks.length=j:=by rw [Nat.mul_comm,Nat.mul_add_mod,Nat.mod_eq_of_lt h3]
      rw [show i1 * ks.length+0 * 0+0+j=i1 * ks.length+j by omega]
      simp only [dm,List.getElem?_toArray,List.getElem?_map,List.getElem?_range hlt,Option.map_some,q1,q2,Option.some.injEq]
      rw [ae.Ak _ rfl]
      simp only [hk,e3,e4]
      cases k with
      | int kk=>obtain ⟨n,hn,-⟩:=hfit;rw [hn];rfl
      | bool=>obtain ⟨b,hn⟩:=hfit;rw [hn];rfl
      | val=>exact hfit.elim
    ·simp only [List.getElem?_toArray,List.getElem?_map,Option.map_eq_some_iff] at hp
     obtain ⟨q,hq,rfl⟩:=hp
     have Vq:=(List.getElem?_eq_some_iff.1 hq).1
     rw [List.length_range] at Vq
     rw [List.getElem?_range Vq] at hq
     simp at hq
     subst hq
     have hs:0<ks.length:=by
      rcases Nat.eq_zero_or_pos ks.length with h0 | h0
      ·rw [h0] at Vq;omega
      ·exact h0
     have hj:p % ks.length<ks.length:=Nat.mod_lt _ hs
     obtain ⟨k,hk⟩:∃k,ks[p % ks.length]?=some k:=⟨_,List.getElem?_eq_getElem hj⟩
     obtain ⟨q1,-⟩:=hcell hbn (p / ks.length) (p % ks.length) k ((Nat.div_lt_iff_lt_mul hs).2 Vq) hk
     rw [show p / ks.length * ks.length+p % ks.length=p by rw [Nat.mul_comm];exact Nat.div_add_mod p ks.length] at q1
     exact q1
  ·refine ⟨fun h=>?_,by rw [e1];omega,by rw [e1,e2];omega,by rw [e2];simp only [maxLen] at hcm;omega,fun i j k hi hj=>?_⟩
   ·obtain ⟨q1,q2⟩:=hnil (by rw [←e0];exact h)
    rw [e1,e2,q1,q2];exact ⟨rfl,rfl⟩
   ·rw [e1] at hi
    cases hbn:bn with
    | true =>
     obtain ⟨q1,-⟩:=hnil hbn
     omega
    | false =>
     obtain ⟨-,hfit⟩:=hcell hbn i j _ (by omega) hj
     obtain ⟨n,hn,h5,h6⟩:=hfit
     rw [e3]
     simp only [hn,J5]
     exact ⟨h5,h6⟩
def vE:List (Bool × Nat)→List SC→List SW
 | [],_=>[]
 | (g,n) :: r,cs=>(if g then .agg (cs.take n) else .one (cs.headD .hole)) :: vE r (cs.drop n)
theorem Eu {ρ:Env} {ν:Nat→Addr}:∀{vs:List Value} {sh:List (Bool × Nat)} {cs:List SC},vs.length=sh.length →
  (∀(i:Nat) (v:Value) (g:Bool) (n:Nat),vs[i]?=some v→sh[i]?=some (g,n)→v.cells.size=n∧(if g then v=.agg v.cells else v.cells=#[v])) →
  cs.map (·.den ρ ν)=vs.flatMap (fun v=>v.cells.toList)→(vE sh cs).map (·.den ρ ν)=vs
 | [],[],cs,_,_,_=>by simp [vE]
 | [],_ :: _,_,h,_,_=>by simp at h
 | _ :: _,[],_,h,_,_=>by simp at h
 | v :: r,(g,n) :: s,cs,hl,hv,hc=>by
  obtain ⟨h1,h2⟩:=hv 0 v g n rfl rfl
  have h3:(cs.take n).map (·.den ρ ν)=v.cells.toList:=by
   rw [List.map_take,hc,List.flatMap_cons,←h1,←Array.length_toList,List.take_left]
  have h4:(cs.drop n).map (·.den ρ ν)=r.flatMap (fun v=>v.cells.toList):=by
   rw [List.map_drop,hc,List.flatMap_cons,←h1,←Array.length_toList,List.drop_left]
  have ih:=Eu (vs:=r) (sh:=s) (cs:=cs.drop n) (by simpa using hl) (fun i v' g' n' hi hs=>hv (i+1) v' g' n' (by simpa using hi) (by simpa using hs)) h4
  simp only [vE,List.map_cons,ih]
  congr 1
  cases g with
  | true =>
   simp only [if_true] at h2 ⊢
   simp only [SW.den,h3]
   exact h2.symm
  | false =>
   simp only [Bool.false_eq_true,if_false] at h2 ⊢
   rw [h2] at h3 h1
   have hn:n=1:=by simpa using h1.symm
   subst hn
   cases cs with
   | nil=>simp at h3
   | cons c q =>
    simp at h3
    simp only [SW.den,List.headD_cons,h3]
theorem Ob {H:Type} {enc:TypeId × Value→H} {P:Program} {f:Func} {s:ChangeSpec} {apart fresh handsOn again:Bool} {W W':World} {args:Array Value} {v:Value} {ds gs:List (DataW H)} {before pa pv:List MemPlace}
  (hW:DataW.Whole enc P f.params.toList s.vars apart W args.toList ds gs before)
  (hres:∀(b:Nat) (sp:Nat→Bool) (hd:Bool),DataW.TrodAll enc P W' b sp hd f.resultTypes.toList (v.resultList f.resultTypes.size) (s.fn H (ds ++ gs)).results [])
  (hargs:∀sp:Nat→Bool,(∀p∈before,sp p.block=true)→DataW.TrodAll enc P W' 0 sp true f.params.toList args.toList (s.fn H (ds ++ gs)).args pa)
  (hvars:∀sp:Nat→Bool,(∀p∈before,sp p.block=true)→DataW.TrodVars enc P W' sp s.vars (s.fn H (ds ++ gs)).vars pv)
  (hps:before=pa ++ pv) (hb:Below W.heap.size W W')
  (hok:∀(j:Nat) (t:TypeId) (r:Value),f.resultTypes[j]?=some t→(v.resultList f.resultTypes.size)[j]?=some r→Value.okWide P W' .any 0 t r) :
  s.post enc P f apart fresh handsOn again W args v W':=by
 have hlt:∀p∈before,p.block<W.heap.size:=fun p hp=>hW.lt p hp
 have hold:∀p∈before,(fun b=>decide (b<W.heap.size)) p.block=true:=fun p hp=>by simpa using hlt p hp
 refine ⟨ds,gs,before,[],pa,pv,hW,hres _ _ _,hargs _ hold,hvars _ hold,World.keptBut_mono (fun p hp=>⟨hp,?_⟩) (hb.frame (·∈before)),fun _=>?_⟩
 ·rw [hps,List.mem_append] at hp
  exact Or.inr hp
 ·obtain ⟨_,_,_,_,_,hz,hn⟩:=hW
  refine ⟨hok,_,_,([] ++ pa) ++ pv,⟨[] ++ pa,pv,trodAll_append (hargs _ (fun _ _=>rfl)) (hres _ _ _),hvars _ (fun _ _=>rfl),rfl,?_,?_⟩,?_⟩
  ·intro b off hp
   have hin:MemPlace.cell b off∈before:=by rw [hps];simpa using hp
   rw [hb.frozen (hlt _ hin)]
   exact hz b off hin
  ·intro ha
   have:=hn ha
   rw [hps] at this
   simpa using this
  ·intro p hp _
   rw [hps]
   simpa using hp
def shapeOf (P:Program) (t:TypeId):Option (Bool × List FK) :=
 match P.underlying t with
 | some d=>(flat P 20 t).map fun l=>(Py d,l)
 | none=>none
def wZ (P:Program):List TypeId→Option (List (Bool × List FK))
 | []=>some []
 | t :: r=>gN List.cons (shapeOf P t) (wZ P r)
def Ay (P:Program):List TypeId→Bool
 | []=>true
 | t :: r=>P.readableRec t && Nat.blt t P.types.size && Ay P r
section
variable {H:Type} {enc:TypeId × Value→H} {P:Program} {W:World}
theorem oN {r:_root_.Go.Reach} {base:Nat} {u:TypeId} {a:Addr} {len cap:Nat} (h:Cell.okWide P W r base u (.slice (some a) len cap)):a.block<W.heap.size:=by
 unfold Cell.okWide at h
 have h':Cell.ok P W r base u (.slice (some a) len cap):=by
  split at h <;> first | exact h | simp_all
 unfold Cell.ok at h'
 split at h' <;> try (exact h'.elim)
 all_goals rename_i he
 all_goals try (cases he;done)
 cases he
 obtain ⟨_,_,_,_,row,cells,hs,_⟩:=h'
 unfold World.shape? at hs
 split at hs
 ·rename_i c el fz hx
  exact (Array.getElem?_eq_some_iff.1 hx).1
 ·cases hs
theorem Tu {base:Nat} {t:TypeId} {v:Value} {g:Bool} {l:List FK} {d:DataW H} {ps:List MemPlace} (hs:shapeOf P t=some (g,l)) (hok:Value.okWide P W .any base t v) (h:DataW.Trod enc P W 0 (fun _=>true) true t v d ps) :
  jd W v.cells.toList l∧v.cells.size=l.length∧(if g then v=.agg v.cells else v.cells=#[v])∧∀(a:Addr) (len cap:Nat),Value.slice (some a) len cap∈v.cells.toList→a.block<W.heap.size:=by
 unfold shapeOf at hs
 split at hs
 case h_2=>cases hs
 rename_i de hu
 simp only [Option.map_eq_some_iff,Prod.mk.injEq] at hs
 obtain ⟨l',hl,hg,rfl⟩:=hs
 obtain ⟨fuel,htr⟩:=h
 have hfit:=(WH (enc:=enc) (P:=P) (w:=W) 20).1 t l' fuel _ _ hl htr
 have hsz:v.cells.size=l'.length:=by rw [←Array.length_toList];exact hfit.length
 refine ⟨hfit,hsz,?_⟩
 unfold flat at hl
 rw [hu] at hl
 have one:∀v:Value,jJ v=false→v.cells=#[v]:=by
  intro v hv
  unfold Value.cells
  split
  ·cases hv
  ·rfl
 cases de <;> simp only at hl <;> try (cases hl;done)
 ·subst hg
  obtain ⟨b,rfl⟩:=okWide_bool hu hok
  exact ⟨rfl,fun a len cap hm=>by simp [Value.cells] at hm⟩
 ·rename_i k
  subst hg
  obtain ⟨n,rfl⟩:=okWide_int hu hok
  exact ⟨rfl,fun a len cap hm=>by simp [Value.cells] at hm⟩
 ·subst hg
  obtain ⟨a0,acQ,cap0,rfl⟩:=okWide_slice hu hok
  refine ⟨rfl,fun a len cap hm=>?_⟩
  simp [Value.cells] at hm
  obtain ⟨rfl,rfl,rfl⟩:=hm
  simp only [Value.okWide,hu] at hok
  exact oN hok
 ·subst hg
  simp only [Value.okWide,hu] at hok
  obtain ⟨cs,rfl,_,ts,_,_,hc⟩:=hok
  refine ⟨rfl,fun a len cap hm=>?_⟩
  obtain ⟨i,hi,he⟩:=List.getElem_of_mem hm
  have:cs[i]?=some (.slice (some a) len cap):=by
   rw [←Array.getElem?_toList]
   exact (List.getElem?_eq_getElem hi).trans (by rw [he])
  obtain ⟨u,_,hu2⟩:=hc i _ this
  exact oN hu2
 ·subst hg
  simp only [Value.okWide,hu] at hok
  obtain ⟨cs,rfl,_,ts,_,_,hc⟩:=hok
  refine ⟨rfl,fun a len cap hm=>?_⟩
  obtain ⟨i,hi,he⟩:=List.getElem_of_mem hm
  have:cs[i]?=some (.slice (some a) len cap):=by
   rw [←Array.getElem?_toList]
   exact (List.getElem?_eq_getElem hi).trans (by rw [he])
  obtain ⟨u,_,hu2⟩:=hc i _ this
  exact oN hu2
theorem G8 {base:Nat}:∀{ts:List TypeId} {vs:List Value} {ds:List (DataW H)} {ps:List MemPlace} {sh:List (Bool × List FK)},wZ P ts=some sh→DataW.TrodAll enc P W 0 (fun _=>true) true ts vs ds ps →
  (∀(j:Nat) (t:TypeId) (v:Value),ts[j]?=some t→vs[j]?=some v→Value.okWide P W .any base t v) →
  jd W (vs.flatMap fun v=>v.cells.toList) (sh.flatMap (·.2))∧vs.length=sh.length∧ds.length=ts.length ∧
  (∀(i:Nat) (v:Value) (g:Bool) (n:Nat),vs[i]?=some v→(sh.map fun s=>(s.1,s.2.length))[i]?=some (g,n)→v.cells.size=n∧(if g then v=.agg v.cells else v.cells=#[v])) ∧
  ∀(a:Addr) (len cap:Nat),Value.slice (some a) len cap∈(vs.flatMap fun v=>v.cells.toList)→a.block<W.heap.size
 | [],[],[],ps,sh,hs,h,_=>by
  simp [wZ] at hs
  subst hs
  exact ⟨trivial,rfl,rfl,fun i v g n h=>by simp at h,fun a len cap h=>by simp at h⟩
 | t :: ts,v :: vs,d :: ds,ps,sh,hs,h,hok=>by
  obtain ⟨⟨g,l⟩,sh',h1,h2,rfl⟩:=fI hs
  obtain ⟨p,q,h3,h4,rfl⟩:=h
  obtain ⟨q1,q2,q3,q4⟩:=Tu h1 (hok 0 t v rfl rfl) h3
  obtain ⟨r1,r2,r3,r4,r5⟩:=G8 h2 h4 (fun j t' v' hj hv=>hok (j+1) t' v' (by simpa using hj) (by simpa using hv))
  refine ⟨by simp only [List.flatMap_cons];exact jd.append q1 r1,by simp [r2],by simp [r3],fun i v' g' n' hv hs'=>?_,fun a len cap hm=>?_⟩
  ·cases i with
   | zero =>
    simp at hv hs'
    obtain ⟨rfl,rfl⟩:=hs'
    subst hv
    exact ⟨q2,q3⟩
   | succ i=>exact r4 i v' g' n' (by simpa using hv) (by simpa using hs')
  ·rw [List.flatMap_cons,List.mem_append] at hm
   rcases hm with hm | hm
   ·exact q4 a len cap hm
   ·exact r5 a len cap hm
 | [],_ :: _,_,_,_,_,h,_=>by cases ‹List (DataW H)› <;> exact h.elim
 | [],[],_ :: _,_,_,_,h,_=>h.elim
 | _ :: _,[],_,_,_,_,h,_=>by cases ‹List (DataW H)› <;> exact h.elim
 | _ :: _,_ :: _,[],_,_,_,h,_=>h.elim
theorem yh {base:Nat} (laid:laidOutB P=true) {W':World} {sp:Nat→Bool}:∀{ts:List TypeId} {vs:List Value} {ds:List (DataW H)} {ps:List MemPlace},Ay P ts=true→DataW.TrodAll enc P W base (fun _=>true) true ts vs ds ps →
  (∀p∈ps,W.sameAt W' p)→(∀p∈ps,sp p.block=true)→DataW.TrodAll enc P W' base sp true ts vs ds ps
 | [],[],[],_,_,h,_,_=>h
 | t :: ts,v :: vs,d :: ds,ps,hr,h,hs,hp=>by
  simp only [Ay,Bool.and_eq_true,Nat.blt_eq] at hr
  obtain ⟨p,q,h3,h4,rfl⟩:=h
  exact ⟨p,q,WideElems.Trod_stays laid hr.1.1 hr.1.2 h3 (fun x hx=>hs x (List.mem_append_left _ hx)) (fun x hx=>hp x (List.mem_append_left _ hx)),
    yh laid hr.2 h4 (fun x hx=>hs x (List.mem_append_right _ hx)) (fun x hx=>hp x (List.mem_append_right _ hx)),rfl⟩
 | [],_ :: _,ds,_,_,h,_,_=>by cases ds <;> exact h.elim
 | [],[],_ :: _,_,_,h,_,_=>h.elim
 | _ :: _,[],ds,_,_,h,_,_=>by cases ds <;> exact h.elim
 | _ :: _,_ :: _,[],_,_,h,_,_=>h.elim
def zB (sh:List (Bool × List FK)) (ρ:Env):Prop:=Cu (sh.flatMap (·.2)) 0 ρ
end
end Go.Rex
namespace Go.Rex.D
section
variable {ρ:Env} {a b:IE} {c d:BE} {k:IntKind}
theorem le:((BE.aA a b).den ρ=true)=(a.den ρ≤b.den ρ):=propext ⟨of_decide_eq_true,decide_eq_true⟩
theorem gp:((BE.aA a b).den ρ=false)=(b.den ρ<a.den ρ):=propext ⟨fun h=>Int.not_le.1 (of_decide_eq_false h),fun h=>decide_eq_false (Int.not_le.2 h)⟩
theorem lt:((BE.bS a b).den ρ=true)=(a.den ρ<b.den ρ):=propext ⟨of_decide_eq_true,decide_eq_true⟩
theorem gq:((BE.bS a b).den ρ=false)=(b.den ρ≤a.den ρ):=propext ⟨fun h=>Int.not_lt.1 (of_decide_eq_false h),fun h=>decide_eq_false (Int.not_lt.2 h)⟩
theorem eq:((BE.aB a b).den ρ=true)=(a.den ρ=b.den ρ):=propext (by simp [BE.den])
theorem gz:((BE.aB a b).den ρ=false)=(¬a.den ρ=b.den ρ):=propext (by simp [BE.den])
theorem not:((BE.not c).den ρ=true)=(c.den ρ=false):=propext (by simp [BE.den])
theorem dR:((BE.not c).den ρ=false)=(c.den ρ=true):=propext (by simp [BE.den])
theorem and:((BE.and c d).den ρ=true)=(c.den ρ=true∧d.den ρ=true):=propext (by simp [BE.den])
theorem dS:((BE.and c d).den ρ=false)=(c.den ρ=false∨d.den ρ=false):=propext (by simp only [BE.den];cases c.den ρ <;> cases d.den ρ <;> simp)
theorem or:((BE.or c d).den ρ=true)=(c.den ρ=true∨d.den ρ=true):=propext (by simp [BE.den])
theorem gB:((BE.or c d).den ρ=false)=(c.den ρ=false∧d.den ρ=false):=propext (by simp [BE.den])
theorem inr:((BE.inr k a).den ρ=true)=(k.min≤a.den ρ∧a.den ρ≤k.max):=propext (by simp only [BE.den,Bool.and_eq_true];exact ⟨fun h=>⟨of_decide_eq_true h.1,of_decide_eq_true h.2⟩,fun h=>⟨decide_eq_true h.1,decide_eq_true h.2⟩⟩)
theorem var {i:Nat}:(BE.var i).den ρ=ρ.bv i:=rfl
theorem lit {x:Bool}:(BE.lit x).den ρ=x:=rfl
theorem dh {r j:Nat}:(BE.cell r a b j).den ρ=ρ.bc r (a.den ρ).toNat (b.den ρ).toNat j:=rfl
theorem beq:((BE.beq c d).den ρ=true)=(c.den ρ=d.den ρ):=propext (by simp [BE.den])
theorem dU:((BE.beq c d).den ρ=false)=(¬c.den ρ=d.den ρ):=propext (by simp [BE.den])
theorem dV {x:Int}:(IE.lit x).den ρ=x:=rfl
theorem dW {i:Nat}:(IE.var i).den ρ=ρ.iv i:=rfl
theorem add:(IE.add a b).den ρ=a.den ρ+b.den ρ:=rfl
theorem sub:(IE.sub a b).den ρ=a.den ρ-b.den ρ:=rfl
theorem mul:(IE.mul a b).den ρ=a.den ρ * b.den ρ:=rfl
theorem wrap:(IE.wrap k a).den ρ=k.wrap (a.den ρ):=rfl
theorem min:(IE.o8 a b).den ρ=Min.min (a.den ρ) (b.den ρ):=rfl
theorem max:(IE.imax a b).den ρ=Max.max (a.den ρ) (b.den ρ):=rfl
theorem di {r j:Nat}:(IE.cell r a b j).den ρ=ρ.ic r (a.den ρ).toNat (b.den ρ).toNat j:=rfl
theorem bT:IntKind.i64.min=-9223372036854775808:=by decide
theorem bU:IntKind.i64.max=9223372036854775807:=by decide
theorem be {x:BE}:(QF.be x).den ρ=(x.den ρ=true):=rfl
end
end Go.Rex.D
namespace Go.Rex
open Go.WideShapes Go.ChangeShapes Go.RowKit
def pQ:List SB→Bool
 | []=>true
 | b :: r=>b.gone && pQ r
theorem xe:∀{l:List SB} {k:Nat} {sb:SB},pQ l=true→l[k]?=some sb→sb.gone=true
 | b :: r,0,sb,h,hk=>by
  simp only [pQ,Bool.and_eq_true] at h
  simp at hk
  subst hk
  exact h.1
 | b :: r,k+1,sb,h,hk=>by
  simp only [pQ,Bool.and_eq_true] at h
  exact xe h.2 (by simpa using hk)
theorem Tv {P:Program} {k:dJ} {pre post:Env→Prop} (hf:∃fn,P.funcs[k.f]?=some fn∧fn.body.isSome=true∧(fn.name == "runtime.NumGoroutine")=false) (hg:pQ k.hp'=true)
  (hrun:∀ρ ν w,aH ρ ν k.hp w→iF ν k.gl→pre ρ.num→Calls P k.f (k.args.map (·.den ρ ν)).toArray w fun e w'=>e=.returned (k.ret.den ρ ν)∧w'=w) (hpost:∀ρ:Env,pre ρ.num→post ρ.num):aV P k pre post:=by
 refine ⟨hf,fun ρ ν w gJ hgl hpre=>(hrun ρ ν w gJ hgl hpre).mono ?_⟩
 rintro e w' ⟨rfl,rfl⟩
 have hd:∀(j:Nat) (sb:SB),k.hp'[j]?=some sb→sb.dead ρ=true:=fun j sb hj=>by
  unfold SB.dead
  rw [xe hg hj]
  rfl
 refine ⟨ρ,ν,dC.refl _ _ _ _,rfl,⟨fun i j a b hi hj da=>?_,fun j sb hj dj=>?_,fun j sb hj dj=>?_⟩,bC.refl _ _,fun j sb hj _ dj=>?_,hpost ρ hpre⟩
 ·rw [hd i a hi] at da;cases da
 ·rw [hd j sb hj] at dj;cases dj
 ·rw [hd j sb hj] at dj;cases dj
 ·rw [hd j sb hj] at dj;cases dj
def ib (err:TypeId):List (Nat × TypeId × TypeId)→Nat→List SB
 | [],_=>[]
 | (_,tp,te) :: r,k=>{t:=err,cs:=[.iface tp (.ptr {aC:=k+1})],ro:=true} :: {t:=500000+te,cs:=[.hole],ro:=true} :: ib err r (k+2)
def fB:List (Nat × TypeId × TypeId)→Nat→List (Nat × Nat)
 | [],_=>[]
 | (g,_) :: r,k=>(g,k) :: (1000000+g,k+1) :: fB r (k+2)
def qx (W:World):List (Nat × TypeId × TypeId)→List Addr→Prop
 | [],[]=>True
 | (g,tp,_) :: r,a :: aS0=>W.cell? ⟨g,0,none⟩=some (.iface tp (.pointer (some a)))∧(∃v,W.cell? a=some v)∧qx W r aS0
 | _,_=>False
def zC:List (Nat × TypeId × TypeId)→List Addr→Nat→Addr
 | (g,_) :: _,_ :: _,0=>⟨g,0,none⟩
 | _ :: _,a :: _,1=>a
 | _ :: r,_ :: aS0,k+2=>zC r aS0 k
 | _,_,_=>⟨0,0,none⟩
theorem Ev (err:TypeId):∀(ss:List (Nat × TypeId × TypeId)) (k:Nat),(ib err ss k).length=2 * ss.length
 | [],_=>rfl
 | (_,_,_) :: r,k=>by simp only [ib,List.length_cons,Ev err r (k+2)];omega
theorem ME {W:World} {a:Addr} {v:Value} (h:W.cell? a=some v):a.block<W.heap.size:=by
 unfold World.cell? at h
 split at h
 ·rename_i hx
  exact (Array.getElem?_eq_some_iff.1 hx).1
 all_goals cases h
theorem MF {ρ:Env} {ν:Nat→Addr} {t:TypeId} {c:SC} {v:Value} {ro:Bool} (h:c.isHole=false→v=c.den ρ ν):SB.has ρ ν {t:=t,cs:=[c],ro:=ro} #[v]:=by
 refine ⟨fun u hu=>(by cases hu),fun _ _=>rfl,fun e n h=>(by cases h),fun p c' hp hh=>?_,fun gi g hg=>(by simp at hg)⟩
 cases p with
 | zero =>
  simp at hp
  subst hp
  simp [h hh]
 | succ p=>simp at hp
theorem MG {ρ:Env} {ν:Nat→Addr} {W:World} {err:TypeId}:∀{ss:List (Nat × TypeId × TypeId)} {aS0:List Addr} {k:Nat},qx W ss aS0→Nat.blt err 500000=true→(∀a∈aS0,∃c t,W.heap[a.block]?=some (.cells c t (0,0)))→(∀j,j<2 * ss.length→ν (k+j)=zC ss aS0 j) →
  (∀(i:Nat) (sb:SB),(ib err ss k)[i]?=some sb→Oa ρ ν W (k+i) sb)∧∀g m,Nat.blt g 1000000=true→assoc g (fB ss k)=some m→ν m=⟨g,0,none⟩
 | [],[],_,_,_,_,_=>⟨fun i sb h=>by simp [ib] at h,fun g m _ h=>by simp [fB,assoc] at h⟩
 | (g,tp,te) :: r,a :: aS0,k,h,he,hsh,hn=>by
  obtain ⟨h1,⟨v,h2⟩,h3⟩:=h
  have e0:ν k=⟨g,0,none⟩:=hn 0 (by simp only [List.length_cons];omega)
  have e1:ν (k+1)=a:=hn 1 (by simp only [List.length_cons];omega)
  obtain ⟨i1,i2⟩:=MG (ρ:=ρ) (ν:=ν) (err:=err) (k:=k+2) h3 he (fun a ha=>hsh a (List.mem_cons_of_mem _ ha)) fun j hj=>by
   have:=hn (j+2) (by simp only [List.length_cons];omega)
   rw [show k+2+j=k+(j+2) by omega,this]
   rfl
  refine ⟨fun i sb hi=>?_,fun g' m hg6 hm=>?_⟩
  ·match i,hi with
   | 0,hi =>
    simp [ib] at hi
    subst hi
    refine ⟨⟨rfl,rfl⟩,fun _=>⟨⟨by rw [Nat.add_zero,e0];exact ME h1,fun _ h=>absurd h (by simp only [Nat.blt_eq] at he;simp [Nat.not_le.2 he])⟩,#[.iface tp (.pointer (some a))],MF fun _=>?_,fun p v' hp=>?_⟩⟩
    ·simp [SC.den,SA.den,SA.off,e1,IE.den,Addr.add]
    ·cases p with
     | zero =>
      simp at hp
      subst hp
      rw [Nat.add_zero,e0]
      exact h1
     | succ p=>simp at hp
   | 1,hi =>
    simp [ib] at hi
    subst hi
    refine ⟨⟨rfl,rfl⟩,fun _=>⟨⟨by rw [e1];exact ME h2,fun _ _=>by rw [e1];exact hsh a (List.mem_cons_self ..)⟩,#[v],MF fun hh=>(by cases hh),fun p v' hp=>?_⟩⟩
    cases p with
    | zero =>
     simp at hp
     subst hp
     rw [e1]
     simpa [Addr.add] using h2
    | succ p=>simp at hp
   | i+2,hi =>
    have:=i1 i sb (by simpa [ib] using hi)
    rwa [show k+2+i=k+(i+2) by omega] at this
  ·unfold fB assoc at hm
   split at hm
   ·rename_i hk
    simp at hk hm
    subst hk
    subst hm
    exact e0
   ·unfold assoc at hm
    split at hm
    ·rename_i hk
     simp only [beq_iff_eq] at hk
     simp only [Nat.blt_eq] at hg6
     omega
    ·exact i2 g' m hg6 hm
theorem Cv {ν:Nat→Addr} {W:World}:∀{ss:List (Nat × TypeId × TypeId)} {aS0:List Addr} {k:Nat},qx W ss aS0→(ss.all fun x=>Nat.blt x.1 1000000)=true→(∀j,j<2 * ss.length→ν (k+j)=zC ss aS0 j) →
  ∀g m,Nat.blt g 1000000=false→assoc g (fB ss k)=some m→∃(i:Nat) (a:Addr),(ss.map (·.1))[i]?=some (g-1000000)∧aS0[i]?=some a∧ν m=a
 | [],[],_,_,_,_,g,m,_,h=>by simp [fB,assoc] at h
 | (g0,tp,te) :: r,a :: aS0,k,h,hs,hn,g,m,h6,hm=>by
  obtain ⟨-,-,h3⟩:=h
  simp only [List.all_cons,Bool.and_eq_true] at hs
  unfold fB assoc at hm
  split at hm
  ·rename_i hk
   simp only [beq_iff_eq] at hk
   subst hk
   rw [hs.1] at h6
   cases h6
  ·unfold assoc at hm
   split at hm
   ·rename_i hk
    simp only [beq_iff_eq] at hk
    simp only [Option.some.injEq] at hm
    subst hm
    exact ⟨0,a,by simp [←hk],rfl,hn 1 (by simp only [List.length_cons];omega)⟩
   ·obtain ⟨i,b,q1,q2,q3⟩:=Cv (ν:=ν) (k:=k+2) h3 hs.2 (fun j hj=>by
       have:=hn (j+2) (by simp only [List.length_cons];omega)
       rw [show k+2+j=k+(j+2) by omega,this]
       rfl) g m h6 hm
    exact ⟨i+1,b,by simpa using q1,by simpa using q2,q3⟩
theorem WJ {ν:Nat→Addr} {W:World} {ss:List (Nat × TypeId × TypeId)} {aS0:List Addr} {k:Nat} (h:qx W ss aS0) (hs:(ss.all fun x=>Nat.blt x.1 1000000)=true) (hn:∀j,j<2 * ss.length→ν (k+j)=zC ss aS0 j) (hnd:aS0.Nodup)
  (g g' m m':Nat) (h1:Nat.blt g 1000000=false) (h2:Nat.blt g' 1000000=false) (h3:assoc g (fB ss k)=some m) (h4:assoc g' (fB ss k)=some m') (hne:g≠g'):ν m≠ν m':=by
 obtain ⟨i,a,q1,q2,rfl⟩:=Cv h hs hn g m h1 h3
 obtain ⟨j,b,r1,r2,rfl⟩:=Cv h hs hn g' m' h2 h4
 intro e
 have hij:i≠j:=fun e=>by
  subst e
  rw [q1] at r1
  simp only [Option.some.injEq] at r1
  have h1':¬g<1000000:=fun h=>by rw [←Nat.blt_eq] at h;rw [h1] at h;cases h
  have h2':¬g'<1000000:=fun h=>by rw [←Nat.blt_eq] at h;rw [h2] at h;cases h
  omega
 have hi:=(List.getElem?_eq_some_iff.1 q2)
 have hj:=(List.getElem?_eq_some_iff.1 r2)
 obtain ⟨li,hi⟩:=hi
 obtain ⟨lj,hj⟩:=hj
 rcases Nat.lt_or_gt_of_ne hij with h | h
 ·exact List.pairwise_iff_getElem.1 hnd i j li lj h (by rw [hi,hj,e])
 ·exact List.pairwise_iff_getElem.1 hnd j i lj li h (by rw [hi,hj,e])
section
variable {H:Type} {enc:TypeId × Value→H} {P:Program} {W:World}
def iy (err:TypeId) (ss:List (Nat × TypeId × TypeId)) (f:FuncId) (sh:List (Bool × List FK)):dJ :=
 let m:=qO (sh.flatMap (·.2)) 0 (2 * ss.length)
 {f:=f,nv:=m.2.2,gl:=fB ss 0,args:=vE (sh.map fun s=>(s.1,s.2.length)) m.1,hp:=ib err ss 0 ++ m.2.1,iC:=m.2.2+1,ret:=.w (.one (.bool (.var m.2.2))),hp':=(ib err ss 0 ++ m.2.1).map fun _=>dI}
def xg (ss:List (Nat × TypeId × TypeId)) (sh:List (Bool × List FK)) (ρ:Env):Prop:=ρ.bv (qO (sh.flatMap (·.2)) 0 (2 * ss.length)).2.2=true
theorem Qo (laid:laidOutB P=true) {f:FuncId} {fn:Func} {s:ChangeSpec} {apart fresh handsOn again:Bool} {sh:List (Bool × List FK)} {tb:TypeId} (hsh:wZ P fn.params.toList=some sh) (hread:Ay P fn.params.toList=true)
  (hvars:s.vars=[]) (hres:fn.resultTypes=#[tb]) (hb:P.underlying tb=some .bool)
  (hspec:∀(H:Type) (ds:List (DataW H)),ds.length=fn.params.toList.length→(s.fn H ds).results=[.lit (.bool true)]∧(s.fn H ds).args=ds∧(s.fn H ds).vars=[])
  {err:TypeId} {ss:List (Nat × TypeId × TypeId)} {aS0:List Addr} (Vr:qx W ss aS0) (abv:aS0.Nodup) (abw:∀a∈aS0,∃c t,W.heap[a.block]?=some (.cells c t (0,0))) (he5:Nat.blt err 500000=true) (hs6:(ss.all fun x=>Nat.blt x.1 1000000)=true) (hcon:aV P (iy err ss f sh) (zB sh) (xg ss sh)) {base:Nat} {args:Array Value} {ds gs:List (DataW H)} {before:List MemPlace}
  (hval:∀(j:Nat) t v,fn.params[j]?=some t→args[j]?=some v→Value.okWide P W .any base t v)
  (hW:DataW.Whole enc P fn.params.toList s.vars apart W args.toList ds gs before) :
  Calls P f args W fun e W'=>∃v,e=.returned v∧s.post enc P fn apart fresh handsOn again W args v W':=by
 have hW':=hW
 obtain ⟨p,q,hA,hV,rfl,hfz,hnd⟩:=hW
 rw [hvars] at hV
 obtain ⟨rfl,rfl⟩:=trodVars_none hV
 obtain ⟨h1,h2,h3,h4,h5⟩:=G8 hsh hA (fun j t v hj hv=>hval j t v (by simpa using hj) (by simpa using hv))
 obtain ⟨ρ,ν,YI,hden,ZX,hpre⟩:=Et h1 h5 0 (2 * ss.length) {} (zC ss aS0)
 obtain ⟨hs1,hs2⟩:=MG (ρ:=ρ) (ν:=ν) (err:=err) (k:=0) Vr he5 abw fun j hj=>by rw [Nat.zero_add];exact YI.bl j hj
 have hblk:∀(i:Nat) (sb:SB),(iy err ss f sh).hp[i]?=some sb→Oa ρ ν W i sb:=fun i sb hi=>by
  have hi:(ib err ss 0 ++ (qO (sh.flatMap (·.2)) 0 (2 * ss.length)).2.1)[i]?=some sb:=hi
  rw [List.getElem?_append] at hi
  split at hi
  ·have:=hs1 i sb hi
   rwa [Nat.zero_add] at this
  ·rename_i hlt
   have:=ZX _ sb hi
   rw [Ev] at hlt this
   rwa [show 2 * ss.length+(i-2 * ss.length)=i by omega] at this
 have hargs:((iy err ss f sh).args.map (·.den ρ ν)).toArray=args:=by
  have:=Eu (vs:=args.toList) (sh:=sh.map fun s=>(s.1,s.2.length)) (by simpa using h2) h4 hden
  show ((vE (sh.map fun s=>(s.1,s.2.length)) (qO (sh.flatMap (·.2)) 0 (2 * ss.length)).1).map (·.den ρ ν)).toArray=args
  rw [this]
 have gJ:aH ρ ν (iy err ss f sh).hp W:=by
  refine ⟨fun i j a b hi hj ga gb ra he=>?_,fun k sb hk hg hr=>?_,fun k sb hk hg hr=>?_⟩
  ·have:=(hblk i a hi).1.1
   rw [ra] at this;cases this
  ·have:=(hblk k sb hk).1.1
   rw [hr] at this;cases this
  ·have:=(hblk k sb hk).2 hg
   exact this
 have hc:=hcon.run ρ ν W gJ ⟨hs2,WJ (k:=0) Vr hs6 (fun j hj=>by rw [Nat.zero_add];exact YI.bl j hj) abv⟩ (wY hpre)
 rw [hargs] at hc
 refine hc.mono fun e W' he=>?_
 obtain ⟨ρ',aI,-,rfl,-,J6,-,hpost⟩:=he
 have hbelow:Below W.heap.size W W':=by
  refine ⟨J6.os,J6.tape,J6.output,J6.size,fun k hk=>J6.block k hk ?_⟩
  rintro ⟨j,sb,hj,ho,-,-⟩
  have:=(hblk j sb hj).1.2
  rw [ho] at this;cases this
 have hret:(iy err ss f sh).ret.den ρ' aI=.bool true:=by
  have:ρ'.bv (qO (sh.flatMap (·.2)) 0 (2 * ss.length)).2.2=true:=hpost
  simp [iy,SV.den,SW.den,SC.den,BE.den,this]
 rw [hret]
 obtain ⟨s1,s2,s3⟩:=hspec H ds h3
 have hlt:∀x∈p,x.block<W.heap.size:=fun x hx=>hW'.lt x (List.mem_append_left _ hx)
 refine ⟨_,rfl,Ob (pa:=p) (pv:=[]) hW' (fun b sp hd=>?_) (fun sp hsp=>?_) (fun sp _=>?_) rfl hbelow ?_⟩
 ·rw [List.append_nil,s1,hres]
  exact trodAll_mk1 ⟨1,by simp [DataW.trod,hb,Value.cells]⟩
 ·rw [List.append_nil,s2]
  exact yh laid hread hA (fun x hx=>hbelow.same (hlt x hx)) (fun x hx=>hsp x (List.mem_append_left _ hx))
 ·rw [List.append_nil,s3,hvars]
  rfl
 ·exact ok_one hres rfl (okWide_bool_mk hb true)
end
end Go.Rex
