/- part 7 of the proof -/
import Derived.ProofKit
import Derived.Deep.Slices
import Derived.OpenShut
import Derived.Test.YthomdlajobnmnaaGreatDoorX6
set_option linter.unusedSimpArgs false
set_option linter.unusedVariables false
namespace Go.Rex
open Go.WideShapes Go.ChangeShapes Go.RowKit
inductive FK where
 | int (k:IntKind) | bool | sl (e:TypeId) (ks:List Kd)
 deriving Inhabited
def xJ:List FK->Option (List Kd)
 | []=>some []
 | .int k :: r=>(xJ r).map (.int k :: ·)
 | .bool :: r=>(xJ r).map (.bool :: ·)
 | .sl _ _ :: _=>none
mutual
def flat (P:Program):Nat->TypeId->Option (List FK)
 | 0,_=>none
 | n+1,t =>
  match P.underlying t with
  | some (.int k)=>some [.int k]
  | some .bool=>some [.bool]
  | some (.slice e) =>
   match flat P n e with
   | some l=>match xJ l with
    | some b=>if P.cellsOf e == l.length then some [.sl e b] else none
    | none=>none
   | none=>none
  | some (.struct a)=>match zz P n a.toList 0 with | some l=>if P.cellsOf t == l.length then some l else none | none=>none
  | some (.array m e)=>match flat P n e with | some l=>if P.cellsOf e == l.length && P.cellsOf t == m * l.length then some ((List.replicate m l).flatten) else none | none=>none
  | _=>none
def zz (P:Program):Nat->List Field->Nat->Option (List FK)
 | 0,_,_=>none
 | _,[],_=>some []
 | n+1,f :: r,off =>
  match flat P n f.type with
  | some l=>if f.offset == off && P.cellsOf f.type == l.length then (zz P n r (off+l.length)).map (l ++ ·) else none
  | none=>none
end
def ab5 (v:Value):Kd->Prop
 | .int k=>∃n,v=.int k n/\k.min<=n/\n<=k.max
 | .bool=>∃b,v=.bool b
 | .val=>False
def ZW (w:World) (v:Value):FK->Prop
 | .int k=>∃n,v=.int k n/\k.min<=n/\n<=k.max
 | .bool=>∃b,v=.bool b
 | .sl _ c=>v=.slice none 0 0\/∃(a:Addr) (len cap:Nat),v=.slice (some a) len cap/\len<=cap/\cap<=maxLen/\∀i j k,i<len->c[j]?=some k->∃u,w.cell? (a.add (i * c.length+j))=some u/\ab5 u k
def kg (w:World):List Value->List FK->Prop
 | [],[]=>True
 | c :: r,k :: s=>ZW w c k/\kg w r s
 | _,_=>False
theorem kg.append {w:World}:∀{a b:List Value} {l m:List FK},kg w a l->kg w b m->kg w (a ++ b) (l ++ m)
 | [],_,[],_,_,h=>h
 | _ :: _,_,_ :: _,_,h,c=>⟨h.1,kg.append h.2 c⟩
 | [],_,_ :: _,_,h,_=>h.elim
 | _ :: _,_,[],_,h,_=>h.elim
theorem kg.length {w:World}:∀{a:List Value} {l:List FK},kg w a l->a.length=l.length
 | [],[],_=>rfl
 | _ :: _,_ :: _,h=>by simp [kg.length h.2]
 | [],_ :: _,h=>h.elim
 | _ :: _,[],h=>h.elim
theorem GR {w:World}:∀{cs:List Value} {l:List FK} {a:List Kd},xJ l=some a->kg w cs l->a.length=l.length/\∀(j:Nat) (k:Kd),a[j]?=some k->∃u,cs[j]?=some u/\ab5 u k
 | [],[],a,h,_=>by simp [xJ] at h;subst h;exact ⟨rfl,λj k h=>by simp at h⟩
 | [],_ :: _,_,_,h=>h.elim
 | _ :: _,[],_,_,h=>h.elim
 | c :: r,.int i :: s,a,h,d=>by
  simp only [xJ,Option.map_eq_some_iff] at h
  obtain ⟨q,f,rfl⟩:=h
  obtain ⟨g,e⟩:=GR f d.2
  refine ⟨by simp [g],λj k b=>?_⟩
  cases j with
  | zero=>simp at b;subst b;exact ⟨c,rfl,d.1⟩
  | succ j=>simpa using e j k (by simpa using b)
 | c :: r,.bool :: s,a,h,d=>by
  simp only [xJ,Option.map_eq_some_iff] at h
  obtain ⟨q,f,rfl⟩:=h
  obtain ⟨g,e⟩:=GR f d.2
  refine ⟨by simp [g],λj k b=>?_⟩
  cases j with
  | zero=>simp at b;subst b;exact ⟨c,rfl,d.1⟩
  | succ j=>simpa using e j k (by simpa using b)
 | c :: r,.sl _ _ :: s,a,h,d=>by simp [xJ] at h
section
variable {H:Type} {enc:TypeId × Value->H} {P:Program} {w:World} {base:Nat} {spare:Nat->Bool} {held:Bool}
theorem SH:∀(n:Nat),(∀(t:TypeId) (l:List FK) (fuel:Nat) (cs:List Value) (x:DataW H × List MemPlace),flat P n t=some l->DataW.trod enc P w base spare held fuel t cs=some x->kg w cs l) /\
  (∀(fs:List Field) (off:Nat) (l:List FK) (cs:List Value),zz P n fs off=some l->cs.length=off+l.length ->
    (∀f∈fs,∃(fuel:Nat) (x:DataW H × List MemPlace),DataW.trod enc P w base spare held fuel f.type ((cs.drop f.offset).take (P.cellsOf f.type))=some x)->kg w (cs.drop off) l):=by
 intro n
 induction n with
 | zero=>exact ⟨λt l fuel cs x h=>by simp [flat] at h,λfs off l cs h=>by simp [zz] at h⟩
 | succ n R =>
  refine ⟨λt l fuel cs x h b=>?_,λfs off l cs h Z K=>?_⟩
  ·unfold flat at h
   split at h
   ·rename_i k c
    simp at h
    subst h
    cases fuel with
    | zero=>simp [DataW.trod] at b
    | succ fuel =>
     unfold DataW.trod at b
     rw [c] at b
     split at b <;> try cases b
     all_goals rename_i o
     all_goals try (simp at o;done)
     split at b
     ·rename_i d
      simp at o
      subst o
      obtain ⟨rfl,g⟩:=d
      simp only [Lit.wf,Bool.and_eq_true,decide_eq_true_eq] at g
      exact ⟨⟨_,rfl,g.1,g.2⟩,trivial⟩
     ·cases b
   ·rename_i c
    simp at h
    subst h
    cases fuel with
    | zero=>simp [DataW.trod] at b
    | succ fuel =>
     unfold DataW.trod at b
     rw [c] at b
     split at b <;> try cases b
     all_goals rename_i o
     all_goals try (simp at o;done)
     exact ⟨⟨_,rfl⟩,trivial⟩
   ·rename_i e c
    split at h
    case h_2=>cases h
    rename_i le hle
    split at h
    case h_2=>cases h
    rename_i W I
    split at h
    case isFalse=>cases h
    rename_i d
    simp only [beq_iff_eq] at d
    simp at h
    subst h
    rcases Go.Deep.open_slice c b with ⟨rfl,-⟩ | ⟨a,len,cap,m,Q,D,Pl,rfl,X,C,s,B,-,E⟩
    ·exact ⟨.inl rfl,trivial⟩
    ·refine ⟨.inr ⟨a,len,cap,rfl,C,s,λi j k A hj=>?_⟩,trivial⟩
     have u:i<m:=by
      rw [B]
      split
      ·omega
      ·exact A
     obtain ⟨M,z,N⟩:=E i u
     obtain ⟨_,U,G⟩:=World.cells?_some z
     all_goals grind [GR,Addr.add_add]
   ·rename_i fs c
    split at h
    case h_2=>cases h
    rename_i S y
    split at h
    case isFalse=>cases h
    rename_i d
    simp only [beq_iff_eq] at d
    simp at h
    subst h
    obtain ⟨O,m,-,-,hlen,p,L⟩:=DataW.trod_struct c b
    have:=R.2 fs.toList 0 S cs y (by omega) (λf B=>by
      obtain ⟨i,E,o⟩:=List.getElem_of_mem B
      have V:fs[i]?=some f:=by
        grind
      all_goals grind)
    simpa using this
   ·rename_i m e c
    split at h
    case h_2=>cases h
    rename_i le hle
    split at h
    case isFalse=>cases h
    rename_i d
    simp only [Bool.and_eq_true,beq_iff_eq] at d
    simp at h
    subst h
    obtain ⟨O,Q,-,-,hlen,p,L⟩:=DataW.trod_array c b
    have key:∀q,q<=m->kg w (cs.drop ((m-q) * le.length)) ((List.replicate q le).flatten):=by
     intro q
     induction q with
     | zero =>
      intro _
      have:cs.drop ((m-0) * le.length)=[]:=by
       grind
      rw [this]
      trivial
     | succ q J =>
      grind [List.length,kg.length,List.getElem?_eq_getElem,List.drop,aD.drop,Nat.add_mul,List.drop_drop,List.take_append_drop,List.flatten_cons,kg.append]
    all_goals grind
   ·cases h
  ·cases fs with
   | nil =>
    simp [zz] at h
    subst h
    have:cs.drop off=[]:=by grind [List.drop_eq_nil_of_le]
    rw [this]
    trivial
   | cons f r =>
    simp only [zz] at h
    split at h
    case h_2=>cases h
    rename_i Y F
    split at h
    case isFalse=>cases h
    rename_i d
    simp only [Bool.and_eq_true,beq_iff_eq] at d
    simp only [Option.map_eq_some_iff] at h
    obtain ⟨l1,T,rfl⟩:=h
    all_goals grind [List.mem_cons_self,List.length,kg.length,List.mem_cons_of_mem,List.drop,aD.drop,List.drop_drop,List.take_append_drop,kg.append]
end
end Go.Rex
namespace Go.Rex
open Go.WideShapes Go.ChangeShapes Go.RowKit
def ajV (ρ:Env) (ν:Nat->Addr) (w:World) (k:Nat) (sb:SB):Prop :=
 (sb.ro=true/\sb.own=false)/\(sb.dead ρ=false->Ah sb w (ν k).block/\∃arr:Array Value,sb.has ρ ν arr/\∀p v,arr[p]?=some v->w.cell? ((ν k).add p)=some v)
theorem UM {H:Type} {enc:TypeId × Value->H} {P:Program} {f:Func} {s:ChangeSpec} {apart fresh handsOn again:Bool} {W g:World} {args:Array Value} {v:Value} {i gs:List (DataW H)} {before pa pv:List MemPlace}
  (l:DataW.Whole enc P f.params.toList s.vars apart W args.toList i gs before)
  (d:∀(b:Nat) (sp:Nat->Bool) (hd:Bool),DataW.TrodAll enc P g b sp hd f.resultTypes.toList (v.resultList f.resultTypes.size) (s.fn H (i ++ gs)).results [])
  (a:∀sp:Nat->Bool,(∀p∈before,sp p.block=true)->DataW.TrodAll enc P g 0 sp true f.params.toList args.toList (s.fn H (i ++ gs)).args pa)
  (c:∀sp:Nat->Bool,(∀p∈before,sp p.block=true)->DataW.TrodVars enc P g sp s.vars (s.fn H (i ++ gs)).vars pv)
  (m:before=pa ++ pv) (o:Below W.heap.size W g)
  (n:∀(j:Nat) (t:TypeId) (r:Value),f.resultTypes[j]?=some t->(v.resultList f.resultTypes.size)[j]?=some r->Value.okWide P g .any 0 t r) :
  s.post enc P f apart fresh handsOn again W args v g:=by
 have h:∀p∈before,p.block<W.heap.size:=λp e=>l.lt p e
 have hold:∀p∈before,(λb=>decide (b<W.heap.size)) p.block=true:=λp e=>by simpa using h p e
 refine ⟨i,gs,before,[],pa,pv,l,d _ _ _,a _ hold,c _ hold,World.keptBut_mono (λp e=>⟨e,?_⟩) (o.frame (·∈before)),λ_=>?_⟩
 ·grind
 ·obtain ⟨_,_,_,_,_,q,u⟩:=l
  refine ⟨n,_,_,([] ++ pa) ++ pv,⟨[] ++ pa,pv,trodAll_append (a _ (λ_ _=>rfl)) (d _ _ _),c _ (λ_ _=>rfl),rfl,?_,?_⟩,?_⟩
  ·intro b off e
   have k:MemPlace.cell b off∈before:=by rw [m];simpa using e
   rw [o.frozen (h _ k)]
   exact q b off k
  all_goals grind
def shapeOf (P:Program) (t:TypeId):Option (Bool × List FK) :=
 match P.underlying t with
 | some d=>(flat P 20 t).map λl=>(Wy d,l)
 | none=>none
def E8 (P:Program):List TypeId->Bool
 | []=>true
 | t :: r=>P.readableRec t && Nat.blt t P.types.size && E8 P r
section
variable {H:Type} {enc:TypeId × Value->H} {P:Program} {W:World}
theorem rR {r:_root_.Go.Reach} {base:Nat} {u:TypeId} {a:Addr} {len cap:Nat} (h:Cell.okWide P W r base u (.slice (some a) len cap)):a.block<W.heap.size:=by
 unfold Cell.okWide at h
 have b:Cell.ok P W r base u (.slice (some a) len cap):=by
  grind
 unfold Cell.ok at b
 split at b <;> try (exact b.elim)
 all_goals rename_i c
 all_goals try (cases c;done)
 cases c
 obtain ⟨_,_,_,_,row,cells,d,_⟩:=b
 unfold World.shape? at d
 all_goals grind
theorem PD {base:Nat} {t:TypeId} {v:Value} {g:Bool} {l:List FK} {d:DataW H} {ps:List MemPlace} (q:shapeOf P t=some (g,l)) (c:Value.okWide P W .any base t v) (h:DataW.Trod enc P W 0 (λ_=>true) true t v d ps) :
  kg W v.cells.toList l/\v.cells.size=l.length/\(if g then v=.agg v.cells else v.cells=#[v])/\∀(a:Addr) (len cap:Nat),Value.slice (some a) len cap∈v.cells.toList->a.block<W.heap.size:=by
 unfold shapeOf at q
 split at q
 case h_2=>cases q
 rename_i E m
 simp only [Option.map_eq_some_iff,Prod.mk.injEq] at q
 obtain ⟨C,p,o,rfl⟩:=q
 obtain ⟨fuel,x⟩:=h
 have f:=(SH (enc:=enc) (P:=P) (w:=W) 20).1 t C fuel _ _ p x
 have s:v.cells.size=C.length:=by rw [<-Array.length_toList];exact f.length
 refine ⟨f,s,?_⟩
 unfold flat at p
 rw [m] at p
 have one:∀v:Value,nU v=false->v.cells=#[v]:=by
  intro v F
  unfold Value.cells
  split
  ·cases F
  ·rfl
 cases E <;> simp only at p <;> try (cases p;done)
 ·subst o
  obtain ⟨b,rfl⟩:=okWide_bool m c
  exact ⟨rfl,λa len cap e=>by simp [Value.cells] at e⟩
 ·rename_i k
  subst o
  obtain ⟨n,rfl⟩:=okWide_int m c
  exact ⟨rfl,λa len cap e=>by simp [Value.cells] at e⟩
 ·subst o
  obtain ⟨I,D,B,rfl⟩:=okWide_slice m c
  refine ⟨rfl,λa len cap e=>?_⟩
  simp [Value.cells] at e
  obtain ⟨rfl,rfl,rfl⟩:=e
  simp only [Value.okWide,m] at c
  exact rR c
 ·subst o
  simp only [Value.okWide,m] at c
  obtain ⟨r,rfl,_,G,_,_,A⟩:=c
  refine ⟨rfl,λa len cap e=>?_⟩
  obtain ⟨i,y,z⟩:=List.getElem_of_mem e
  have:r[i]?=some (.slice (some a) len cap):=by
   rw [<-Array.getElem?_toList]
   exact (List.getElem?_eq_getElem y).trans (by rw [z])
  obtain ⟨u,_,j⟩:=A i _ this
  exact rR j
 ·subst o
  simp only [Value.okWide,m] at c
  obtain ⟨r,rfl,_,G,_,_,A⟩:=c
  refine ⟨rfl,λa len cap e=>?_⟩
  obtain ⟨i,y,z⟩:=List.getElem_of_mem e
  have:r[i]?=some (.slice (some a) len cap):=by
   rw [<-Array.getElem?_toList]
   exact (List.getElem?_eq_getElem y).trans (by rw [z])
  obtain ⟨u,_,j⟩:=A i _ this
  exact rR j
theorem Cq {base:Nat} (laid:laidOutB P=true) {j:World} {sp:Nat->Bool}:∀{e:List TypeId} {f:List Value} {a:List (DataW H)} {ps:List MemPlace},E8 P e=true->DataW.TrodAll enc P W base (λ_=>true) true e f a ps ->
  (∀p∈ps,W.sameAt j p)->(∀p∈ps,sp p.block=true)->DataW.TrodAll enc P j base sp true e f a ps
 | [],[],[],_,_,h,_,_=>h
 | t :: e,v :: f,d :: a,ps,c,h,i,g=>by
  simp only [E8,Bool.and_eq_true,Nat.blt_eq] at c
  obtain ⟨p,q,l,k,rfl⟩:=h
  exact ⟨p,q,WideElems.Trod_stays laid c.1.1 c.1.2 l (λx b=>i x (List.mem_append_left _ b)) (λx b=>g x (List.mem_append_left _ b)),
    Cq laid c.2 k (λx b=>i x (List.mem_append_right _ b)) (λx b=>g x (List.mem_append_right _ b)),rfl⟩
 | [],_ :: _,a,_,_,h,_,_=>by cases a <;> exact h.elim
 | [],[],_ :: _,_,_,h,_,_=>h.elim
 | _ :: _,[],a,_,_,h,_,_=>by cases a <;> exact h.elim
 | _ :: _,_ :: _,[],_,_,h,_,_=>h.elim
end
end Go.Rex
namespace Go.Rex.D
section
variable {ρ:Env} {a b:IE} {c d:BE} {k:IntKind}
theorem le:((BE.ah a b).den ρ=true)=(a.den ρ<=b.den ρ):=propext ⟨of_decide_eq_true,decide_eq_true⟩
theorem lef:((BE.ah a b).den ρ=false)=(b.den ρ<a.den ρ):=propext ⟨λh=>Int.not_le.1 (of_decide_eq_false h),λh=>decide_eq_false (Int.not_le.2 h)⟩
theorem lt:((BE.aY a b).den ρ=true)=(a.den ρ<b.den ρ):=propext ⟨of_decide_eq_true,decide_eq_true⟩
theorem ltf:((BE.aY a b).den ρ=false)=(b.den ρ<=a.den ρ):=propext ⟨λh=>Int.not_lt.1 (of_decide_eq_false h),λh=>decide_eq_false (Int.not_lt.2 h)⟩
theorem eq:((BE.ag a b).den ρ=true)=(a.den ρ=b.den ρ):=propext (by simp [BE.den])
theorem eqf:((BE.ag a b).den ρ=false)=(¬a.den ρ=b.den ρ):=propext (by simp [BE.den])
theorem not:((BE.not c).den ρ=true)=(c.den ρ=false):=propext (by simp [BE.den])
theorem agf:((BE.not c).den ρ=false)=(c.den ρ=true):=propext (by simp [BE.den])
theorem and:((BE.and c d).den ρ=true)=(c.den ρ=true/\d.den ρ=true):=propext (by simp [BE.den])
theorem agh:((BE.and c d).den ρ=false)=(c.den ρ=false\/d.den ρ=false):=by grind [BE.den]
theorem or:((BE.or c d).den ρ=true)=(c.den ρ=true\/d.den ρ=true):=propext (by simp [BE.den])
theorem orf:((BE.or c d).den ρ=false)=(c.den ρ=false/\d.den ρ=false):=propext (by simp [BE.den])
theorem inr:((BE.inr k a).den ρ=true)=(k.min<=a.den ρ/\a.den ρ<=k.max):=propext (by simp only [BE.den,Bool.and_eq_true];exact ⟨λh=>⟨of_decide_eq_true h.1,of_decide_eq_true h.2⟩,λh=>⟨decide_eq_true h.1,decide_eq_true h.2⟩⟩)
theorem var {i:Nat}:(BE.var i).den ρ=ρ.bv i:=rfl
theorem lit {x:Bool}:(BE.lit x).den ρ=x:=rfl
theorem ab6 {r j:Nat}:(BE.cell r a b j).den ρ=ρ.bc r (a.den ρ).toNat (b.den ρ).toNat j:=rfl
theorem beq:((BE.beq c d).den ρ=true)=(c.den ρ=d.den ρ):=propext (by simp [BE.den])
theorem agi:((BE.beq c d).den ρ=false)=(¬c.den ρ=d.den ρ):=propext (by simp [BE.den])
theorem agj {x:Int}:(IE.lit x).den ρ=x:=rfl
theorem agk {i:Nat}:(IE.var i).den ρ=ρ.iv i:=rfl
theorem add:(IE.add a b).den ρ=a.den ρ+b.den ρ:=rfl
theorem sub:(IE.sub a b).den ρ=a.den ρ-b.den ρ:=rfl
theorem mul:(IE.mul a b).den ρ=a.den ρ * b.den ρ:=rfl
theorem min:(IE.sK a b).den ρ=Min.min (a.den ρ) (b.den ρ):=rfl
theorem max:(IE.imax a b).den ρ=Max.max (a.den ρ) (b.den ρ):=rfl
theorem ab7 {r j:Nat}:(IE.cell r a b j).den ρ=ρ.ic r (a.den ρ).toNat (b.den ρ).toNat j:=rfl
theorem Xr:IntKind.i64.min=-9223372036854775808:=by decide
theorem Xt:IntKind.i64.max=9223372036854775807:=by decide
theorem be {x:BE}:(QF.be x).den ρ=(x.den ρ=true):=rfl
end
end Go.Rex.D
namespace Go.Rex
open Go.WideShapes Go.ChangeShapes Go.RowKit
def zA:List SB->Bool
 | []=>true
 | b :: r=>b.gone && zA r
theorem Ju:∀{l:List SB} {k:Nat} {sb:SB},zA l=true->l[k]?=some sb->sb.gone=true
 | b :: r,0,sb,h,a=>by
  simp only [zA,Bool.and_eq_true] at h
  simp at a
  subst a
  exact h.1
 | b :: r,k+1,sb,h,a=>by
  simp only [zA,Bool.and_eq_true] at h
  exact Ju h.2 (by simpa using a)
theorem ZX {P:Program} {k:dJ} {pre post:Env->Prop} (n:∃fn,P.funcs[k.f]?=some fn/\fn.body.isSome=true/\(fn.name == "runtime.NumGoroutine")=false) (o:zA k.hp'=true)
  (f:∀ρ ν w,aD ρ ν k.hp w->iU ν k.gl->pre ρ.num->Calls P k.f (k.args.map (·.den ρ ν)).toArray w λe w'=>e=.returned (k.ret.den ρ ν)/\w'=w) (d:∀ρ:Env,pre ρ.num->post ρ.num):aK P k pre post:=by
 refine ⟨n,λρ ν w m h c=>(f ρ ν w m h c).mono ?_⟩
 rintro e w' ⟨rfl,rfl⟩
 have hd:∀(j:Nat) (sb:SB),k.hp'[j]?=some sb->sb.dead ρ=true:=λj sb g=>by
  grind [SB.dead,Ju]
 refine ⟨ρ,ν,bY.refl _ _ _ _,rfl,⟨λi j a b q g p=>?_,λj sb g l=>?_,λj sb g l=>?_⟩,cK.refl _ _,λj sb g _ l=>?_,d ρ c⟩
 all_goals grind
def mO (err:TypeId):List (Nat × TypeId × TypeId)->Nat->List SB
 | [],_=>[]
 | (_,b,a) :: r,k=>{t:=err,cs:=[.iface b (.ptr {ak:=k+1})],ro:=true} :: {t:=500000+a,cs:=[.hole],ro:=true} :: mO err r (k+2)
def eG:List (Nat × TypeId × TypeId)->Nat->List (Nat × Nat)
 | [],_=>[]
 | (g,_) :: r,k=>(g,k) :: (1000000+g,k+1) :: eG r (k+2)
def uz (W:World):List (Nat × TypeId × TypeId)->List Addr->Prop
 | [],[]=>True
 | (g,c,_) :: r,a :: b=>W.cell? ⟨g,0,none⟩=some (.iface c (.pointer (some a)))/\(∃v,W.cell? a=some v)/\uz W r b
 | _,_=>False
def zB:List (Nat × TypeId × TypeId)->List Addr->Nat->Addr
 | (g,_) :: _,_ :: _,0=>⟨g,0,none⟩
 | _ :: _,a :: _,1=>a
 | _ :: r,_ :: b,k+2=>zB r b k
 | _,_,_=>⟨0,0,none⟩
theorem E9 {W:World} {a:Addr} {v:Value} (h:W.cell? a=some v):a.block<W.heap.size:=by
 unfold World.cell? at h
 all_goals grind
theorem SK {ρ:Env} {ν:Nat->Addr} {t:TypeId} {c:SC} {v:Value} {ro:Bool} (h:c.isHole=false->v=c.den ρ ν):SB.has ρ ν {t:=t,cs:=[c],ro:=ro} #[v]:=by
 refine ⟨λu a=>(by cases a),λ_ _=>rfl,λe n h=>(by cases h),λp i d f=>?_,λj g b=>(by simp at b)⟩
 all_goals grind
theorem SL {ρ:Env} {ν:Nat->Addr} {W:World} {err:TypeId}:∀{ss:List (Nat × TypeId × TypeId)} {aS0:List Addr} {k:Nat},uz W ss aS0->Nat.blt err 500000=true->(∀a∈aS0,∃c t,W.heap[a.block]?=some (.cells c t (0,0)))->(∀j,j<2 * ss.length->ν (k+j)=zB ss aS0 j) ->
  (∀(i:Nat) (sb:SB),(mO err ss k)[i]?=some sb->ajV ρ ν W (k+i) sb)/\∀g m,Nat.blt g 1000000=true->assoc g (eG ss k)=some m->ν m=⟨g,0,none⟩
 | [],[],_,_,_,_,_=>⟨λi sb h=>by simp [mO] at h,λg m _ h=>by simp [eG,assoc] at h⟩
 | (g,C,G) :: r,a :: aS0,k,h,u,l,s=>by
  obtain ⟨x,⟨v,w⟩,D⟩:=h
  have q:ν k=⟨g,0,none⟩:=s 0 (by simp only [List.length_cons];omega)
  have o:ν (k+1)=a:=s 1 (by simp only [List.length_cons];omega)
  obtain ⟨E,z⟩:=SL (ρ:=ρ) (ν:=ν) (err:=err) (k:=k+2) D u (λa F=>l a (List.mem_cons_of_mem _ F)) λj H=>by
   have:=s (j+2) (by simp only [List.length_cons];omega)
   rw [show k+2+j=k+(j+2) by omega,this]
   rfl
  refine ⟨λi sb b=>?_,λA m f e=>?_⟩
  ·match i,b with
   | 0,b =>
    simp [mO] at b
    subst b
    refine ⟨⟨rfl,rfl⟩,λ_=>⟨⟨by rw [Nat.add_zero,q];exact E9 x,λ_ h=>absurd h (by simp only [Nat.blt_eq] at u;simp [Nat.not_le.2 u])⟩,#[.iface C (.pointer (some a))],SK λ_=>?_,λp y d=>?_⟩⟩
    ·simp [SC.den,SA.den,SA.off,o,IE.den,Addr.add]
    ·cases p with
     | zero =>
      simp at d
      subst d
      rw [Nat.add_zero,q]
      exact x
     | succ p=>simp at d
   | 1,b =>
    simp [mO] at b
    subst b
    refine ⟨⟨rfl,rfl⟩,λ_=>⟨⟨by rw [o];exact E9 w,λ_ _=>by rw [o];exact l a (List.mem_cons_self ..)⟩,#[v],SK λB=>(by cases B),λp y d=>?_⟩⟩
    cases p with
    | zero =>
     simp at d
     subst d
     rw [o]
     simpa [Addr.add] using w
    | succ p=>simp at d
   | i+2,b =>
    have:=E i sb (by simpa [mO] using b)
    rwa [show k+2+i=k+(i+2) by omega] at this
  ·unfold eG assoc at e
   split at e
   ·rename_i n
    simp at n e
    subst n
    subst e
    exact q
   ·unfold assoc at e
    split at e
    ·rename_i n
     simp only [beq_iff_eq] at n
     simp only [Nat.blt_eq] at f
     omega
    ·exact z A m f e
theorem GU {ν:Nat->Addr} {W:World}:∀{ss:List (Nat × TypeId × TypeId)} {aS0:List Addr} {k:Nat},uz W ss aS0->(ss.all λx=>Nat.blt x.1 1000000)=true->(∀j,j<2 * ss.length->ν (k+j)=zB ss aS0 j) ->
  ∀g m,Nat.blt g 1000000=false->assoc g (eG ss k)=some m->∃(i:Nat) (a:Addr),(ss.map (·.1))[i]?=some (g-1000000)/\aS0[i]?=some a/\ν m=a
 | [],[],_,_,_,_,g,m,_,h=>by simp [eG,assoc] at h
 | (s,u,t) :: r,a :: aS0,k,h,e,l,g,m,f,c=>by
  obtain ⟨-,-,p⟩:=h
  simp only [List.all_cons,Bool.and_eq_true] at e
  unfold eG assoc at c
  split at c
  ·rename_i d
   simp only [beq_iff_eq] at d
   subst d
   rw [e.1] at f
   cases f
  ·unfold assoc at c
   split at c
   ·rename_i d
    simp only [beq_iff_eq] at d
    simp only [Option.some.injEq] at c
    subst c
    exact ⟨0,a,by simp [<-d],rfl,l 1 (by simp only [List.length_cons];omega)⟩
   ·obtain ⟨i,b,n,q,o⟩:=GU (ν:=ν) (k:=k+2) p e.2 (λj w=>by
       have:=l (j+2) (by simp only [List.length_cons];omega)
       rw [show k+2+j=k+(j+2) by omega,this]
       rfl) g m f c
    exact ⟨i+1,b,by simpa using n,by simpa using q,o⟩
theorem aei {ν:Nat->Addr} {W:World} {ss:List (Nat × TypeId × TypeId)} {aS0:List Addr} {k:Nat} (h:uz W ss aS0) (s:(ss.all λx=>Nat.blt x.1 1000000)=true) (t:∀j,j<2 * ss.length->ν (k+j)=zB ss aS0 j) (c:aS0.Nodup)
  (g d m o:Nat) (A:Nat.blt g 1000000=false) (w:Nat.blt d 1000000=false) (B:assoc g (eG ss k)=some m) (y:assoc d (eG ss k)=some o) (u:g≠d):ν m≠ν o:=by
 obtain ⟨i,a,z,D,rfl⟩:=GU h s t g m A B
 obtain ⟨j,b,p,C,rfl⟩:=GU h s t d o w y
 intro e
 have n:i≠j:=λe=>by
  subst e
  rw [z] at p
  simp only [Option.some.injEq] at p
  all_goals grind [Nat.blt_eq]
 have f:=(List.getElem?_eq_some_iff.1 D)
 have l:=(List.getElem?_eq_some_iff.1 C)
 obtain ⟨r,f⟩:=f
 obtain ⟨q,l⟩:=l
 rcases Nat.lt_or_gt_of_ne n with h | h
 ·exact List.pairwise_iff_getElem.1 c i j r q h (by rw [f,l,e])
 ·exact List.pairwise_iff_getElem.1 c j i q r h (by rw [f,l,e])
section
variable {H:Type} {enc:TypeId × Value->H} {P:Program} {W:World}
end
end Go.Rex
