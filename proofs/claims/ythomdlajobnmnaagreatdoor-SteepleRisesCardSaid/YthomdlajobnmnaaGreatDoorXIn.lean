/- SteepleRises: what is handed in -/
import Derived.Test.YthomdlajobnmnaaGreatDoorX31
set_option linter.unusedSimpArgs false
set_option linter.unusedVariables false
namespace Go.Rex
open Go.WideShapes Go.ChangeShapes Go.RowKit
section
variable {H:Type} {enc:TypeId × Value->H} {P:Program} {W:World}
theorem qz {b:Nat} {sp:Nat->Bool} {hd:Bool}:∀{c:List TypeId} {d:List Value} {a:List (DataW H)} {ps:List MemPlace},DataW.TrodAll enc P W b sp hd c d a ps->a.length=c.length/\d.length=c.length
 | [],[],[],_,_=>⟨rfl,rfl⟩
 | _ :: _,_ :: _,_ :: _,_,⟨_,_,_,h,_⟩=>by simp [(qz h).1,(qz h).2]
 | [],_ :: _,a,_,h=>by cases a <;> exact h.elim
 | [],[],_ :: _,_,h=>h.elim
 | _ :: _,[],a,_,h=>by cases a <;> exact h.elim
 | _ :: _,_ :: _,[],_,h=>h.elim
theorem Zm (laid:laidOutB P=true) {f:FuncId} {fn:Func} {s:ChangeSpec} {apart fresh handsOn again:Bool} {tb:TypeId} (h:E8 P fn.params.toList=true)
  (c:s.vars=[]) (g:fn.resultTypes=#[tb]) (u:P.underlying tb=some .bool)
  (i:∀(H:Type) (d:List (DataW H)),d.length=fn.params.toList.length->(s.fn H d).results=[.lit (.bool true)]/\(s.fn H d).args=d/\(s.fn H d).vars=[])
  {args:Array Value} {d gs:List (DataW H)} {before:List MemPlace}
  (w:DataW.Whole enc P fn.params.toList s.vars apart W args.toList d gs before)
  (j:Calls P f args W λe n=>e=.returned (.bool true)/\cK W (λ_=>False) n) :
  Calls P f args W λe n=>∃v,e=.returned v/\s.post enc P fn apart fresh handsOn again W args v n:=by
 have l:=w
 obtain ⟨p,q,y,z,rfl,D,B⟩:=w
 rw [c] at z
 obtain ⟨rfl,rfl⟩:=trodVars_none z
 refine j.mono λe n C=>?_
 obtain ⟨rfl,o⟩:=C
 have a:Below W.heap.size W n:=⟨o.os,o.tape,o.output,o.size,λk A=>o.block k A id⟩
 obtain ⟨s1,s2,s3⟩:=i H d (qz y).1
 have r:∀x∈p,x.block<W.heap.size:=λx m=>l.lt x (List.mem_append_left _ m)
 refine ⟨_,rfl,UM (pa:=p) (pv:=[]) l (λb sp hd=>?_) (λsp t=>?_) (λsp _=>?_) rfl a ?_⟩
 ·rw [List.append_nil,s1,g]
  exact trodAll_mk1 ⟨1,by simp [DataW.trod,u,Value.cells]⟩
 ·rw [List.append_nil,s2]
  exact Cq laid h y (λx m=>a.same (r x m)) (λx m=>t x (List.mem_append_left _ m))
 ·rw [List.append_nil,s3,c]
  rfl
 ·exact ok_one g rfl (okWide_bool_mk u true)
end
end Go.Rex
namespace Go.Proofs.YthomdlajobnmnaaGreatDoor.Sk
open Go.RowKit Go.Rex Go.WideShapes Go.ChangeShapes
def rdI:Value->Int
 | .int _ n=>n
 | _=>0
def CF (w:World) (a:Addr) (k:Nat):Int:=rdI ((w.cell? (a.add k)).getD (.int .i64 0))
def yx (w:World):Value->List Op
 | .slice (some a) n _=>(List.range n).map λj=>⟨CF w a (4 * j),CF w a (4 * j+1),CF w a (4 * j+2),CF w a (4 * j+3)⟩
 | _=>[]
def rdA (d:Nat):Value->Nat
 | .slice (some a) (_+1) _=>a.block
 | _=>d
theorem row_in {w:World} {v:Value} {d:Nat} {t:TypeId} (h:ZW w v (.sl t [.int .i64,.int .i64,.int .i64,.int .i64])) (hd:d<w.heap.size) :
  (∃c:Sl (rdA d v) (yx w v).length,v=.slice c.1.1 (yx w v).length c.1.2/\pV w c.1.1 (yx w v))/\rdA d v<w.heap.size:=by
 rcases h with rfl | ⟨a,len,cap,rfl,-,-,h⟩
 ·exact ⟨⟨⟨(none,0),λh=>absurd h (Nat.lt_irrefl _)⟩,rfl,⟨λi o f=>by simp [yx] at f⟩⟩,hd⟩
 ·have g:∀i j,i<len->j<4->w.cell? (a.add (4 * i+j))=some (.int .i64 (CF w a (4 * i+j))):=λi j f s=>by
   obtain ⟨u,k,p⟩:=h i j (.int .i64) f (by match j,s with | 0,_ | 1,_ | 2,_ | 3,_=>rfl)
   obtain ⟨n,rfl,-⟩:=p
   have e:i * [Kd.int IntKind.i64,.int .i64,.int .i64,.int .i64].length+j=4 * i+j:=by simp only [List.length_cons,List.length_nil];omega
   rw [e] at k
   rw [k,CF,k]
   rfl
  have l:(yx w (.slice (some a) len cap)).length=len:=by simp [yx]
  refine ⟨⟨⟨(some a,cap),λm q e=>?_⟩,congrArg (λn=>Value.slice (some a) n cap) l.symm,⟨λi o f=>?_⟩⟩,?_⟩
  ·obtain rfl:a=q:=Option.some.inj e
   rw [l] at m
   cases len with
   | zero=>exact absurd m (Nat.lt_irrefl _)
   | succ n=>rfl
  ·have b:=(List.getElem?_eq_some_iff.1 f).1
   rw [l] at b
   have r:o=⟨CF w a (4 * i),CF w a (4 * i+1),CF w a (4 * i+2),CF w a (4 * i+3)⟩:=by
    simp [yx,b] at f
    exact f.symm
   subst r
   exact ⟨a,rfl,g i 0 b (by decide),g i 1 b (by decide),g i 2 b (by decide),g i 3 b (by decide)⟩
  ·cases len with
   | zero=>exact hd
   | succ n=>exact E9 (g 0 0 (Nat.succ_pos _) (by decide))
section
variable {H:Type} {enc:TypeId × Value->H} {W:World}
theorem afq {v:Value} (h:ZW W v (.sl 3 [.int .i64])):∃l,Rd W v l:=by
 rcases h with rfl | ⟨a,len,cap,rfl,e,d,h⟩
 ·exact ⟨[],none,0,rfl,Nat.le_refl _,by omega,λk b=>absurd b (Nat.not_lt_zero _)⟩
 ·refine ⟨(List.range len).map λj=>CF W a j,some a,cap,by simp,by simpa using e,d,λk b=>⟨a,rfl,?_⟩⟩
  simp only [List.length_map,List.length_range] at b
  obtain ⟨u,c,n,rfl,-⟩:=h k 0 (.int .i64) b rfl
  simp only [List.length_cons,List.length_nil,Nat.zero_add,Nat.mul_one,Nat.add_zero] at c
  rw [c]
  simp [List.getD,b,CF,c,rdI]
theorem afr {v:Value} {fuel:Nat} {x:DataW H × List MemPlace} (h:DataW.trod enc Tryz.prog W 0 (λ_=>true) true fuel 33 [v]=some x):∃n A L,Ro W v n A L:=by
 rcases Go.Deep.open_slice1 (e:=25) Tryz.underlying33 (by kernel_rfl) h with ⟨d,-⟩ | ⟨a,len,cap,m,q,V,D,z,d,-,y,-,t,-,s⟩
 ·obtain rfl:v=.slice none 0 0:=by simpa using d
  exact ⟨0,λ_=>0,λ_=>[],none,0,rfl,λh=>absurd h (Nat.lt_irrefl _)⟩
 ·obtain rfl:v=.slice (some a) len cap:=by simpa using d
  refine ⟨len,λi=>rdA a.block (V i),λi=>yx W (V i),some a,cap,rfl,λd=>⟨a,rfl,⟨λi r=>?_⟩⟩⟩
  have g:i<m:=by
   rw [t]
   split <;> omega
  obtain ⟨l,k⟩:=s i g
  have j:flat Tryz.prog 20 25=some [.sl 28 [.int .i64,.int .i64,.int .i64,.int .i64]]:=by kernel_rfl
  have b:=(SH (enc:=enc) (P:=Tryz.prog) (w:=W) 20).1 _ _ q _ _ j k
  have f:a.block<W.heap.size:=by
   have:=E9 l
   unfold Addr.add at this
   split at this <;> exact this
  obtain ⟨⟨c,o,u⟩,p⟩:=row_in b.1 f
  exact ⟨⟨c,by rw [l];exact congrArg some o,u⟩,p⟩
end
theorem abR {W:World} {l:List Value} (h:kg W l [.int .i64,.int .i64,.int .i64]):∃e f g:Int,l=[.int .i64 e,.int .i64 f,.int .i64 g]:=by
 rcases l with _ | ⟨a,_ | ⟨b,_ | ⟨c,_ | ⟨d,l⟩⟩⟩⟩
 ·exact h.elim
 ·exact h.2.elim
 ·exact h.2.2.elim
 ·obtain ⟨⟨e,k,-⟩,⟨f,j,-⟩,⟨g,i,-⟩,-⟩:=h
  exact ⟨e,f,g,by rw [k,j,i]⟩
 ·exact h.2.2.2.elim
set_option maxRecDepth 100000 in
theorem Ws {H:Type} {enc:TypeId × Value->H} {W:World} {q:List Addr} (o:uz W Ct q) (x:q.Nodup) (C:∀a∈q,∃c t,W.heap[a.block]?=some (.cells c t (0,0)))
  {args:Array Value} {z:List (DataW H)} {p:List MemPlace} {base:Nat}
  (d:∀(j:Nat) t v,Tryz.f7.params[j]?=some t->args[j]?=some v->Value.okWide Tryz.prog W .any base t v)
  (w:DataW.TrodAll enc Tryz.prog W 0 (λ_=>true) true Tryz.f7.params.toList args.toList z p) :
  Calls Tryz.prog 7 args W λe V=>e=.returned (.bool true)/\cK W (λ_=>False) V:=by
 rw [Tryz.params7] at d w
 obtain ⟨l⟩:=args
 obtain ⟨v0,h,f,rfl⟩:∃v0 h f,l=[v0,h,f]:=by
  have hlen:=(qz w).2
  match l,hlen with
  | [v0,h,f],_=>exact ⟨v0,h,f,rfl⟩
 obtain ⟨F,d1,d2,rfl⟩:∃F d1 d2,z=[F,d1,d2]:=by
  have hlen:=(qz w).1
  match z,hlen with
  | [v0,h,f],_=>exact ⟨v0,h,f,rfl⟩
 obtain ⟨p0,q0,O,⟨p1,u,Q,⟨Y,K,M,-,-⟩,-⟩,-⟩:=w
 obtain ⟨P,-,E,-⟩:=PD (g:=true) (l:=[.int .i64,.int .i64,.int .i64]) (by kernel_rfl) (d 0 _ v0 rfl rfl) O
 obtain ⟨I,-,g2,-⟩:=PD (g:=false) (l:=[.sl 3 [.int .i64]]) (by kernel_rfl) (d 2 _ f rfl rfl) M
 simp only [if_true] at E
 have g2:f.cells=#[f]:=g2
 rw [g2] at I
 obtain ⟨l,S⟩:=afq I.1
 obtain ⟨a0,n0,c0,rfl⟩:=okWide_slice Tryz.underlying33 (d 1 _ h rfl rfl)
 obtain ⟨fuel,B⟩:=Q
 obtain ⟨n,A,L,R⟩:=afr B
 obtain ⟨m,s,r,rfl⟩:∃m s r,v0=.agg #[.int .i64 m,.int .i64 s,.int .i64 r]:=by
  rw [E]
  obtain ⟨m,s,r,e⟩:=abR P
  exact ⟨m,s,r,congrArg Value.agg (Array.toList_inj.1 e)⟩
 obtain ⟨u,K⟩:=SL (ρ:={}) (ν:=zB Ct q) (err:=36) (k:=0) o (by decide) C λj J=>by rw [Nat.zero_add]
 have T:Aa W (zB Ct q):=by
  refine ⟨⟨{},⟨λi j a b U J X Z N he=>?_,λk sb y D G=>?_,λk sb y D G=>?_⟩⟩,⟨K,aei (k:=0) o (by decide) (λj J=>by rw [Nat.zero_add]) x⟩⟩
  ·have:=(u i a U).1.1
   rw [N] at this;cases this
  ·have:=(u k sb y).1.1
   rw [G] at this;cases this
  ·have:=(u k sb y).2 D
   rwa [Nat.zero_add] at this
 exact Wq W _ m s r n A L _ _ l T R S
end Go.Proofs.YthomdlajobnmnaaGreatDoor.Sk
