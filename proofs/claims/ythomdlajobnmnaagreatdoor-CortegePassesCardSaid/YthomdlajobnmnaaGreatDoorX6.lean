/- part 6 of the proof -/
import Derived.Test.YthomdlajobnmnaaGreatDoorX5
set_option linter.unusedSimpArgs false
set_option linter.unusedVariables false
namespace Go.Rex
def rQ (P:Program) (ρ:Env) (ν:Nat→Addr) (w:World) (hp:List SB) (a:Act) (nv:Nat) (o:Oper):ER→Prop
 | .val v os=>(∀c∈os,c.den ρ=true)→(execOp a.eval o).run P w=.ok (.value (v.den ρ ν)) w
 | .new v sb os=>ν hp.length=⟨w.heap.size,0,none⟩→(∀c∈os,c.den ρ=true)→∃obj arr,fC (some obj) sb.t arr∧sb.has ρ ν arr∧sb.ro=false∧(execOp a.eval o).run P w=.ok (.value (v.den ρ ν)) (w.alloc obj)
 | .st b sb os=>(∀c∈os,c.den ρ=true)→∃r w' sb0,(r=Next.skip∨r=.value (.tuple #[]))∧hp[b]?=some sb0∧sb0.own=true∧sb0.dead ρ=false∧(execOp a.eval o).run P w=.ok r w'∧Mo (ν b).block w w'∧aH ρ ν (hp.set b sb) w'
 | .app b v sb _ fs os=>(∀c∈os,c.den ρ=true)→∃vr w',(execOp a.eval o).run P w=.ok (.value vr) w'∧Gg ρ ν w hp nv b v sb fs vr w'
 | .call f args=>∀fn,P.funcs[f]?=some fn→fn.body.isSome=true→(fn.name == "runtime.NumGoroutine")=false→(execOp a.eval o).run P w=.ok (.enter f (args.map (·.den ρ ν)).toArray) w
 | _=>True
section
variable {P:Program} {T:aY} {ρ:Env} {ν:Nat→Addr} {w:World} {gl:List (Nat × Nat)} {kn:Kn} {fr:Fr} {hp:List SB} {a:Act} {nv:Nat} {o:Oper}
theorem Bn (t:TypeId) (cs:List SC) (sb:SB) (h1:sb.cs=cs) (h2:sb.aX=[]) (h3:sb.ups=[]) (h4:∀e n,sb.cap=some (e,n)→0≤e.den ρ∧cs.length=(e.den ρ).toNat * n):sb.has ρ ν (cs.map (·.den ρ ν)).toArray:=by
 refine ⟨fun u hu=>(by rw [h3] at hu;cases hu),fun _ _=>by simp [h1],fun e n he=>?_,fun p c hp hh=>?_,fun gi g hg=>(by rw [h2] at hg;simp at hg)⟩
 ·obtain ⟨q1,q2⟩:=h4 e n he
  exact ⟨q1,by simpa using q2⟩
 ·rw [h1] at hp
  simp [hp]
theorem ac5 (n size:Nat) (l:List SC) (z:Array Value) (hz:z.toList=l.map (·.den ρ ν)) (hs:l.length=size) (h0:0<size) :
  ((Array.range (n * size)).map (z[· % z.size]!))=((zs n size l).map (·.den ρ ν)).toArray:=by
 have hsz:z.size=size:=by rw [←hs,←Array.length_toList,hz,List.length_map]
 apply Array.ext'
 simp only [Array.toList_map,Array.toList_range,zs,List.map_map]
 apply List.map_congr_left
 intro i _
 have hlt:i % size<size:=Nat.mod_lt _ h0
 simp only [Function.comp]
 rw [hsz]
 have h1:z[i % size]?=some ((l.getD (i % size) .hole).den ρ ν):=by
  rw [←Array.getElem?_toList,hz,List.getElem?_map,List.getD_eq_getElem?_getD,List.getElem?_eq_getElem (by omega)]
  rfl
 rw [getElem!_def,h1]
theorem ac6 (g n:Nat):(⟨g,0,none⟩:Addr).add n=⟨g,n,none⟩:=by
 unfold Addr.add
 split <;> simp_all
theorem JQ {place:Nat→Option (Nat × Nat)}:∀{parts:List (Nat × SW)} {cs cs':List SC},qL place cs parts=some cs'→cs'.length=cs.length
 | [],cs,cs',h=>by simp [qL] at h;subst h;rfl
 | (i,x) :: r,cs,cs',h=>by
  unfold qL at h
  split at h
  ·cases h
  ·split at h
   ·rw [JQ h,Aj]
   ·cases h
variable (hT:dD P T) (hg:iQ ν gl) (hk:Kn.ok ρ kn) (hf:ou ρ ν fr a) (hh:aH ρ ν hp w)
include hT hg hk hf
theorem Rz {t:TypeId} {len:Nat} {parts:Array (Nat × Operand)} (ho:o.op=.buildSlice t len parts):rQ P ρ ν w hp a nv o (AU T gl kn fr hp t len parts):=by
 have eH:∀{x v},dK gl kn fr x=some v→a.eval x=v.den ρ ν:=fun hx=>lh hg hk hf hx
 unfold AU
 split
 case h_2=>trivial
 rename_i ti hti
 split
 case h_2=>trivial
 rename_i e he
 split
 case h_2=>trivial
 rename_i te ps hte hps
 split
 case isFalse=>trivial
 rename_i hcond
 simp only [Bool.and_eq_true,decide_eq_true_eq] at hcond
 split
 case h_2=>trivial
 rename_i cs ym
 intro lu _
 obtain ⟨d,hd,hc,-⟩:=(hT.ty hti).und
 rw [he] at hc
 cases d <;> simp [fJ] at hc
 subst hc
 obtain ⟨i,z,hi,hs,hz,hzc,hza,hzl,-⟩:=(hT.ty hte).info
 have hzd:=oL (ρ:=ρ) (ν:=ν) hzc
 have hlen:cs.length=len * te.size:=by rw [JQ ym];simp [zs]
 refine ⟨_,(cs.map (·.den ρ ν)).toArray,fC.mH (hT.ty hte).lt,Bn e cs _ rfl rfl rfl (fun e0 n he0=>?_),rfl,?_⟩
 ·simp only [Option.some.injEq,Prod.mk.injEq] at he0
  obtain ⟨rfl,rfl⟩:=he0
  simp only [IE.den,Int.toNat_natCast]
  exact ⟨Int.natCast_nonneg _,hlen⟩
 have hparts:(parts.map fun (p:Nat × Operand)=>(p.1,a.eval p.2)).toList=ps.map fun p=>(p.1,p.2.den ρ ν):=by
  clear ym ho
  rw [Array.toList_map]
  generalize parts.toList=l at *
  induction l generalizing ps with
  | nil=>simp [Jq] at hps;subst hps;rfl
  | cons p l ih =>
   simp only [List.map_cons] at hps
   unfold Jq at hps
   split at hps
   ·rename_i h0;cases h0
   ·rename_i i0 x0 r0 h0
    simp only [List.cons.injEq,Prod.mk.injEq] at h0
    obtain ⟨⟨rfl,hx⟩,rfl⟩:=h0
    simp only [Option.map_eq_some_iff] at hps
    obtain ⟨q,hq,rfl⟩:=hps
    simp only [List.map_cons,ih _ hq,eH hx,SV.den]
   ·cases hps
 have hf:=yj (ρ:=ρ) (ν:=ν) (place:=fun i=>some (i * te.size,te.size)) (LA:=fun i=>some (i * te.size,te.size)) (fun k p hk=>hk) ym
 have hrun:(Instr.buildSlice t len (parts.map fun (p:Nat × Operand)=>(p.1,a.eval p.2))).run P w=.ok (.slice (some ⟨w.heap.size,0,none⟩) len len) (w.alloc (.cells (cs.map (·.den ρ ν)).toArray e)):=by
  by_cases h0:len * te.size=0
  ·have hz0:zs len te.size te.zero=[]:=by simp [zs,h0]
   rw [hz0] at hf
   have hf':Instr.fill (fun i=>some (i * te.size,te.size)) #[] (parts.map fun (p:Nat × Operand)=>(p.1,a.eval p.2)).toList=some (cs.map (·.den ρ ν)).toArray:=by rw [hparts];exact hf
   have hl0:len=0:=(Nat.mul_eq_zero.1 h0).resolve_right (by omega)
   subst hl0
   rw [Array.toList_map] at hf'
   have e0:(Array.map (fun (_:Nat)=>(default:Value)) (Array.range 0))=#[]:=by apply Array.ext';simp
   simp [Instr.buildSlice,run_underlying hd,(hT.ty hte).size,e0,hf',newRow]
  ·exact run_buildSlice (P:=P) w t e len (parts.map fun (p:Nat × Operand)=>(p.1,a.eval p.2)) (cs.map (·.den ρ ν)).toArray i z hd hi hz (by rw [hs];omega) (by rw [hs];exact h0) (by
      rw [hs,hparts,ac5 (ρ:=ρ) (ν:=ν) len te.size te.zero z.cells hzd hzl hcond.2]
      exact hf)
 unfold execOp
 simp only [ho,Sem.run_bind]
 rw [hrun]
 simp [SV.den,SW.den,SC.den,SA.den,SA.off,IE.den,lu,Addr.add_zero]
omit hT hg hk hf in
theorem RA {zero:List SC} {g:ae} (h:CQ zero g=true):g.z=true∧∀i2 j,i2<g.n2→j<g.ks.length→∃k c,g.ks[j]?=some k∧zero[i2 * g.s2+g.lo+j]?=some c∧wU k c=true:=by
 unfold CQ at h
 simp only [Bool.and_eq_true,List.all_eq_true,List.mem_range] at h
 refine ⟨h.1,fun i2 j h1 h2=>?_⟩
 have:=h.2 i2 h1 j h2
 split at this
 ·rename_i k c hk hc
  exact ⟨k,c,hk,hc,this⟩
 ·cases this
omit hT hg hk hf in
theorem DF {k:Kd} {c:SC} (h:wU k c=true) (g:ae) (hz:g.z=true) {i1 i2 j:Nat} (hk:g.ks[j]?=some k):c.den ρ ν=g.base ρ i1 i2 j:=by
 unfold wU at h
 split at h
 ·rename_i a b n
  simp only [Bool.and_eq_true,beq_iff_eq] at h
  have:=iL h.1
  subst this
  simp [SC.den,IE.den,ae.base,hk,hz,h.2]
 ·rename_i b
  simp at h
  simp [SC.den,BE.den,ae.base,hk,hz,h]
 ·cases h
omit hg hk hf in
theorem XN {e:TypeId} {te:TI} {n:IE} {aX:List ae} {z:Array Value} (hz:z.toList=te.zero.map (·.den ρ ν)) (hzl:te.zero.length=te.size) (h0:0<te.size) (hn:0≤n.den ρ)
  (hs:∀g∈aX,CQ te.zero {g with n1:=n,s1:=te.size}=true) (hne:aX≠[]) (cap:Option (IE × Nat)) (hcap:cap=some (n,te.size)) :
  SB.has ρ ν {t:=e,aX:=aX.map fun g=>{g with n1:=n,s1:=te.size},own:=true,cap:=cap} (madeCells z ((n.den ρ).toNat * te.size)):=by
 have _:=hT
 have hsz:z.size=te.size:=by rw [←Array.length_toList,hz,List.length_map,hzl]
 refine ⟨fun u hu=>(by cases hu),fun h=>absurd (List.map_eq_nil_iff.1 h) hne,fun e' m he=>?_,fun p c hp=>(by simp at hp),fun gi g hg i1 i2 j h1 h2 h3=>?_⟩
 ·rw [hcap] at he
  simp only [Option.some.injEq,Prod.mk.injEq] at he
  obtain ⟨rfl,rfl⟩:=he
  exact ⟨hn,size_madeCells _ _⟩
 ·simp only [List.getElem?_map,Option.map_eq_some_iff] at hg
  obtain ⟨g0,hg0,rfl⟩:=hg
  have hzs:=hs g0 (List.mem_of_getElem? hg0)
  obtain ⟨hzz,ahE⟩:=RA hzs
  obtain ⟨k,c,hk',hc,hfit⟩:=ahE i2 j h2 h3
  have hlt:i2 * g0.s2+g0.lo+j<te.size:=by rw [←hzl];exact (List.getElem?_eq_some_iff.1 hc).1
  simp only [cK]
  rw [←DF (ρ:=ρ) (ν:=ν) hfit _ hzz hk']
  have hi:i1<(n.den ρ).toNat:=by simp only at h1;omega
  have hpos:i1 * te.size+i2 * g0.s2+g0.lo+j<(n.den ρ).toNat * te.size:=by
   have:(i1+1) * te.size≤(n.den ρ).toNat * te.size:=Nat.mul_le_mul_right _ hi
   rw [Nat.add_mul] at this
   omega
  have hmod:(i1 * te.size+i2 * g0.s2+g0.lo+j) % te.size=i2 * g0.s2+g0.lo+j:=by
   rw [show i1 * te.size+i2 * g0.s2+g0.lo+j=te.size * i1+(i2 * g0.s2+g0.lo+j) by rw [Nat.mul_comm];omega,Nat.mul_add_mod,Nat.mod_eq_of_lt hlt]
  have hzc:z[i2 * g0.s2+g0.lo+j]?=some (c.den ρ ν):=by rw [←Array.getElem?_toList,hz,List.getElem?_map,hc];rfl
  unfold madeCells
  rw [Array.getElem?_map,Array.getElem?_range,if_pos hpos]
  simp only [Option.map_some,hsz,hmod]
  rw [getElem!_def,hzc]
theorem UH {t:TypeId} {l c:Operand} (ho:o.op=.makeSlice t l c):rQ P ρ ν w hp a nv o (El T gl kn fr hp t l c):=by
 have eH:∀{x v},dK gl kn fr x=some v→a.eval x=v.den ρ ν:=fun hx=>lh hg hk hf hx
 unfold El
 split
 case h_2=>trivial
 rename_i ti hti
 split
 case h_2=>trivial
 rename_i e he
 split
 case h_2=>trivial
 rename_i te k1 n k2 m hte hl hc
 simp only
 split
 case isFalse=>trivial
 rename_i hcond
 simp only [Bool.and_eq_true,decide_eq_true_eq,Bool.not_eq_true',List.isEmpty_eq_false_iff,List.all_eq_true,List.mem_map,forall_exists_index,and_imp,forall_apply_eq_imp_iff₂] at hcond
 obtain ⟨⟨⟨c1,c2⟩,c3⟩,c4⟩:=hcond
 have hnm:=IE.aD c1
 subst hnm
 intro lu hos
 have b1:=of_decide_eq_true (hos _ (by simp):BE.den ρ (.ai (.lit 0) n)=true)
 have b2:=of_decide_eq_true (hos _ (by simp):BE.den ρ (.ai (n.Ma (.lit te.bytes)) (.lit 281474976710656))=true)
 have b3:=of_decide_eq_true (hos _ (by simp):BE.den ρ (.ai n (.lit 9223372036854775807))=true)
 rw [MB] at b2
 simp only [IE.den] at b1 b2 b3
 obtain ⟨d,hd,hcd,-⟩:=(hT.ty hti).und
 rw [he] at hcd
 cases d <;> simp [fJ] at hcd
 subst hcd
 obtain ⟨i,z,hi,hs,hz,hzc,hza,hzl,hby⟩:=(hT.ty hte).info
 have hzd:=oL (ρ:=ρ) (ν:=ν) hzc
 refine ⟨_,madeCells z.cells ((n.den ρ).toNat * te.size),fC.mH (hT.ty hte).lt,XN hT hzd hzl c2 b1 c3 (fun h=>c4 (by rw [h];rfl)) _ rfl,rfl,?_⟩
 have hr:=run_make (P:=P) w t e i z hd hi hz k1 k2 (n.den ρ) (n.den ρ) b1 (Int.le_refl _) (by rw [hby,Int.mul_comm];exact b2) b3
 rw [hs] at hr
 have e1:a.eval l=.int k1 (n.den ρ):=eH hl
 have e2:a.eval c=.int k2 (n.den ρ):=eH hc
 unfold execOp
 simp only [ho,e1,e2,Sem.run_bind]
 rw [hr]
 simp [SV.den,SW.den,SC.den,SA.den,SA.off,IE.den,lu,Addr.add_zero]
theorem RB {t:TypeId} {r:Option Operand} (ho:o.op=.makeMap t r):rQ P ρ ν w hp a nv o (AY T hp t r):=by
 have _:=hT;have _:=hg;have _:=hk;have _:=hf
 unfold AY
 split
 case isFalse=>trivial
 rename_i hc
 simp only [Bool.and_eq_true,Option.isNone_iff_eq_none] at hc
 obtain ⟨hty,rfl⟩:=hc
 intro lu _
 have hm:nQ (1000000+t)=true:=by
  unfold nQ
  rw [Nat.ble_eq]
  exact Nat.le_add_right _ _
 refine ⟨.map #[] 0,lg [],fC.of_map (es:=#[]) (clock:=0) hm ⟨by simp,by simp⟩,⟨fun u hu=>(by cases hu),fun h=>(by cases h),fun e n he=>(by cases he),fun p c hp=>(by simp at hp),fun gi g hgi i1 i2 j h1 h2 h3=>?_⟩,rfl,?_⟩
 ·rcases gi with _ | gi
  ·simp only [List.getElem?_cons_zero,Option.some.injEq] at hgi
   subst hgi
   simp only [List.length_cons,List.length_nil] at h2 h3
   simp only [IE.den] at h1
   obtain rfl:i2=0:=by omega
   have e:i1 * 2+0 * 0+0+j=dL ((i1:Int)-9223372036854775808) j:=by unfold dL;omega
   rw [e]
   have hv:=D6 [] (key:=(i1:Int)-9223372036854775808) (by omega) (by omega)
   have hj:j=0∨j=1:=by omega
   rcases hj with rfl | rfl
   ·rw [hv.1];rfl
   ·rw [hv.2];rfl
  ·simp at hgi
 ·unfold execOp
  simp [ho,Instr.makeMap,SV.den,SW.den,SC.den,lu]
include hh in
theorem JR {t:TypeId} {m k:Operand} {x:Option Operand} {b:Nat} {sb':SB} {os:List BE} (h:nE T gl kn fr hp t m k x=.st b sb' os) (hos:∀c∈os,c.den ρ=true) :
  ∃kt et sb0 es clock ke v,P.underlying t=some (.map kt et)∧P.underlying kt=some (.int .i64)∧hp[b]?=some sb0∧sb0.own=true∧sb0.dead ρ=false∧a.eval m=.map (some (ν b).block)∧a.eval k=.int .i64 ke ∧
   (-9223372036854775808≤ke∧ke≤9223372036854775807)∧(∀y,x=some y→a.eval y=.int .i64 v)∧w.heap[(ν b).block]?=some (.map es clock)∧kX es.toList ∧
   ∀(w':World) (es':Array MapEntry) (clock':Nat),Js es.toList es'.toList ke (x.map fun _=>v)→w'={w with heap:=w.heap.setIfInBounds (ν b).block (.map es' clock')} →
    Mo (ν b).block w w'∧aH ρ ν (hp.set b sb') w':=by
 have eH:∀{x v},dK gl kn fr x=some v→a.eval x=v.den ρ ν:=fun hx=>lh hg hk hf hx
 unfold nE at h
 split at h
 case isFalse=>cases h
 rename_i hty
 obtain ⟨kt,et,u1,u2,u3,-⟩:=LC hT hty
 split at h
 case h_2=>cases h
 rename_i b' ke hm hke
 split at h
 case h_2=>cases h
 rename_i v sb hv hsb
 split at h
 ·cases h
 rename_i hgr
 simp only [Bool.or_eq_true,not_or,Bool.not_eq_true,Bool.not_eq_true',Bool.not_eq_false] at hgr
 obtain ⟨⟨g1,g2⟩,g3⟩:=hgr
 split at h
 ·cases h
 rename_i g hg'
 split at h
 ·cases h
 rename_i sb1 hw1
 split at h
 ·cases h
 rename_i sb2 hw2
 cases h
 obtain ⟨hr,hnl,hl⟩:=uR (ρ:=ρ) hg' hos
 have hd:sb.dead ρ=false:=SB.wK g1 hnl
 obtain ⟨hz,cs,h1,h2⟩:=hh.aC b sb hsb hd g2
 have hmp:=(Ao hg').2.1
 obtain ⟨es,clock,e1,e2,e3⟩:=fC.map h1 hmp
 rw [e3] at h2
 refine ⟨kt,et,sb,es,clock,ke.den ρ,v.den ρ,u1,u2,hsb,by simpa using g3,hd,eH hm,eH hke,hr,fun y hy=>?_,e1,e2,fun w' es' clock' hu hw'=>?_⟩
 ·subst hy
  simp only at hv
  split at hv
  ·rename_i e hx
   simp at hv
   subst hv
   exact eH hx
  ·cases hv
 ·obtain ⟨l1,l2,l3⟩:=hl 1 (by decide)
  obtain ⟨hb1,-⟩:=SB.DW (ρ:=ρ) (ν:=ν) h2 l1 l2 hw1
  have RD:sb1.aX=sb.aX∧sb1.t=sb.t∧sb1.ro=sb.ro:=by
   have:=(SB.PW hw1).1
   unfold SB.write at hw1
   split at hw1
   ·cases hw1
   ·simp only at hw1
    split at hw1
    ·simp at hw1;subst hw1;exact ⟨rfl,rfl,rfl⟩
    ·cases hw1
  have ZY:sb'.t=sb1.t∧sb'.ro=sb1.ro:=by
   unfold SB.write at hw2
   split at hw2
   ·cases hw2
   ·simp only at hw2
    split at hw2
    ·simp at hw2;subst hw2;exact ⟨rfl,rfl⟩
    ·cases hw2
  obtain ⟨k1,k2,k3⟩:=hl 0 (by decide)
  have k1':(Loc.sg 0 g (mapKey ke) (.lit 0) 0).ok sb1:=by
   obtain ⟨q1,q2⟩:=k1
   exact ⟨by rw [RD.1];exact q1,q2⟩
  obtain ⟨hb2,-⟩:=SB.DW (ρ:=ρ) (ν:=ν) hb1 k1' k2 hw2
  rw [l3,k3] at hb2
  have hO:Mo (ν b).block w w':=by
   subst hw'
   exact ⟨rfl,rfl,rfl,by simp,fun j hj=>by simp [Ne.symm hj]⟩
  refine ⟨hO,hh.set hsb hd g2 hO (mq:=lg es'.toList) ?_ ?_ (by rw [ZY.2,RD.2.2];exact g2)⟩
  ·subst hw'
   have hlt:(ν b).block<w.heap.size:=(Array.getElem?_eq_some_iff.1 e1).1
   rw [ZY.1,RD.2.1]
   have:(w.heap.setIfInBounds (ν b).block (.map es' clock'))[(ν b).block]?=some (.map es' clock'):=by simp [hlt]
   rw [this]
   have ahF:nQ sb.t=true:=by have h0:=hmp;unfold SB.iN at h0;exact h0
   exact fC.of_map ahF hu.wf
  ·rw [XC hu hr.1 hr.2]
   have ex:(SC.int .i64 v).den ρ ν=.int .i64 ((x.map fun _=>v.den ρ).getD 0):=by
    cases x with
    | some y=>rfl
    | none =>
     have hv':some (IE.lit 0)=some v:=hv
     injection hv' with hv'
     rw [←hv']
     rfl
   have eb:(SC.bool (.lit x.isSome)).den ρ ν=.bool (x.map fun _=>v.den ρ).isSome:=by cases x <;> rfl
   rw [←ex,←eb]
   exact hb2
omit hT hg hk hf in
theorem Gi {t:TypeId} {m k:Operand} {x:Option Operand}:(∃b sb os,nE T gl kn fr hp t m k x=.st b sb os)∨nE T gl kn fr hp t m k x=.no:=by
 unfold nE
 by_cases h1:CE T t=true
 ·rw [if_pos h1]
  split
  ·split
   ·rename_i v sb _ _
    by_cases h2:(sb.gone || sb.ro || !sb.own)=true
    ·rw [if_pos h2];exact .inr rfl
    ·rw [if_neg h2]
     split
     ·exact .inr rfl
     ·split
      ·exact .inr rfl
      ·split
       ·exact .inr rfl
       ·exact .inl ⟨_,_,_,rfl⟩
   ·exact .inr rfl
  ·exact .inr rfl
 ·rw [if_neg h1];exact .inr rfl
include hh in
theorem MF {t:TypeId} {m k x:Operand} (ho:o.op=.mapUpdate t m k x):rQ P ρ ν w hp a nv o (nE T gl kn fr hp t m k (some x)):=by
 rcases Gi (T:=T) (gl:=gl) (kn:=kn) (fr:=fr) (hp:=hp) (t:=t) (m:=m) (k:=k) (x:=some x) with ⟨b,sb',os,h⟩ | h
 ·rw [h]
  intro hos
  obtain ⟨kt,et,sb0,es,clock,ke,v,u1,u2,h1,h2,h3,h4,h5,h6,h7,h8,h9,h10⟩:=JR hT hg hk hf hh h hos
  obtain ⟨es',clock',hr,hu⟩:=Rb u1 u2 h8 h9 h6 (v:=v)
  obtain ⟨q1,q2⟩:=h10 _ es' clock' hu rfl
  refine ⟨_,_,sb0,.inl rfl,h1,h2,h3,?_,q1,q2⟩
  unfold execOp
  simp [ho,h4,h5,h7 x rfl,hr]
 ·rw [h];trivial
include hh in
theorem MG {m k:Operand} {args:Array Operand} {argTypes:Array TypeId} {t t2:TypeId} (ho:o.op=.call {callee:=.builtin .delete,args:=args,argTypes:=argTypes}) (ha:args.toList=[m,k]) (ht:argTypes.toList=[t,t2]) :
  rQ P ρ ν w hp a nv o (nE T gl kn fr hp t m k none):=by
 rcases Gi (T:=T) (gl:=gl) (kn:=kn) (fr:=fr) (hp:=hp) (t:=t) (m:=m) (k:=k) (x:=none) with ⟨b,sb',os,h⟩ | h
 ·rw [h]
  intro hos
  obtain ⟨kt,et,sb0,es,clock,ke,v,u1,u2,h1,h2,h3,h4,h5,h6,h7,h8,h9,h10⟩:=JR hT hg hk hf hh h hos
  obtain ⟨es',clock',hr,hu⟩:=Rc u1 u2 h8 h9 (key:=ke) (t2:=t2) (t3:=o.type)
  obtain ⟨q1,q2⟩:=h10 _ es' clock' hu rfl
  have e1:args=#[m,k]:=by obtain ⟨l⟩:=args;simp at ha;rw [ha]
  have e2:argTypes=#[t,t2]:=by obtain ⟨l⟩:=argTypes;simp at ht;rw [ht]
  subst e1 e2
  refine ⟨_,_,sb0,.inr rfl,h1,h2,h3,?_,q1,q2⟩
  unfold execOp
  simp [ho,resolve,invoke,builtin,h4,h5,hr]
 ·rw [h];trivial
include hh
theorem XO {t:TypeId} {ax x:Operand} (ho:o.op=.store t ax x):rQ P ρ ν w hp a nv o (Ip T gl kn fr hp t ax x):=by
 have eH:∀{x v},dK gl kn fr x=some v→a.eval x=v.den ρ ν:=fun hx=>lh hg hk hf hx
 unfold Ip
 split
 case h_2=>trivial
 rename_i sa y ti ha hx hti
 split
 case h_2=>trivial
 rename_i sb0 vX
 split
 ·trivial
 rename_i pz
 simp only [Bool.or_eq_true,not_or,Bool.not_eq_true,Bool.not_eq_true',Bool.not_eq_false] at pz
 obtain ⟨⟨⟨ac7,hmap⟩,hro⟩,hown⟩:=pz
 split
 case isFalse=>trivial
 rename_i hlen
 split
 case h_2=>trivial
 rename_i sb' os' hst
 intro hos
 have hd:sb0.dead ρ=false:=SB.wK ac7 fun c hm=>hos c (List.mem_append_left _ hm)
 obtain ⟨hz,arr,harr,hhas⟩:=hh.aC _ _ vX hd hro
 replace harr:=harr.cells hmap
 obtain ⟨mq,w',h1,h2,h3,h4,h5⟩:=Gb (P:=P) harr hhas hst (fun c hm=>hos c (List.mem_append_right _ hm))
 have e1:a.eval ax=.pointer (some ⟨(ν sa.aC).block,sa.off ρ,none⟩):=by
  rw [eH ha]
  simp only [SV.den,SW.den,SC.den,SA.den]
  rw [hz,ac6]
 have e2:a.eval x=y.den ρ ν:=eH hx
 refine ⟨_,w',sb0,.inl rfl,vX,by simpa using hown,hd,?_,h3,hh.set vX hd hro h3 (by rw [h5.1,h2];exact fC.mH hmap) h4 (h5.2.1.trans hro)⟩
 have e3:(y.den ρ ν).cells.toList=y.cells.map (·.den ρ ν):=by rw [SW.uQ]
 have e4:(y.den ρ ν).cells.size=ti.size:=by rw [SW.uQ];simpa using hlen
 unfold execOp
 simp [ho,Instr.storeAt,e1,e2,Instr.sureAddr,storeVar,(hT.ty hti).size,e4,e3,h1]
omit hh in
omit hT in
theorem abt {fo:Operand} {Gj:Array Operand} {mG:Array TypeId} (ho:o.op=.call {callee:=.value fo,args:=Gj,argTypes:=mG}):rQ P ρ ν w hp a nv o (Mc gl kn fr fo Gj):=by
 have eH:∀{x v},dK gl kn fr x=some v→a.eval x=v.den ρ ν:=fun hx=>lh hg hk hf hx
 unfold Mc
 split
 case h_2=>trivial
 rename_i g jS aS0 hfo has
 intro fn hfn hb hn
 have e1:a.eval fo=.func (.func g) #[] (jS.map fun b=>Value.pointer (some (ν b))).toArray:=eH hfo
 have e2:Gj.map a.eval=(aS0.map (·.den ρ ν)).toArray:=by
  apply Array.ext'
  rw [Array.toList_map]
  generalize Gj.toList=l at *
  clear ho
  induction l generalizing aS0 with
  | nil=>simp [F5] at has;subst has;rfl
  | cons p l ih =>
   simp only [List.map_cons] at has
   unfold F5 at has
   split at has
   ·rename_i h0;cases h0
   ·rename_i x0 r0 h0
    simp only [List.cons.injEq] at h0
    obtain ⟨hx,rfl⟩:=h0
    simp only [Option.map_eq_some_iff] at has
    obtain ⟨q,hq,rfl⟩:=has
    have:=ih _ hq
    simp only [List.map_cons,this,eH hx,SV.den]
   ·cases has
 have e3:(jS.map fun b=>Value.pointer (some (ν b)))=(jS.map fun b=>(SW.one (.ptr {aC:=b})).den ρ ν):=by
  apply List.map_congr_left
  intro b _
  simp [SW.den,SC.den,SA.den,SA.off,IE.den,Addr.add_zero]
 unfold execOp
 simp only [ho,resolve,Deferred.ofValue,e1,e2,Sem.run_bind,Sem.run_pure,Result.andThen_ok,invoke,callFunc,run_program,hfn,hn,e3]
 have hb':fn.body.isNone=false:=by cases hq:fn.body <;> simp_all
 simp [hb',List.map_map,Function.comp]
theorem MH {s x:Operand} {t:TypeId} {args:Array Operand} {mG:Array TypeId} (ho:o.op=.call {callee:=.builtin .append,args:=args,argTypes:=mG}) (h1:args.toList=[s,x]) (h2:mG.toList=[t,t]) {v0 v1 vr:Value} {w':World}
  (hs:a.eval s=v0) (hx:a.eval x=v1) (hr:(Builtin.append_ #[t,t] o.type #[v0,v1]).run P w=.ok vr w'):(execOp a.eval o).run P w=.ok (.value vr) w':=by
 have _:=hT;have _:=hg;have _:=hk;have _:=hf;have _:=hh
 unfold execOp
 simp only [ho]
 have e1:args=#[s,x]:=by rw [←h1]
 have e2:mG=#[t,t]:=by rw [←h2]
 subst e1 e2
 simp [resolve,invoke,builtin,hx,hs,hr]
theorem UI {e t:TypeId} {te:TI} (ht:P.underlying t=some (.slice e)) (hte:ql P e te) {dst:SV} {ax:SA} {m cx:Nat} {b:Option Nat} {v:SV} {sb:SB} {k:Nat} {fs:List QF} {os:List BE}
  (h:tQ te e kn nv hp dst ax m=.app b v sb k fs os) (hos:∀c∈os,c.den ρ=true) {ty:TypeId} :
  ∃vr w',(Builtin.append_ #[t,t] ty #[dst.den ρ ν,.slice (some (ax.den ρ ν)) m cx]).run P w=.ok vr w'∧Gg ρ ν w hp nv b v sb fs vr w':=by
 have _:=hT;have _:=hg;have _:=hf
 unfold tQ at h
 split at h
 case h_2=>cases h
 rename_i JH XP
 split at h
 ·cases h
 rename_i pz
 split at h
 case h_2=>cases h
 case h_3=>cases h
 rename_i news os' hld
 split at h
 case h_2=>cases h
 rename_i b' v' sb' k' fs' os2 happ
 cases h
 simp only [Bool.or_eq_true,not_or,Bool.not_eq_true] at pz
 have hd:JH.dead ρ=false:=SB.wK pz.1 fun c hm=>hos c (List.mem_append_right _ (List.mem_append_left _ hm))
 obtain ⟨arr,hhas,harr⟩:=hh.cells XP hd (fun _=>pz.2)
 obtain ⟨hlen,hcells⟩:=x9 hk hhas hld (fun c hm=>hos c (List.mem_append_left _ hm))
 refine XM hh ht hte happ (fun c hm=>hos c (List.mem_append_right _ (List.mem_append_right _ hm))) _ _ fun j c hc=>?_
 have:=hcells j c hc
 unfold SA.den
 rw [Addr.add_add]
 exact harr _ _ (by simpa using this)
theorem UJ {e:TypeId} {te:TI} {dst:SV} {ax:SA} {m:Nat}:(∀b v sb k fs os,tQ te e kn nv hp dst ax m≠.app b v sb k fs os)→rQ P ρ ν w hp a nv o (tQ te e kn nv hp dst ax m):=by
 have _:=hT;have _:=hg;have _:=hk;have _:=hf;have _:=hh
 intro hne
 unfold tQ at hne ⊢
 split
 case h_2=>trivial
 rename_i JH XP
 rw [XP] at hne
 simp only at hne
 split
 ·trivial
 rename_i hg'
 rw [if_neg hg'] at hne
 split
 ·rename_i news os hld
  rw [hld] at hne
  simp only at hne
  split
  ·rename_i b v sb k fs os' happ
   rw [happ] at hne
   exact absurd rfl (hne b v sb k fs (os ++ (JH.vT ++ os')))
  ·trivial
 ·trivial
 ·trivial
theorem Es {s x:Operand} {e t:TypeId} {te:TI} {args:Array Operand} {mG:Array TypeId} (ho:o.op=.call {callee:=.builtin .append,args:=args,argTypes:=mG}) (h1:args.toList=[s,x]) (h2:mG.toList=[t,t])
  (ht:P.underlying t=some (.slice e)) (hte:ql P e te) {dst:SV} (hs:a.eval s=dst.den ρ ν) {c:BE} {ax:SA} {n:IE} {os0:List BE} {src:Option Addr} {cx:Nat} (hx:a.eval x=.slice src (n.den ρ).toNat cx)
  (hsrc:c.den ρ=false→src=some (ax.den ρ ν)) (hnil:(∀c∈os0,c.den ρ=true)→c.den ρ=true→src=none∧n.den ρ=0) (hns:src=none→c.den ρ=true):rQ P ρ ν w hp a nv o (yH te e nv hp dst c ax n os0):=by
 unfold yH
 split
 case h_2=>trivial
 rename_i cv os' UK
 cases hap:iR te e nv hp dst n cv (os0 ++ os') with
 | app b v sb k fs os =>
  intro hos
  have hsub:∀z∈os0 ++ os',z.den ρ=true:=by
   unfold iR at hap
   split at hap
   ·cases hap
   split at hap
   ·cases hap
   split at hap
   ·cases hap
   cases hap
   exact fun z hm=>hos z (List.mem_cons_of_mem _ (List.mem_append_right _ hm))
  have hn0:src=none→n.den ρ=0:=fun h=>(hnil (fun z hm=>hsub z (List.mem_append_left _ hm)) (hns h)).2
  obtain ⟨-,vr,w',hr,hA⟩:=Ry hh ht hte hap hos src cx (ty:=o.type) hn0 (fun ac8 hzl=>by
    obtain ⟨q1,q2⟩:=ac1 (ν:=ν) hh hzl UK (fun z hm=>ac8 z (List.mem_append_right _ hm))
    refine ⟨q1,?_⟩
    cases hc:c.den ρ with
    | false =>
      obtain ⟨news,r1,r2,r3⟩:=q2 hc
      refine ⟨news,r1,fun A hA j u hj=>?_,r3⟩
      rw [hsrc hc] at hA
      cases hA
      exact r2 j u hj
    | true =>
      obtain ⟨e1,e2⟩:=hnil (fun z hm=>ac8 z (List.mem_append_left _ hm)) hc
      refine ⟨[],⟨by rw [e2];simp,fun i j hi=>(by rw [e2] at hi;simp at hi)⟩,fun A hA=>(by rw [e1] at hA;cases hA),fun u hu=>(by cases hu)⟩)
  exact ⟨vr,w',MH hT hg hk hf hh ho h1 h2 hs hx hr,hA⟩
 | val=>unfold iR at hap;(split at hap;cases hap);(split at hap;cases hap);(split at hap <;> cases hap)
 | new=>unfold iR at hap;(split at hap;cases hap);(split at hap;cases hap);(split at hap <;> cases hap)
 | st=>unfold iR at hap;(split at hap;cases hap);(split at hap;cases hap);(split at hap <;> cases hap)
 | call=>unfold iR at hap;(split at hap;cases hap);(split at hap;cases hap);(split at hap <;> cases hap)
 | br=>trivial
 | no=>trivial
theorem ac9 {args:Array Operand} {mG:Array TypeId} {s x:Operand} {t:TypeId} (ho:o.op=.call {callee:=.builtin .append,args:=args,argTypes:=mG}) (h1:args.toList=[s,x]) (h2:mG.toList=[t,t]) :
  rQ P ρ ν w hp a nv o (Rs T gl nv kn fr hp t s x):=by
 have eH:∀{x v},dK gl kn fr x=some v→a.eval x=v.den ρ ν:=fun hx=>lh hg hk hf hx
 unfold Rs
 split
 case h_2=>trivial
 rename_i ti hti
 split
 case h_2=>trivial
 rename_i e he
 obtain ⟨d,hd,hc,-⟩:=(hT.ty hti).und
 rw [he] at hc
 cases d <;> simp [fJ] at hc
 subst hc
 split
 case h_2=>trivial
 rename_i te dst hte hs
 have RF:=hT.ty hte
 split
 ·rename_i ax n cx hx
  have hx':a.eval x=.slice (some (ax.den ρ ν)) (n.den ρ).toNat (cx.den ρ).toNat:=eH hx
  have bulk:rQ P ρ ν w hp a nv o (yH te e nv hp dst (.lit false) ax n []) :=
   Es hT hg hk hf hh ho h1 h2 hd RF (eH hs) hx' (fun _=>rfl) (fun _ h=>by cases h) (fun h=>by cases h)
  split
  ·rename_i m hm
   simp only
   split
   ·exact bulk
   ·cases hl:tQ te e kn nv hp dst ax m.toNat with
    | app b v sb k fs os =>
     intro hos
     have hm':(n.den ρ).toNat=m.toNat:=by rw [IE.aN hm]
     obtain ⟨vr,w',hr,hA⟩:=UI hT hg hk hf hh hd RF hl hos (cx:=(cx.den ρ).toNat) (ty:=o.type)
     rw [hm'] at hx'
     exact ⟨vr,w',MH hT hg hk hf hh ho h1 h2 (eH hs) hx' hr,hA⟩
    | _ =>
     have:=UJ (P:=P) (w:=w) (a:=a) (nv:=nv) (o:=o) hT hg hk hf hh (te:=te) (e:=e) (dst:=dst) (ax:=ax) (m:=m.toNat) (by rw [hl];intro b v sb k fs os h;cases h)
     rw [hl] at this
     exact this
  ·exact bulk
 ·rename_i c ax n cx hx
  have hx0:a.eval x=SC.den ρ ν (.fw c ax n cx):=eH hx
  cases hc:c.den ρ with
  | true =>
   have hx':a.eval x=.slice none 0 0:=by rw [hx0];simp [SC.den,hc]
   cases hn:(n.den ρ).toNat with
   | zero =>
    exact Es hT hg hk hf hh ho h1 h2 hd RF (eH hs) (src:=none) (cx:=0) (by rw [hx',hn]) (fun h=>by rw [hc] at h;cases h) (fun hz _=>⟨rfl,yf (hz _ (List.mem_singleton.2 rfl)) hc⟩) (fun _=>hc)
   | succ q =>
    unfold yH
    split
    case h_2=>trivial
    rename_i cv os' UK
    cases hap:iR te e nv hp dst n cv ([df c n] ++ os') with
    | app b v sb k fs os =>
     intro hos
     exfalso
     unfold iR at hap
     split at hap
     ·cases hap
     split at hap
     ·cases hap
     split at hap
     ·cases hap
     cases hap
     have:=yf (hos (df c n) (by simp)) hc
     rw [this] at hn
     cases hn
    | val=>unfold iR at hap;(split at hap;cases hap);(split at hap;cases hap);(split at hap <;> cases hap)
    | new=>unfold iR at hap;(split at hap;cases hap);(split at hap;cases hap);(split at hap <;> cases hap)
    | st=>unfold iR at hap;(split at hap;cases hap);(split at hap;cases hap);(split at hap <;> cases hap)
    | call=>unfold iR at hap;(split at hap;cases hap);(split at hap;cases hap);(split at hap <;> cases hap)
    | br=>trivial
    | no=>trivial
  | false =>
   have hx':a.eval x=.slice (some (ax.den ρ ν)) (n.den ρ).toNat (cx.den ρ).toNat:=by rw [hx0];simp [SC.den,hc]
   exact Es hT hg hk hf hh ho h1 h2 hd RF (eH hs) hx' (fun _=>rfl) (fun _ h=>by rw [hc] at h;cases h) (fun h=>by cases h)
 ·trivial
omit hT hg hk hf hh in
theorem abu {ti:TI} {g:ae} (h:Mf ti=some g) (t:TypeId):SB.has ρ ν {t:=t,aX:=[g],own:=true} (ti.zero.map (·.den ρ ν)).toArray:=by
 unfold Mf at h
 split at h
 case h_2=>cases h
 rename_i n e hd
 split at h
 case isFalse=>cases h
 rename_i hc
 simp only [Option.some.injEq] at h
 subst h
 simp only [Bool.and_eq_true,decide_eq_true_eq,beq_iff_eq,List.all_eq_true] at hc
 obtain ⟨⟨c1,c2⟩,c3⟩:=hc
 refine ⟨fun u hu=>(by cases hu),fun h=>(by cases h),fun e' m he=>(by cases he),fun p c hp=>(by simp at hp),fun gi g hg i1 i2 j h1 h2 h3=>?_⟩
 rcases gi with _ | gi
 ·simp only [List.getElem?_cons_zero,Option.some.injEq] at hg
  subst hg
  simp only [List.length_cons,List.length_nil,IE.den] at h1 h2 h3
  obtain rfl:i2=0:=by omega
  obtain rfl:j=0:=by omega
  have hi:i1<ti.zero.length:=by omega
  have hz:=c3 _ (List.getElem_mem hi)
  have hl:(ti.zero.map (·.den ρ ν)).toArray[i1 * 1+0 * 0+0+0]?=some ((ti.zero[i1]).den ρ ν):=by
   rw [show i1 * 1+0 * 0+0+0=i1 by omega,List.getElem?_toArray,List.getElem?_map,List.getElem?_eq_getElem hi]
   rfl
  simp only [cK]
  rw [←DF (ρ:=ρ) (ν:=ν) hz _ rfl rfl]
  exact hl
 ·simp at hg
theorem MI:rQ P ρ ν w hp a nv o (Rt T gl nv kn fr hp o):=by
 have eH:∀{x v},dK gl kn fr x=some v→a.eval x=v.den ρ ν:=fun hx=>lh hg hk hf hx
 unfold Rt
 split
 ·rename_i t ho
  split
  ·rename_i ti hti
   split
   ·rename_i g hgs
    intro lu _
    obtain ⟨z,hz,hc,-⟩:=(hT.ty hti).zeroV (w:=w) ρ ν
    have hzc:z.cells=(ti.zero.map (·.den ρ ν)).toArray:=by rw [←hc]
    refine ⟨_,z.cells,fC.mH (hT.ty hti).lt,by rw [hzc];exact abu hgs t,rfl,?_⟩
    unfold execOp
    simp [ho,Instr.alloc,hz,newVar,newRow,SV.den,SW.den,SC.den,SA.den,SA.off,IE.den,lu,Addr.add_zero]
   intro lu _
   obtain ⟨z,hz,hc,-⟩:=(hT.ty hti).zeroV (w:=w) ρ ν
   have hzc:z.cells=(ti.zero.map (·.den ρ ν)).toArray:=by rw [←hc]
   refine ⟨_,z.cells,fC.mH (hT.ty hti).lt,by rw [hzc];exact Bn t ti.zero _ rfl rfl rfl (fun e n h=>by cases h),rfl,?_⟩
   unfold execOp
   simp [ho,Instr.alloc,hz,newVar,newRow,SV.den,SW.den,SC.den,SA.den,SA.off,IE.den,lu,Addr.add_zero]
  ·trivial
 ·rename_i t x ho
  split
  ·rename_i tb y htb hy
   intro lu _
   refine ⟨_,(y.den ρ ν).cells,fC.mH (hT.ty htb).lt,by rw [SW.uQ];exact Bn t y.cells _ rfl rfl rfl (fun e n h=>by cases h),rfl,?_⟩
   have:=eH hy
   unfold execOp
   simp [ho,Instr.box,this,newVar,newRow,SV.den,SW.den,SC.den,SA.den,SA.off,IE.den,lu,Addr.add_zero]
  ·trivial
 ·rename_i t len parts ho
  exact Rz hT hg hk hf ho
 ·rename_i t ax x ho
  exact XO hT hg hk hf hh ho
 ·rename_i t l c ho
  exact UH hT hg hk hf ho
 ·rename_i t r ho
  exact RB hT hg hk hf ho
 ·rename_i t m k x ho
  exact MF hT hg hk hf hh ho
 ·rename_i args argTypes ho
  split
  ·rename_i m k t t2 ha ht
   exact MG hT hg hk hf hh ho ha ht
  ·trivial
 ·rename_i args argTypes ho
  split
  ·rename_i s x t t' hargs hty
   split
   ·rename_i JS
    simp only [beq_iff_eq] at JS
    subst JS
    exact ac9 hT hg hk hf hh ho hargs hty
   ·trivial
  ·trivial
 ·rename_i fo Gj mG ho
  exact abt hg hk hf ho
 ·split
  ·rename_i v os hp'
   intro hos
   exact uS hT hg hk hf hh hp' hos
  ·trivial
  ·trivial
end
theorem zT {P:Program} {T:aY} {R:Ending→World→Prop} {F F':aZ} {a:AS} {w:World} (h1:F'.f=F.f) (h2:F'.todo=F.todo) (h3:F'.cur=F.cur)
  (h:dZ P T R F a w):dZ P T R F' a w:=by
 unfold dZ at *
 rw [h1,h2,h3]
 exact h
theorem KV (F:aZ) (d:Option Tmp) (v:SV):(F.put d v).f=F.f∧(F.put d v).todo=F.todo∧(F.put d v).cur=F.cur:=by cases d <;> exact ⟨rfl,rfl,rfl⟩
theorem CX (F:aZ) (i:Nat):(F.eB i).f=F.f∧(F.eB i).todo=F.todo∧(F.eB i).fr=F.fr:=by
 unfold aZ.eB
 split <;> exact ⟨rfl,rfl,rfl⟩
theorem PZ {F G:aZ} (i:Nat) (h:F.cur=G.cur):(F.eB i).cur=(G.eB i).cur:=by
 unfold aZ.eB
 rw [h]
 split <;> simp_all [Bc,CS]
theorem Et {F:aZ} {i:Nat} {p:List Nat} {k:eY} {sc:List SB} {d:Bool} (h:(F.eB i).cur=.dr p k sc d):d=true∧∃p' k' d',F.cur=.dr p' k' sc d':=by
 unfold aZ.eB at h
 split at h
 ·simp [Bc] at h
 ·rename_i p' k' s' d' hc
  simp [CS] at h
  exact ⟨h.2.2.2,p',k',d',by rw [hc,h.2.2.1]⟩
 ·rename_i hc
  rw [hc] at h;cases h
theorem rq.put {T:aY} {ρ:Env} {ν:Nat→Addr} {F:aZ} {a:Act} {S:World→Prop} (h:rq T ρ ν F a S) {dst:Option Tmp} (hd:rY T F.f dst=true) {v:SV} {x:Value} (hx:x=v.den ρ ν) :
  rq T ρ ν (F.put dst v) (a.put dst x) S:=by
 subst hx
 cases dst with
 | none=>exact ⟨h.fr,h.tmps,h.defers,h.held⟩
 | some d =>
  have hlt:d<a.tmps.size:=Nat.lt_of_lt_of_le (by simpa [rY] using hd) h.tmps
  refine ⟨fun t u ht=>?_,by simpa [aZ.put,Act.put] using h.tmps,h.defers,fun p k sc d hc=>h.held p k sc d hc⟩
  simp only [aZ.put] at ht
  simp only [Act.put]
  unfold assoc at ht
  split at ht
  ·rename_i he
   simp only [beq_iff_eq] at he
   subst he
   simp at ht
   subst ht
   rw [Array.getD_eq_getD_getElem?]
   simp [hlt]
  ·rename_i he
   simp only [beq_iff_eq] at he
   rw [Array.getD_eq_getD_getElem?,Array.getElem?_setIfInBounds_ne he,←Array.getD_eq_getD_getElem?]
   exact h.fr t u ht
theorem rq.advance {T:aY} {ρ:Env} {ν:Nat→Addr} {F:aZ} {a:Act} {S:World→Prop} (h:rq T ρ ν F a S) (i:Nat):rq T ρ ν (F.eB i) a S:=by
 obtain ⟨h1,h2,h3⟩:=CX F i
 refine ⟨by rw [h3];exact h.fr,by rw [h1];exact h.tmps,h.defers,fun p k sc d hc=>?_⟩
 obtain ⟨-,p',k',d',hc'⟩:=Et hc
 exact h.held p' k' sc d' hc'
abbrev mO:=List (dQ × (Env→Prop) × (Env→Prop))
def tZ (P:Program) (T:aY) (B:yK) (R:Ending→World→Prop) (cs:mO) (ρ:Env) (ν:Nat→Addr) (c:cz) (a:AS) (aS0:List AS) (w:World):SR→Prop
 | .next os fs c'=>(∀b∈os,b.den ρ=true) →
   (∀ρ' aK a' as' w',dF c.nv c.hp.length ρ ρ' ν aK→(fs=[]→ρ'=ρ)→c.nv≤c'.nv∧c.hp.length≤c'.hp.length→(∀b∈os,b.den ρ'=true)→(∀f∈fs,f.den ρ')→Rel T B ρ' aK c' a' as' w'→Goal P T R c' a' as' w')→Goal P T R c a aS0 w
 | .alt x y=>(Rel T B ρ ν x a aS0 w→Goal P T R x a aS0 w)→(Rel T B ρ ν y a aS0 w→Goal P T R y a aS0 w)→Goal P T R c a aS0 w
 | .call os g σ c'=>(∀b∈os,b.den ρ=true)→∀k pre post,cs[g]?=some (k,pre,post)→pre (σ.ag ρ) →
   (∀ρ' aK a' as' w',dF c.nv c.hp.length ρ ρ' ν aK→c.nv≤c'.nv∧c.hp.length≤c'.hp.length→(∀b∈os,b.den ρ'=true)→post (bf σ k.nv c.nv ρ ρ')→Rel T B ρ' aK c' a' as' w'→Goal P T R c' a' as' w')→Goal P T R c a aS0 w
 | .ret os v=>(∀b∈os,b.den ρ=true)→(c.dG=[]→R (.returned (v.den ρ ν)) w)→Goal P T R c a aS0 w
 | _=>True
theorem O7 {P:Program} {f:FuncId} {R:Ending→World→Prop} {k:List Item} {c:List PanicEntry} {a a':Act} {w w':World} (h:kg P f R k (.panic c) a w):kg P f R k (.panic c) a' w':=by
 cases h.1
theorem Bo {ρ:Env} {ν:Nat→Addr}:∀{args:List SW} {i:Nat} {t:Nat} {v:SV},assoc t (wV args i)=some v→∃k x,t=i+k∧args[k]?=some x∧v=.w x
 | [],i,t,v,h=>by simp [wV,assoc] at h
 | x :: r,i,t,v,h=>by
  simp only [wV] at h
  unfold assoc at h
  split at h
  ·rename_i he
   simp only [beq_iff_eq] at he
   simp at h
   exact ⟨0,x,by omega,rfl,h.symm⟩
  ·obtain ⟨k,y,h1,h2,h3⟩:=Bo (ρ:=ρ) (ν:=ν) h
   exact ⟨k+1,y,by omega,by simpa using h2,h3⟩
theorem aH.afX {ρ:Env} {ν:Nat→Addr} {hp:List SB} {w:World} (h:aH ρ ν hp w) {sb:SB} (hp':sb.dead ρ=false→ν hp.length=⟨(ν hp.length).block,0,none⟩∧(∃arr,fC w.heap[(ν hp.length).block]? sb.t arr∧sb.has ρ ν arr) ∧
    ∀(k:Nat) (s:SB),hp[k]?=some s→s.dead ρ=false→(ν k).block≠(ν hp.length).block) (hr:sb.ro=false):aH ρ ν (hp ++ [sb]) w:=by
 cases hd:sb.dead ρ with
 | false =>
  obtain ⟨h0,⟨arr,h1,h2⟩,h3⟩:=hp' hd
  exact h.push h0 h1 h2 hr h3
 | true =>
  have Gc:∀(i:Nat) (a:SB),(hp ++ [sb])[i]?=some a→a.dead ρ=false→hp[i]?=some a:=by
   intro i a hi ha
   rw [List.getElem?_append] at hi
   split at hi
   ·exact hi
   ·rw [List.getElem?_singleton] at hi
    split at hi
    ·simp at hi
     subst hi
     rw [hd] at ha;cases ha
    ·cases hi
  exact ⟨fun i j x y hi hj gx gy rx he=>h.inj i j x y (Gc i x hi gx) (Gc j y hj gy) gx gy rx he,fun k s hk hg hr=>h.aC k s (Gc k s hk hg) hg hr,fun k s hk hg hr=>h.rd k s (Gc k s hk hg) hg hr⟩
theorem Gl {f:FuncId} {aS0:List SW}:∀{l:List dQ} {i g:Nat} {k:dQ},wX f aS0 l i=some (g,k)→k.f=f∧i≤g∧l[g-i]?=some k
 | [],_,_,_,h=>by simp [wX] at h
 | c :: r,i,g,k,h=>by
  unfold wX at h
  split at h
  ·rename_i hc
   simp only [Option.some.injEq,Prod.mk.injEq] at h
   obtain ⟨rfl,rfl⟩:=h
   simp only [Bool.and_eq_true,beq_iff_eq] at hc
   exact ⟨hc.1,Nat.le_refl _,by simp⟩
  ·obtain ⟨h1,h2,h3⟩:=Gl h
   refine ⟨h1,by omega,?_⟩
   rw [show g-i=(g-(i+1))+1 by omega]
   simpa using h3
theorem Gm {σ:Sub} {gl:List (Nat × Nat)}:∀{l:List (Nat × Nat)},UB σ gl l=true→∀g k,assoc g l=some k→∃b,assoc g gl=some b∧PD σ k b=true
 | [],_,g,k,h=>by simp [assoc] at h
 | (g0,k0) :: r,h,g,k,hk=>by
  simp only [UB,Bool.and_eq_true] at h
  unfold assoc at hk
  split at hk
  ·rename_i he
   simp only [beq_iff_eq] at he
   subst he
   simp at hk
   subst hk
   obtain ⟨h1,-⟩:=h
   split at h1
   ·rename_i b hb
    exact ⟨b,hb,h1⟩
   ·cases h1
  ·exact Gm h.2 g k hk
theorem ada {σ:Sub} {ρ:Env} {ν:Nat→Addr} {gl:List (Nat × Nat)} (hg:iQ ν gl) {l:List (Nat × Nat)} (h:UB σ gl l=true):iQ (σ.fK ρ ν) l:=by
 refine ⟨fun g k h0 hk=>?_,fun g g' k k' h1 h2 h3 h4 hne=>?_⟩
 ·obtain ⟨b,hb,hm⟩:=Gm h g k hk
  rw [AA hm]
  exact hg.at_ _ b h0 hb
 ·obtain ⟨b,hb,hm⟩:=Gm h g k h3
  obtain ⟨b',hb',hm'⟩:=Gm h g' k' h4
  rw [AA hm,AA hm']
  exact hg.ne g g' b b' h1 h2 hb hb' hne
theorem UL {σ:Sub} {m d:Nat} {ρ cB:Env} {ν fA:Nat→Addr} {n:Nat} (hA:dF m n (σ.env ρ ν) cB (σ.fK ρ ν) fA):bf σ m d ρ (fH d m ρ cB)=cB.num:=by
 simp only [bf,Env.num,Env.mk.injEq,true_and,and_true]
 have hh:∀i,m≤i→¬(i-m+d<d)∧i-m+d-d+m=i:=fun i hi=>by omega
 refine ⟨?_,?_,?_,?_⟩ <;> funext i <;> split
 ·rename_i hi;rw [hA.iv i hi];rfl
 ·rename_i hi;obtain ⟨q1,q2⟩:=hh i (by omega);simp only [fH];rw [if_neg q1,q2]
 ·rename_i hi;rw [hA.bv i hi];rfl
 ·rename_i hi;obtain ⟨q1,q2⟩:=hh i (by omega);simp only [fH];rw [if_neg q1,q2]
 ·rename_i hi;rw [hA.ic i hi];rfl
 ·rename_i hi;obtain ⟨q1,q2⟩:=hh i (by omega);simp only [fH];rw [if_neg q1,q2]
 ·rename_i hi;rw [hA.bc i hi];rfl
 ·rename_i hi;obtain ⟨q1,q2⟩:=hh i (by omega);simp only [fH];rw [if_neg q1,q2]
section
variable {P:Program} {T:aY} {B:yK} {R:Ending→World→Prop} {E:Ex} {cs:mO} {ρ:Env} {ν:Nat→Addr} {c:cz} {a:AS} {aS0:List AS} {w:World}
theorem P5 (hT:dD P T) (hE:E.cons=cs.map (·.1)) (hC:∀k pre post,(k,pre,post)∈cs→ku k=true∧bg P k pre post) (hr:Rel T B ρ ν c a aS0 w) {p:List Nat} (bV:c.top.AZ=p)
  {i:Nat} {eB:aZ→aZ} (MJ:∀F:aZ,F.cur=c.top.cur→eB F=F.eB i) {Q:Exit→Act→World→Prop} {K:Act→World→Prop}
  (hK:∀(F':aZ) (a':Act) (w':World),F'.f=c.top.f→F'.todo=c.top.todo→F'.cur=(c.top.eB i).cur→dZ P T (RK P T R c.dG aS0) F' (a',a.2) w'→K a' w')
  (hG:wpOp P (T.ops c.top.f p) Q i K a.1 w→Goal P T R c a aS0 w) :
  tZ P T B R cs ρ ν c a aS0 w (yJ T E c (T.ops c.top.f p) i eB):=by
 have hput:∀(d:Option Tmp) (v:SV),eB (c.top.put d v)=(c.top.put d v).eB i:=fun d v=>MJ _ (KV _ _ _).2.2
 have Gn:∀(d:Option Tmp) (v:SV) p k sc,(eB (c.top.put d v)).cur=.dr p k sc false→False:=by
  intro d v p k sc h
  rw [hput] at h
  cases (Et h).1
 have hK':∀(c':cz) (d:Option Tmp) (v:SV) (a':Act) (w':World),c'.top=eB (c.top.put d v)→c'.dG=c.dG→Goal P T R c' (a',a.2) aS0 w'→K a' w':=by
  intro c' d v a' w' h1 h2 hg
  unfold Goal at hg
  rw [h1,h2,hput] at hg
  obtain ⟨e1,e2,e3⟩:=KV c.top d v
  obtain ⟨f1,f2,f3⟩:=CX (c.top.put d v) i
  exact hK _ a' w' (f1.trans e1) (f2.trans e2) (PZ i e3) hg
 have MK:∀{ρ':Env} {aK:Nat→Addr},rq T ρ' aK c.top a.1 a.2→∀{d:Option Tmp} {v:SV} {x:Value},rY T c.top.f d=true→x=v.den ρ' aK→rq T ρ' aK (eB (c.top.put d v)) (a.1.put d x) a.2:=by
  intro ρ' aK hF d v x hd hx
  rw [hput]
  exact (hF.put hd hx).advance i
 unfold yJ
 split
 ·trivial
 rename_i o ho
 split
 ·trivial
 rename_i hdst
 replace hdst:rY T c.top.f o.dst=true:=by simpa using hdst
 split
 ·trivial
 rename_i g hgc
 have hwant:=Mq hr.top.fr hgc
 have hgo:∀(w':World) (K':Act→World→Prop),wpOp P (T.ops c.top.f p) Q i K' a.1 w'=if g.den ρ then o.wp P a.1 w' K' Q∨(o.asks P a.1 w'∧LetsOut Q) else K' (a.1.put o.dst undef) w':=by
  intro w' K'
  unfold wpOp
  rw [ho]
  simp only [hwant]
 have same:∀(d:Option Tmp) (v:SV) (x:Value) (w':World),rY T c.top.f d=true→x=v.den ρ ν→w'=w→Rel T B ρ ν {c with top:=eB (c.top.put d v)} (a.1.put d x,a.2) aS0 w':=by
  intro d v x w' hd hx hw
  subst hw
  exact ⟨hr.nv,hr.n,hr.iE,hr.kn,hr.gl,hr.hp,hr.wr,hr.own,MK hr.top hd hx,hr.dG,fun p k sc h=>(Gn _ _ _ _ _ h).elim⟩
 have R0:=dF.refl c.nv c.hp.length ρ ν
 have L0:c.nv≤c.nv∧c.hp.length≤c.hp.length:=⟨Nat.le_refl _,Nat.le_refl _⟩
 split
 ·
  rename_i hdec
  have hg0:=BE.dw hr.kn hdec
  intro _ hnext
  apply hG
  rw [hgo,hg0]
  simp only [Bool.false_eq_true,if_false]
  exact hK' {c with top:=eB (c.top.put o.dst (.iF []))} o.dst (.iF []) _ _ rfl rfl (hnext ρ ν (_,a.2) aS0 w R0 (fun _=>rfl) L0 (by simp) (by simp) (same o.dst (.iF []) undef w hdst rfl rfl))
 ·
  rename_i hdec
  split
  ·rename_i x os afY
   intro hos hnext
   apply hG
   rw [hgo]
   cases hgd:g.den ρ with
   | false =>
    simp only [Bool.false_eq_true,if_false]
    exact hK' {c with top:=eB (c.top.put o.dst (.gd g x))} o.dst (.gd g x) _ _ rfl rfl (hnext ρ ν (_,a.2) aS0 w R0 (fun _=>rfl) L0 hos (by simp) (same o.dst (.gd g x) undef w hdst (by simp [SV.den,hgd]) rfl))
   | true =>
    simp only [if_true]
    refine .inl ?_
    have hrun:=uS (hT.sw c.top.f) hr.gl (oC hgd hr.kn) hr.top.fr hr.hp afY (fun b hb=>by
      have:=hos (.or g.mF b) (List.mem_map.2 ⟨b,hb,rfl⟩)
      simpa [BE.den,BE.iP,hgd] using this)
    unfold Oper.wp
    rw [hrun]
    exact hK' {c with top:=eB (c.top.put o.dst (.gd g x))} o.dst (.gd g x) _ _ rfl rfl (hnext ρ ν (_,a.2) aS0 w R0 (fun _=>rfl) L0 hos (by simp) (same o.dst (.gd g x) _ w hdst (by simp [SV.den,hgd]) rfl))
  ·trivial
 ·rename_i hdec
  have hg1:=BE.dw hr.kn hdec
  have hgo':wpOp P (T.ops c.top.f p) Q i K a.1 w↔(o.wp P a.1 w K Q∨(o.asks P a.1 w∧LetsOut Q)):=by rw [hgo,hg1];simp
  have qO:=MI (P:=P) (ρ:=ρ) (ν:=ν) (w:=w) (a:=a.1) (nv:=c.nv) (o:=o) (hT.sw c.top.f) hr.gl hr.kn hr.top.fr hr.hp
  split
  ·
   rename_i v os heff
   intro hos hnext
   apply hG
   rw [hgo']
   refine .inl ?_
   rw [heff] at qO
   unfold Oper.wp
   rw [qO hos]
   exact hK' {c with top:=eB (c.top.put o.dst v)} o.dst v _ _ rfl rfl (hnext ρ ν (_,a.2) aS0 w R0 (fun _=>rfl) L0 hos (by simp) (same o.dst v _ w hdst rfl rfl))
  ·
   rename_i v sb os heff
   split
   ·rename_i hsc
    intro hos hnext
    apply hG
    rw [hgo']
    refine .inl ?_
    have hA:=XK c.nv c.hp.length ρ ν w.heap.size
    have qC:jT ν c.hp.length w.heap.size c.hp.length=⟨w.heap.size,0,none⟩:=by simp [jT]
    generalize jT ν c.hp.length w.heap.size=aK at hA qC
    have hr':=hr.ext hsc hA
    have ZZ:=MI (P:=P) (ρ:=ρ) (ν:=aK) (w:=w) (a:=a.1) (nv:=c.nv) (o:=o) (hT.sw c.top.f) hr'.gl hr'.kn hr'.top.fr hr'.hp
    rw [heff] at ZZ
    obtain ⟨obj,arr,ML,hhas,hro,hrun⟩:=ZZ qC hos
    unfold Oper.wp
    rw [hrun]
    have hnew:(w.alloc obj).heap[w.heap.size]?=some obj:=heap_alloc_new w _
    have hold:∀k,k<w.heap.size→(w.alloc obj).heap[k]?=w.heap[k]?:=fun k hk=>heap_alloc_old w _ hk
    have hlive:∀(k:Nat) (s:SB),c.hp[k]?=some s→s.dead ρ=false→(aK k).block<w.heap.size:=fun k s hk hg=>hr'.hp.lt hk hg
    refine hK' {c with hp:=c.hp ++ [sb],top:=eB (c.top.put o.dst v)} o.dst v _ _ rfl rfl (hnext ρ aK (_,a.2) aS0 _ hA (fun _=>rfl) ⟨Nat.le_refl _,by simp⟩ hos (by simp) ⟨hr'.nv,?_,hr'.iE,hr'.kn,hr'.gl,?_,?_,?_,MK hr'.top hdst rfl,hr'.dG,fun p k sc h=>(Gn _ _ _ _ _ h).elim⟩)
    ·simp only [List.length_append]
     have:=hr'.n
     omega
    ·refine aH.push (hr'.hp.qB (by simp) fun k s hk hg=>hold _ (hlive k s hk hg)) (by rw [qC]) (by rw [qC,hnew];exact ML) hhas hro fun k s hk hg=>?_
     rw [qC]
     exact Nat.ne_of_lt (hlive k s hk hg)
    ·exact hr'.wr.step rfl rfl rfl (by simp) fun k hk _=>hold k (Nat.lt_of_lt_of_le hk hr'.wr.size)
    ·intro k s hk hso hsd
     simp only at hk
     rw [List.getElem?_append] at hk
     split at hk
     ·exact hr'.own k s hk hso hsd
     ·rename_i hge
      rw [List.getElem?_singleton] at hk
      split at hk
      ·have:k=c.hp.length:=by omega
       subst this
       rw [qC]
       exact .inl hr'.wr.size
      ·cases hk
   ·trivial
  ·
   rename_i b sb os heff
   intro hos hnext
   apply hG
   rw [hgo']
   refine .inl ?_
   rw [heff] at qO
   obtain ⟨r0,w',sb0,hr0,vX,hown,hd0,hrun,hO,iw⟩:=qO hos
   unfold Oper.wp
   rw [hrun]
   have hlt:b<c.hp.length:=(List.getElem?_eq_some_iff.1 vX).1
   rcases hr0 with rfl | rfl
   all_goals
    refine hK' {c with hp:=c.hp.set b sb,top:=eB (c.top.put o.dst (.iF []))} o.dst (.iF []) _ _ rfl rfl (hnext ρ ν (_,a.2) aS0 _ R0 (fun _=>rfl) ⟨Nat.le_refl _,by simp⟩ hos (by simp) ⟨hr.nv,?_,hr.iE,hr.kn,hr.gl,iw,?_,?_,MK hr.top hdst rfl,hr.dG,fun p k sc h=>(Gn _ _ _ _ _ h).elim⟩)
    ·simp only [List.length_set];exact hr.n
    ·refine hr.wr.step hO.os hO.tape hO.output (by rw [hO.size];exact Nat.le_refl _) fun k hk hn=>hO.block k fun e=>?_
     rcases hr.own b sb0 vX hown hd0 with h | h
     ·omega
     ·rw [←e] at h;exact hn h
    ·intro k s hk hso hsd
     simp only at hk
     by_cases hkb:b=k
     ·subst hkb
      exact hr.own b sb0 vX hown hd0
     ·rw [List.getElem?_set_ne hkb] at hk
      exact hr.own k s hk hso hsd
  ·
   rename_i b v sb k fs os heff
   split
   ·rename_i hsc
    simp only [Bool.and_eq_true] at hsc
    obtain ⟨⟨hsc,hbs⟩,hmap⟩:=hsc
    intro hos hnext
    apply hG
    rw [hgo']
    refine .inl ?_
    rw [heff] at qO
    obtain ⟨vr,w',hrun,hne0,g',ρ',ob,hA,hvr,hfs,hro,hgrow,Pq,hlive⟩:=qO hos
    have qC:jT ν c.hp.length g' c.hp.length=⟨g',0,none⟩:=by simp [jT]
    generalize jT ν c.hp.length g'=aK at hA qC hvr hlive
    have hr':=hr.ext hsc hA
    have Bp:=hsc
    simp only [cz.sc,Bool.and_eq_true] at Bp
    have afZ:=Bp.1.1.1.2
    have hlt:∀(k:Nat) (s:SB),c.hp[k]?=some s→s.dead ρ'=false→(aK k).block<w.heap.size:=fun k s hk hg=>hr'.hp.lt hk hg
    have XQ:∀o',ob=some o'→∃j sb0,b=some j∧o'=(aK j).block∧c.hp[j]?=some sb0∧sb0.dead ρ'=false∧sb0.ro=false∧sb0.own=true:=by
     intro o' ho'
     rcases Pq with h | ⟨j,sb0,h1,h2,h3,h4,h5,h6⟩
     ·rw [h] at ho';cases ho'
     ·rw [h2] at ho'
      cases ho'
      refine ⟨j,sb0,h1,?_,h3,by rwa [SB.nA hA (jg afZ j sb0 h3)],h5,h6⟩
      rw [hA.bl j (List.getElem?_eq_some_iff.1 h3).1]
    have old:∀(k:Nat) (s:SB),(nG b c.hp)[k]?=some s→s.dead ρ'=false→c.hp[k]?=some s∧b≠some k:=by
     intro k s hk hg
     cases b with
     | none=>exact ⟨hk,by simp⟩
     | some j =>
      simp only [nG] at hk
      rw [List.getElem?_modify] at hk
      cases hx:c.hp[k]? with
      | none=>simp [hx] at hk
      | some x =>
       by_cases hjk:j=k
       ·simp [hx,hjk] at hk
        subst hk
        simp [SB.dead] at hg
       ·simp [hx,hjk] at hk
        exact ⟨by rw [hk],by simpa using hjk⟩
    have hne:∀(k:Nat) (s:SB),(nG b c.hp)[k]?=some s→s.dead ρ'=false→ob≠some (aK k).block:=by
     intro k s hk hg he
     obtain ⟨h1,h2⟩:=old k s hk hg
     obtain ⟨j,sb0,e1,e2,e3,e4,e5,e6⟩:=XQ _ he
     have:=hr'.hp.inj j k sb0 s e3 h1 e4 hg e5 e2.symm
     subst this
     exact h2 e1
    have hlen:(nG b c.hp).length=c.hp.length:=by cases b <;> simp [nG]
    unfold Oper.wp
    rw [hrun]
    refine hK' {c with nv:=c.nv+k,hp:=nG b c.hp ++ [sb],top:=eB (c.top.put o.dst v)} o.dst v _ _ rfl rfl
     (hnext ρ' aK (_,a.2) aS0 _ hA (fun h=>?_) ⟨Nat.le_add_right _ _,by simp only [List.length_append];omega⟩ (fun x hx=>by rw [LJ hA hbs x hx];exact hos x hx) hfs ⟨Nat.le_trans hr'.nv (Nat.le_add_right _ _),?_,hr'.iE,hr'.kn,hr'.gl,?_,?_,?_,MK hr'.top hdst hvr,hr'.dG,fun p k sc h=>(Gn _ _ _ _ _ h).elim⟩)
    ·exact absurd h hne0
    ·simp only [List.length_append]
     have:=hr'.n
     omega
    ·have hbase:aH ρ' aK (nG b c.hp) w':=by
      have hdrop:aH ρ' aK (nG b c.hp) w:=by
       cases b with
       | none=>exact hr'.hp
       | some j=>exact hr'.hp.drop j
      refine hdrop.qB hgrow.size fun k s hk hg=>?_
      exact hgrow.block _ (hlt k s (old k s hk hg).1 hg) fun e=>hne k s hk hg e.symm
     refine hbase.afX (fun hd=>?_) hro
     obtain ⟨⟨cur,h1,h2⟩,h3⟩:=hlive hd
     rw [hlen,qC]
     refine ⟨rfl,⟨cur,by rw [h1];exact fC.mH (by simpa [SB.iN] using hmap),h2⟩,fun k s hk hg=>?_⟩
     rcases h3 with h3 | h3
     ·intro e;exact hne k s hk hg (by rw [h3,e])
     ·rw [h3];exact Nat.ne_of_lt (hlt k s (old k s hk hg).1 hg)
    ·refine hr'.wr.step hgrow.os hgrow.tape hgrow.output hgrow.size fun k hk hn=>hgrow.block k (Nat.lt_of_lt_of_le hk hr'.wr.size) fun e=>?_
     obtain ⟨j,sb0,e1,e2,e3,e4,e5,e6⟩:=XQ k e.symm
     rcases hr'.own j sb0 e3 e6 e4 with h | h
     ·omega
     ·rw [←e2] at h;exact hn h
    ·intro k s hk hso hsd
     simp only at hk
     rw [List.getElem?_append,hlen] at hk
     split at hk
     ·obtain ⟨h1,-⟩:=old k s hk hsd
      exact hr'.own k s h1 hso hsd
     ·rename_i hge
      rw [List.getElem?_singleton] at hk
      split at hk
      ·have:k=c.hp.length:=by omega
       subst this
       simp at hk
       subst hk
       rw [qC]
       obtain ⟨-,h3⟩:=hlive hsd
       rcases h3 with h3 | h3
       ·obtain ⟨j,sb0,e1,e2,e3,e4,e5,e6⟩:=XQ _ h3
        have:=hr'.own j sb0 e3 e6 e4
        rw [←e2] at this
        exact this
       ·rw [h3];exact .inl hr'.wr.size
      ·cases hk
   ·trivial
  ·
   rename_i f args heff
   split
   ·
    rename_i g' k' hfind
    split
    ·rename_i hsc
     split
     ·rename_i σ os v c' hby
      split
      ·rename_i hbs
       intro hos kk pre post hcs hpre hnext
       apply hG
       rw [hgo']
       refine .inl ?_
       rw [heff] at qO
       obtain ⟨hkf,-,XR⟩:=Gl hfind
       rw [hE,Nat.sub_zero,List.getElem?_map,hcs] at XR
       simp at XR
       subst XR
       obtain ⟨hwf,hcon⟩:=hC kk pre post (List.mem_of_getElem? hcs)
       unfold KT at hby
       simp only at hby
       split at hby
       case isFalse=>cases hby
       rename_i kM
       simp only [Bool.and_eq_true,beq_iff_eq] at kM
       obtain ⟨⟨⟨⟨k1,k2⟩,k3⟩,k4⟩,k5⟩:=kM
       split at hby
       ·cases hby
       rename_i os1 hinst
       split at hby
       case h_2=>cases hby
       rename_i Mt new vv hpost hnew hret
       simp only [Option.some.injEq,Prod.mk.injEq] at hby
       obtain ⟨rfl,rfl,rfl,rfl⟩:=hby
       generalize Im (uGl (Rl {lo:=0,ah:=0} kk.args args) c.gl kk.gl) c.hp kk.hp=σ at *
       have Bp:=hsc
       simp only [cz.sc,Bool.and_eq_true] at Bp
       obtain ⟨⟨⟨⟨s1,s2⟩,s3⟩,s4⟩,s5⟩:=Bp
       have ahG:=Il (ν:=ν) hinst hos hr.hp
       obtain ⟨fn,hfn,hfb,adb⟩:∃fn,P.funcs[f]?=some fn∧fn.body.isSome=true∧(fn.name == "runtime.NumGoroutine")=false:=hkf ▸ hcon.fn
       have hrun:=qO fn hfn hfb adb
       unfold Oper.wp
       rw [hrun]
       have hargs:(kk.args.map (·.den (σ.env ρ ν) (σ.fK ρ ν))).toArray=(args.map (·.den ρ ν)).toArray:=by rw [Ij k3]
       have hcall:=hcon.run (σ.env ρ ν) (σ.fK ρ ν) w ahG (ada hr.gl k4) hpre
       rw [hargs,hkf] at hcall
       refine Calls.mono hcall fun e w' he=>?_
       obtain ⟨cB,fA,hA,rfl,hP,hW,hO,hpo⟩:=he
       have H:=Ms (d:=c.nv) (n0:=c.hp.length) k1 k2 k5 hA
       obtain ⟨q1,q2,q3,q4⟩:=abq hwf k1 k2 hinst hos k5 s2 hr.hp hr.own hr.wr.size hA hP hW hO hpost hnew
       have hag:=Ep c.nv kk.nv c.hp.length kk.hp.length ρ cB ν fA
       have hr':=hr.ext hsc hag
       have ajf:=(Eo hnew).1
       refine hK' {c with nv:=c.nv+(kk.jf-kk.nv),hp:=Mt ++ new,top:=eB (c.top.put o.dst vv)} o.dst vv _ _ rfl rfl
        (hnext _ _ (_,a.2) aS0 _ hag ⟨Nat.le_add_right _ _,by simp only [List.length_append];omega⟩ (fun x hx=>by rw [LJ hag hbs x hx];exact hos x hx) (by rw [UL hA];exact hpo)
          ⟨Nat.le_trans hr'.nv (Nat.le_add_right _ _),?_,hr'.iE,hr'.kn,hr'.gl,q1,?_,q2,MK hr'.top hdst (SV.dn H hret).symm,hr'.dG,fun p k sc h=>(Gn _ _ _ _ _ h).elim⟩)
       ·simp only [List.length_append]
        have:=hr.n
        omega
       ·refine hr.wr.step hW.os hW.tape hW.output hW.size fun k hk hn=>hW.block k (Nat.lt_of_lt_of_le hk hr.wr.size) fun hb=>?_
        rcases q4 k hb with h | h
        ·omega
        ·exact hn h
      ·trivial
     ·trivial
    ·trivial
   ·split
    ·rename_i fn hfn
     split
     ·rename_i hcond
      simp only [Bool.and_eq_true,Bool.not_eq_true',decide_eq_true_eq] at hcond
      obtain ⟨⟨hb,hn⟩,hlen⟩:=hcond
      intro _ hnext
      apply hG
      rw [hgo']
      refine .inl ?_
      have JU:=hT.fns f fn (hT.Q3 hfn)
      rw [heff] at qO
      unfold Oper.wp
      rw [qO fn JU hb hn]
      obtain ⟨body,hbody⟩:=Option.isSome_iff_exists.1 hb
      refine Reach.calls JU hbody ?_
      have hg:=hnext ρ ν ({tmps:=(args.map (·.den ρ ν)).toArray ++ Array.replicate (fn.ntmps-(args.map (·.den ρ ν)).toArray.size) undef,defers:=[]},fun _=>True) (a :: aS0) w R0 (fun _=>rfl) L0 (by simp) (by simp)
       ⟨hr.nv,hr.n,hr.iE,hr.kn,hr.gl,hr.hp,hr.wr,hr.own,⟨?_,?_,rfl,fun p k sc d hc=>by cases hc⟩,⟨hr.top,hr.dG⟩,fun p k sc hc=>by cases hc⟩
      ·have hbd:T.body f=body:=by
        unfold aY.body
        rw [show T.f f=some fn from hfn]
        simp [hbody]
       unfold Goal dZ at hg
       simp only [List.map_cons,List.map_nil,SI.jB,hbd,Code.at,Option.getD_some] at hg
       refine Reach.mono hg fun e w' he=>?_
       obtain ⟨v,rfl,MM⟩:=he
       have ahH:((T.ops c.top.f c.top.AZ)[i]?).bind (·.dst)=o.dst:=by
        rw [bV,ho]
        rfl
       rw [ahH] at MM
       exact hK _ _ _ (CX _ _).1 (CX _ _).2.1 rfl MM
      ·intro t v ht
       obtain ⟨k,x,rfl,hx,rfl⟩:=Bo (ρ:=ρ) (ν:=ν) ht
       have hk:k<args.length:=(List.getElem?_eq_some_iff.1 hx).1
       rw [Array.getD_eq_getD_getElem?,Array.getElem?_append]
       simp [hk,SV.den,(List.getElem?_eq_some_iff.1 hx).2]
      ·have:T.ntmps f=fn.ntmps:=by
        unfold aY.ntmps
        rw [show T.f f=some fn from hfn]
        rfl
       rw [this]
       simp
       omega
     ·trivial
    ·trivial
  ·trivial
  ·trivial
end
theorem qD {body:Code} {p:List Nat} {d:Code} (h:Code.at body p=some d) (i:Nat):Code.at body (p ++ [i])=Code.at d [i]:=by
 rw [Code.abl,h];rfl
section
variable {P:Program} {T:aY} {ρ:Env} {ν:Nat→Addr}
def RG (a:Act):ResultVar→Sem Value
 | .tmp t=>pure (a.tmps.getD t undef)
 | .cell x t=>do loadVar t (←asAddr (a.tmps.getD x undef))
theorem RH (fn:Func) (a:Act):results fn a.tmps=(do let vs ←fn.results.mapM (RG a);pure (if h:vs.size=1 then vs[0] else .tuple vs)):=by
 unfold results
 congr 1
theorem Iu (hT:dD P T) {c:cz} {a:Act} {w:World} (hk:Kn.ok ρ c.kn) (hf:ou ρ ν c.top.fr a) (hh:aH ρ ν c.hp w):∀{l:List ResultVar} {xs:List SW} {os:List BE},
  Bd T c l=some (xs,os)→(∀o∈os,o.den ρ=true) →
  (l.mapM (RG a)).run P w=.ok (xs.map (·.den ρ ν)) w
 | [],xs,os,h,_=>by
  simp only [Bd,Option.some.injEq,Prod.mk.injEq] at h
  obtain ⟨rfl,rfl⟩:=h
  rfl
 | .tmp t :: r,xs,os,h,ho=>by
  unfold Bd at h
  split at h
  ·rename_i x ys os' hx hr
   simp only [Option.some.injEq,Prod.mk.injEq] at h
   obtain ⟨rfl,rfl⟩:=h
   have ih:=Iu hT hk hf hh hr ho
   have hx':a.tmps.getD t undef=x.den ρ ν:=hf t _ hx
   rw [List.mapM_cons]
   simp only [RG,Sem.run_bind,Sem.run_pure,Result.andThen_ok,ih,hx',List.map_cons]
  ·cases h
 | .cell x t :: r,xs,os,h,ho=>by
  unfold Bd at h
  split at h
  ·rename_i sa ys os' hx hr
   split at h
   ·rename_i y os2 hl
    simp only [Option.some.injEq,Prod.mk.injEq] at h
    obtain ⟨rfl,rfl⟩:=h
    have ih:=Iu hT hk hf hh hr (fun o hm=>ho o (by simp [hm]))
    have hx':a.tmps.getD x undef=.pointer (some (sa.den ρ ν)):=hf x _ hx
    have hld:=Jp hT hk hh hl (fun o hm=>ho o (by simp [hm]))
    rw [List.mapM_cons]
    have ahI:(asAddr (.pointer (some (sa.den ρ ν)))).run P w=.ok (sa.den ρ ν) w:=rfl
    simp only [RG,Sem.run_bind,Sem.run_pure,Result.andThen_ok,ih,hx',ahI,hld,List.map_cons,SV.den]
   ·cases h
  ·cases h
theorem Gp (hT:dD P T) {c:cz} {a:Act} {w:World} (hk:Kn.ok ρ c.kn) (hf:ou ρ ν c.top.fr a) (hh:aH ρ ν c.hp w) {fn:Func} {xs:List SW} {os:List BE}
  (h:Bd T c fn.results.toList=some (xs,os)) (ho:∀o∈os,o.den ρ=true) :
  (results fn a.tmps).run P w=.ok (SV.den ρ ν (vW xs)) w:=by
 have:=Iu hT hk hf hh h ho
 rw [RH,Array.mapM_eq_mapM_toList]
 simp only [Sem.run_bind,map_eq_pure_bind]
 rw [this]
 simp only [Result.andThen_ok,Sem.run_pure]
 congr 1
 rcases xs with _ | ⟨x,_ | ⟨y,r⟩⟩
 ·simp [vW,SV.den]
 ·simp [vW,SV.den]
 ·simp [vW,SV.den]
end
section
variable {P:Program} {T:aY} {B:yK} {R:Ending→World→Prop} {E:Ex} {cs:mO} {inf:List (List OI)} {ρ:Env} {ν:Nat→Addr} {c:cz} {a:AS} {aS0:List AS} {w:World}
theorem MN (hT:dD P T) (hr:Rel T B ρ ν c a aS0 w)
  (hG:∀fn v,P.funcs[c.top.f]?=some fn→(results fn a.1.tmps).run P w=.ok v w→RK P T R c.dG aS0 (.returned v) w→Goal P T R c a aS0 w) :
  tZ P T B R cs ρ ν c a aS0 w (uX T c):=by
 unfold uX
 split
 ·trivial
 rename_i fn hfn
 have JU:=hT.fns _ fn (hT.Q3 hfn)
 split
 ·trivial
 rename_i xs os hres
 simp only
 cases hst:c.dG with
 | nil =>
  simp only
  intro hos hR
  refine hG fn _ JU (Gp hT hr.kn hr.top.fr hr.hp hres hos) ?_
  rw [hst]
  exact hR hst
 | cons x st =>
  obtain ⟨G,i⟩:=x
  simp only
  split
  ·rename_i hd
   intro hos hnext
   refine hG fn _ JU (Gp hT hr.kn hr.top.fr hr.hp hres hos) ?_
   rw [hst]
   have hs:=hr.dG
   rw [hst] at hs
   cases aS0 with
   | nil=>cases hs
   | cons b bs =>
    obtain ⟨hs1,hs2⟩:=hs
    refine ⟨_,rfl,?_⟩
    have hf1:rq T ρ ν ((G.put (((T.ops G.f G.AZ)[i]?).bind (·.dst)) (vW xs)).eB i)
      (b.1.put (((T.ops G.f G.AZ)[i]?).bind (·.dst)) (SV.den ρ ν (vW xs))) b.2:=(hs1.put hd rfl).advance i
    have hg:=hnext ρ ν (b.1.put (((T.ops G.f G.AZ)[i]?).bind (·.dst)) (SV.den ρ ν (vW xs)),b.2) bs w (dF.refl _ _ _ _) (fun _=>rfl) ⟨Nat.le_refl _,Nat.le_refl _⟩ hos (by simp)
     ⟨hr.nv,hr.n,hr.iE,hr.kn,hr.gl,hr.hp,hr.wr,hr.own,hf1,hs2,fun p k s hc=>by cases (Et hc).1⟩
    unfold Goal at hg
    obtain ⟨e1,e2,e3⟩:=KV G (((T.ops G.f G.AZ)[i]?).bind (·.dst)) (vW xs)
    obtain ⟨f1,f2,-⟩:=CX (G.put (((T.ops G.f G.AZ)[i]?).bind (·.dst)) (vW xs)) i
    obtain ⟨g1,g2,-⟩:=CX G i
    exact zT (g1.trans (f1.trans e1).symm) (g2.trans (f2.trans e2).symm) (PZ i e3.symm) hg
  ·trivial
theorem UM (hT:dD P T) (hr:Rel T B ρ ν c a aS0 w) {p:List Nat} {i D:Nat} {k:eY} {sc:List SB} (bV:c.top.cur=.dr p (.take i D k) sc false) :
  tZ P T B R cs ρ ν c a aS0 w (tY T c (T.ops c.top.f p) i D p k sc):=by
 have hS:=hr.top.held p _ sc _ bV
 have hwk:=hr.held p _ sc bV
 unfold tY
 split
 ·trivial
 rename_i o ho
 split
 ·trivial
 rename_i hdst
 replace hdst:rY T c.top.f o.dst=true:=by simpa using hdst
 split
 ·trivial
 rename_i g hgc
 have hwant:=Mq hr.top.fr hgc
 have take:∀(zS:List SB) (S1:World→Prop) (v:SV) (os:List BE),gq sc zS=true→gq zS c.hp=true→((∀w,S1 w)∨((S1=fun w=>aH ρ ν zS w)∧∀x,k.ko=some x→x∈bitsOf (T.ops c.top.f p).size D)) →
   ((∀b∈os,b.den ρ=true)→YieldsIf P (T.ops c.top.f p) S1 o (v.den ρ ν) a.1) →
   tZ P T B R cs ρ ν c a aS0 w (.next os [] {c with top:={c.top.put o.dst v with cur:=.dr p k zS false}}):=by
  intro zS S1 v os hle ade hS1 hy hos hnext
  have adf:aH ρ ν zS w:=CG ade hr.hp
  have hf:rq T ρ ν {c.top.put o.dst v with cur:=.dr p k zS false} (a.1.put o.dst (v.den ρ ν)) (fun w=>aH ρ ν zS w):=by
   have h1:=hr.top.put (v:=v) hdst rfl
   refine ⟨h1.fr,h1.tmps,h1.defers,fun p' k' s' d' hc=>?_⟩
   simp only [oO.dr.injEq] at hc
   rw [←hc.2.2.1]
   exact fun _=>Iff.rfl
  have hg:=hnext ρ ν (_,fun w=>aH ρ ν zS w) aS0 w (dF.refl _ _ _ _) (fun _=>rfl) ⟨Nat.le_refl _,Nat.le_refl _⟩ hos (by simp) ⟨hr.nv,hr.n,hr.iE,hr.kn,hr.gl,hr.hp,hr.wr,hr.own,hf,hr.dG,fun p' k' s' hc=>by
    simp only [oO.dr.injEq] at hc
    rw [←hc.2.2.1]
    exact ade⟩
  unfold Goal dZ
  rw [bV]
  refine ⟨fun _=>(hS w).2 (CG hwk hr.hp),fun listed hns hsp=>?_⟩
  obtain ⟨z1,z2,z3,z5,z6,z4⟩:=hsp
  unfold Goal dZ at hg
  obtain ⟨e1,e2,e3⟩:=KV c.top o.dst v
  simp only [e1,e2] at hg
  have h2:=hg.2 _ hns z4
  rw [mM z3] at h2
  rw [mM rfl]
  refine Dw (S:=a.2) (S':=fun w=>aH ρ ν zS w) (fun w' h'=>(hS w').2 (CG hle h')) ?_
  refine LD (S1:=S1) (l:=bitsOf (T.ops c.top.f p).size D) ho (Region.noSelect_spec hns) (fun _ _ _ h=>O7 h) z6 hS1 k.size listed a.1 w (Region.free_spec ho z2) z1 (hy hos) ?_ (fun _=>adf) z5 h2
  rcases hS1 with h | ⟨h,_⟩
  ·exact h w
  ·rw [h]
   exact adf
 have h0:gq sc sc=true:=Ie (Nat.le_refl _) fun k x y hx hy=>by rw [hx] at hy;cases hy;exact SB.oN x
 have hnil:∀w',aH ρ ν [] w':=fun w'=>⟨fun i j a b hi=>(by simp at hi),fun k sb h=>(by simp at h),fun k sb h=>(by simp at h)⟩
 have hsc:∀kn,gq sc ((kr T c.gl kn c.top.fr c.hp sc o).getD sc)=true∧gq ((kr T c.gl kn c.top.fr c.hp sc o).getD sc) c.hp=true:=by
  intro kn
  unfold kr
  split
  ·exact ⟨Jw hwk,Ig hwk⟩
  ·exact ⟨h0,hwk⟩
 have hS1:∀kn,¬((kr T c.gl kn c.top.fr c.hp sc o).isSome && !KU k.ko (bitsOf (T.ops c.top.f p).size D))=true →
   (∀w',(fun w'=>aH ρ ν ((kr T c.gl kn c.top.fr c.hp sc o).getD []) w') w')∨(((fun w'=>aH ρ ν ((kr T c.gl kn c.top.fr c.hp sc o).getD []) w')=fun w'=>aH ρ ν ((kr T c.gl kn c.top.fr c.hp sc o).getD sc) w')∧∀x,k.ko=some x→x∈bitsOf (T.ops c.top.f p).size D):=by
  intro kn hn
  cases hh:kr T c.gl kn c.top.fr c.hp sc o with
  | none=>exact .inl hnil
  | some h =>
   refine .inr ⟨rfl,fun x hx=>?_⟩
   rw [hh,hx] at hn
   simpa [KU] using hn
 split
 ·rename_i hdec
  have hg:=BE.dw hr.kn hdec
  exact take sc (fun _=>True) (.iF []) [] h0 hwk (.inl fun _=>trivial) fun _=>.inr ⟨by rw [hwant,hg],rfl⟩
 ·rename_i hdec
  have hg:=BE.dw hr.kn hdec
  split
  ·trivial
  rename_i hok
  split
  ·rename_i v os hp'
   exact take _ _ v os (hsc _).1 (hsc _).2 (hS1 _ hok) fun hos=>.inl ⟨by rw [hwant,hg],fun w' hw'=>uS (hT.sw c.top.f) hr.gl hr.kn hr.top.fr hw' hp' hos⟩
  ·trivial
  ·trivial
 ·rename_i hdec
  split
  ·trivial
  rename_i hok
  split
  ·rename_i x os hp'
   refine take _ _ (.gd g x) _ (hsc _).1 (hsc _).2 (hS1 _ hok) fun hos=>?_
   cases hg:g.den ρ with
   | false=>exact .inr ⟨by rw [hwant,hg],by simp [SV.den,hg]⟩
   | true =>
    refine .inl ⟨by rw [hwant,hg],fun w' hw'=>?_⟩
    rw [uS (hT.sw c.top.f) hr.gl (oC hg hr.kn) hr.top.fr hw' hp' (fun b hb=>by
      have:=hos (.or g.mF b) (List.mem_map.2 ⟨b,hb,rfl⟩)
      simpa [BE.den,BE.iP,hg] using this)]
    simp [SV.den,hg]
  ·trivial
theorem abv (hT:dD P T) (hE:E.cons=cs.map (·.1)) (hC:∀k pre post,(k,pre,post)∈cs→ku k=true∧bg P k pre post) (hr:Rel T B ρ ν c a aS0 w) {p:List Nat} {k:eY} {sc:List SB} {d:Bool} (bV:c.top.cur=.dr p k sc d) :
  tZ P T B R cs ρ ν c a aS0 w (Em T E c p k sc d):=by
 have hS:=hr.top.held p k sc d bV
 unfold Em
 split
 ·
  rename_i hdr
  obtain ⟨k',rfl⟩:∃k',k=.drop k':=by
   cases k <;> first | exact ⟨_,rfl⟩ | (cases hdr)
  intro _ hnext
  have hnil:∀w',aH ρ ν [] w':=fun w'=>⟨fun i j a b hi=>(by simp at hi),fun k sb h=>(by simp at h),fun k sb h=>(by simp at h)⟩
  have hf:rq T ρ ν {c.top with cur:=.dr p k' [] false} a.1 (fun w=>aH ρ ν [] w) :=
   ⟨hr.top.fr,hr.top.tmps,hr.top.defers,fun p' k' s' d' hc=>by
     simp only [oO.dr.injEq] at hc
     rw [←hc.2.2.1]
     exact fun _=>Iff.rfl⟩
  have hg:=hnext ρ ν (a.1,fun w=>aH ρ ν [] w) aS0 w (dF.refl _ _ _ _) (fun _=>rfl) ⟨Nat.le_refl _,Nat.le_refl _⟩ (by simp) (by simp) ⟨hr.nv,hr.n,hr.iE,hr.kn,hr.gl,hr.hp,hr.wr,hr.own,hf,hr.dG,fun p' k' s' hc=>by
    simp only [oO.dr.injEq] at hc
    rw [←hc.2.2.1]
    rfl⟩
  unfold Goal dZ at hg ⊢
  rw [bV]
  refine ⟨fun h=>(by cases h),fun listed hns hsp=>?_⟩
  obtain ⟨z1,z2,z3⟩:=hsp
  have h2:=hg.2 listed hns z3
  have h3:=(mM (s:=k') z2).1 h2
  exact Dx (S:=a.2) z1 h3
 rename_i hnd
 have hnd:k.AQ=false:=by simpa using hnd
 split
 ·rename_i hd
  split
  ·rename_i hwk
   intro _ hnext
   have hg:=hnext ρ ν a aS0 w (dF.refl _ _ _ _) (fun _=>rfl) ⟨Nat.le_refl _,Nat.le_refl _⟩ (by simp) (by simp) ⟨hr.nv,hr.n,hr.iE,hr.kn,hr.gl,hr.hp,hr.wr,hr.own,⟨hr.top.fr,hr.top.tmps,hr.top.defers,fun p' k' s' d' hc=>by
     simp only [oO.dr.injEq] at hc
     rw [←hc.2.2.1]
     exact hS⟩,hr.dG,fun p' k' s' hc=>by
     simp only [oO.dr.injEq] at hc
     rw [←hc.2.2.1]
     exact hwk⟩
   unfold Goal dZ at hg ⊢
   rw [bV]
   exact hg
  ·trivial
 rename_i hd
 have hd':d=false:=by simpa using hd
 subst hd'
 have hwk:=hr.held p k sc bV
 have hSw:a.2 w:=(hS w).2 (CG hwk hr.hp)
 have dS:(∀listed:Array Bool,Region.noSelect (T.ops c.top.f p)=true→qy (T.ops c.top.f p) listed k →
     Bh P (T.ops c.top.f p) (kg P c.top.f (RK P T R c.dG aS0) (c.top.todo.map (SI.jB (T.body c.top.f)))) a.2 k listed a.1 w)→Goal P T R c a aS0 w:=by
  intro h
  unfold Goal dZ
  rw [bV]
  exact ⟨fun _=>hSw,h⟩
 have single:∀(i:Nat) (k':eY),k.rest=k'→(∀listed,qy (T.ops c.top.f p) listed k→k'.mJ=false∧qy (T.ops c.top.f p) (listed.setIfInBounds i true) k' ∧
       ((wpOp P (T.ops c.top.f p) (kg P c.top.f (RK P T R c.dG aS0) (c.top.todo.map (SI.jB (T.body c.top.f)))) i (fun a' w'=>(asked k'.ko (listed.setIfInBounds i true)→a.2 w')∧jw P .any (T.ops c.top.f p) (kg P c.top.f (RK P T R c.dG aS0) (c.top.todo.map (SI.jB (T.body c.top.f)))) a.2 k'.ko k'.size (listed.setIfInBounds i true) a' w') a.1 w) →
         Bh P (T.ops c.top.f p) (kg P c.top.f (RK P T R c.dG aS0) (c.top.todo.map (SI.jB (T.body c.top.f)))) a.2 k listed a.1 w)) →
   tZ P T B R cs ρ ν c a aS0 w (yJ T E c (T.ops c.top.f p) i (CS p k' sc)):=by
  intro i k' hk hgo
  have MJ:∀F:aZ,F.cur=c.top.cur→CS p k' sc F=F.eB i:=by
   intro F hF
   unfold aZ.eB
   rw [hF,bV,←hk]
  refine P5 hT hE hC hr (p:=p) (by unfold aZ.AZ;rw [bV]) MJ (Q:=kg P c.top.f (RK P T R c.dG aS0) (c.top.todo.map (SI.jB (T.body c.top.f))))
   (K:=fun a' w'=>(k'.AQ=false→a.2 w')∧∀listed,Region.noSelect (T.ops c.top.f p)=true→qy (T.ops c.top.f p) listed k →
     jw P .any (T.ops c.top.f p) (kg P c.top.f (RK P T R c.dG aS0) (c.top.todo.map (SI.jB (T.body c.top.f)))) a.2 k'.ko k'.size (listed.setIfInBounds i true) a' w') ?_ ?_
  ·intro F' a' w' h1 h2 h3 hg
   have h3':F'.cur=.dr p k' sc true:=by rw [h3];unfold aZ.eB;rw [bV,←hk];rfl
   unfold dZ at hg
   rw [h3',h1,h2] at hg
   refine ⟨hg.1,fun listed hns hsp=>?_⟩
   obtain ⟨z1,z2,-⟩:=hgo listed hsp
   exact (mM z1).1 (hg.2 _ hns z2)
  ·intro hw
   apply dS
   intro listed hns hsp
   refine (hgo listed hsp).2.2 (wpOp_mono (fun a' w' h=>⟨fun ha=>?_,h.2 listed hns hsp⟩) hw)
   cases hk':k'.AQ with
   | false=>exact h.1 hk'
   | true =>
    have hz:=(hgo listed hsp).2.1
    obtain ⟨k2,rfl⟩:∃k2,k'=.drop k2:=by
     cases k' <;> first | exact ⟨_,rfl⟩ | (cases hk')
    exact absurd ha hz.1
 simp only
 split
 ·intro _ hnext
  apply dS
  intro listed hns hsp
  have hrd:Region.ready .any (T.ops c.top.f p) listed=[]:=List.eq_nil_iff_forall_not_mem.2 hsp
  refine O5 hrd ⟨rfl,?_⟩ _
  have hg:=hnext ρ ν a aS0 w (dF.refl _ _ _ _) (fun _=>rfl) ⟨Nat.le_refl _,Nat.le_refl _⟩ (by simp) (by simp) ⟨hr.nv,hr.n,hr.iE,hr.kn,hr.gl,hr.hp,hr.wr,hr.own,⟨hr.top.fr,hr.top.tmps,hr.top.defers,fun p k d s hc=>by cases hc⟩,hr.dG,fun p k s hc=>by cases hc⟩
  exact hg
 ·exact UM hT hr bV
 ·rename_i i k' _
  refine single i k' rfl fun listed hsp=>?_
  obtain ⟨z1,z2,z3,z4⟩:=hsp
  refine ⟨z3,z4,fun hw=>?_⟩
  refine ⟨fun h0=>(by rw [h0] at z1;cases z1),fun j hj=>?_⟩
  rw [z2 j hj]
  exact hw
 ·rename_i i k' _
  refine single i k' rfl fun listed hsp=>?_
  obtain ⟨z1,z3,z4⟩:=hsp
  exact ⟨z3,z4,fun hw=>hw⟩
 ·rename_i i ki j kj _
  intro hx hy
  have mk:∀(i:Nat) (ki:eY),Rel T B ρ ν {c with top:={c.top with cur:=.dr p (.go i ki) sc false}} a aS0 w:=fun i ki =>
   ⟨hr.nv,hr.n,hr.iE,hr.kn,hr.gl,hr.hp,hr.wr,hr.own,⟨hr.top.fr,hr.top.tmps,hr.top.defers,fun p' k' s' d' hc=>by
     simp only [oO.dr.injEq] at hc
     rw [←hc.2.2.1]
     exact hS⟩,hr.dG,fun p' k' s' hc=>by
     simp only [oO.dr.injEq] at hc
     rw [←hc.2.2.1]
     exact hwk⟩
  have hx':=hx (mk i ki)
  have hy':=hy (mk j kj)
  apply dS
  intro listed hns hsp
  obtain ⟨z1,z2,z3,z4,z5,z6,z9,z7,z8⟩:=hsp
  unfold Goal dZ at hx' hy'
  have h1:=hx'.2 listed hns ⟨z1,z4,z7⟩
  have h2:=hy'.2 listed hns ⟨z2,z5,z8⟩
  simp only [Bh] at h1 h2 ⊢
  refine ⟨fun h0=>(by rw [h0] at z1;cases z1),fun q hq=>?_⟩
  rcases z3 q hq with rfl | rfl
  ·exact h1
  ·rw [show (eY.alt i ki q kj).ko=kj.ko from z9,z6];exact h2
 ·cases hnd
theorem DI {f:FuncId} {p:List Nat} {s:eY}:∀{l:List ((FuncId × List Nat) × eY)},sP f p l=some s→((f,p),s)∈l
 | [],h=>by simp [sP] at h
 | x :: r,h=>by
  unfold sP at h
  split at h
  ·rename_i hc
   simp only [Bool.and_eq_true,beq_iff_eq] at hc
   simp at h
   subst h
   rw [←hc.1,←hc.2]
   exact List.mem_cons_self ..
  ·exact List.mem_cons_of_mem _ (DI h)
theorem Bq {f:FuncId} {p:List Nat} {s:eY}:∀{l:List ((FuncId × List Nat) × eY)} {inf:List (List OI)},kQ T l inf=true→((f,p),s)∈l →
  ∃os,(Region.noSelect (T.ops f p) && s.size == (T.ops f p).size && !s.mJ && mf (T.ops f p) (T.ops f p).size (T.ops f p).toList os && pK os (2 ^ (T.ops f p).size-1) s)=true
 | [],_,_,h=>by cases h
 | x :: r,[],h,_=>by simp [kQ] at h
 | x :: r,os :: q,h,hm=>by
  simp only [kQ] at h
  rw [Bool.and_eq_true] at h
  rcases List.mem_cons.1 hm with e | hm
  ·subst e
   exact ⟨os,h.1⟩
  ·exact Bq h.2 hm
theorem XT {f:FuncId} {p:List Nat} {s:eY} (hS:kQ T E.sched inf=true) (h:sP f p E.sched=some s) :
  Region.noSelect (T.ops f p)=true∧s.size=(T.ops f p).size∧s.mJ=false∧qy (T.ops f p) (Array.replicate (T.ops f p).size false) s:=by
 obtain ⟨os,hh⟩:=Bq hS (DI h)
 simp only [Bool.and_eq_true,beq_iff_eq,Bool.not_eq_true'] at hh
 obtain ⟨⟨⟨⟨h1,h2⟩,h3⟩,h4⟩,h5⟩:=hh
 refine ⟨h1,h2,h3,abo h4 (fun j=>?_) (by simp) h5⟩
 rw [Nat.testBit_two_pow_sub_one,Array.getD_eq_getD_getElem?,Array.getElem?_replicate]
 split <;> rename_i hj <;> simp [hj]
theorem MO (hT:dD P T) (hE:E.cons=cs.map (·.1)) (hC:∀k pre post,(k,pre,post)∈cs→ku k=true∧bg P k pre post) (hS:kQ T E.sched inf=true) (hr:Rel T B ρ ν c a aS0 w):tZ P T B R cs ρ ν c a aS0 w (pM T E c):=by
 have mv:∀{F':aZ},F'.f=c.top.f→F'.fr=c.top.fr→F'.cur=.none→Rel T B ρ ν {c with top:=F'} a aS0 w:=fun {F'} h1 h2 h3 =>
  ⟨hr.nv,hr.n,hr.iE,hr.kn,hr.gl,hr.hp,hr.wr,hr.own,⟨by rw [h2];exact hr.top.fr,by rw [h1];exact hr.top.tmps,hr.top.defers,fun p k s d hc=>(by rw [h3] at hc;cases hc)⟩,hr.dG,fun p k s hc=>(by rw [h3] at hc;cases hc)⟩
 have gr:∀{k:List SI},c.top.cur=.none→Goal P T R {c with top:={c.top with todo:=k}} a aS0 w→Reach P c.top.f (RK P T R c.dG aS0) a.1 (k.map (SI.jB (T.body c.top.f))) w:=by
  intro k h1 hg
  unfold Goal dZ at hg
  simp only [h1] at hg
  exact hg
 have R0:=dF.refl c.nv c.hp.length ρ ν
 have L0:c.nv≤c.nv∧c.hp.length≤c.hp.length:=⟨Nat.le_refl _,Nat.le_refl _⟩
 unfold pM
 simp only
 split
 ·
  rename_i p i bV
  have dS:wpOps P (T.ops c.top.f p) (kg P c.top.f (RK P T R c.dG aS0) (c.top.todo.map (SI.jB (T.body c.top.f)))) (List.range' i ((T.ops c.top.f p).size-i)) a.1 w→Goal P T R c a aS0 w:=by
   intro h
   unfold Goal dZ
   rw [bV]
   exact h
  split
  ·rename_i hlt
   simp only [decide_eq_true_eq] at hlt
   have MJ:∀F:aZ,F.cur=c.top.cur→Bc p i F=F.eB i:=by
    intro F hF
    unfold aZ.eB
    rw [hF,bV]
   refine P5 hT hE hC hr (p:=p) (by unfold aZ.AZ;rw [bV]) MJ (Q:=kg P c.top.f (RK P T R c.dG aS0) (c.top.todo.map (SI.jB (T.body c.top.f))))
    (K:=wpOps P (T.ops c.top.f p) (kg P c.top.f (RK P T R c.dG aS0) (c.top.todo.map (SI.jB (T.body c.top.f)))) (List.range' (i+1) ((T.ops c.top.f p).size-(i+1)))) ?_ ?_
   ·intro F' a' w' h1 h2 h3 hg
    have h3':F'.cur=.reg p (i+1):=by rw [h3];unfold aZ.eB;rw [bV];rfl
    unfold dZ at hg
    rw [h3',h1,h2] at hg
    exact hg
   ·intro hw
    apply dS
    have:(T.ops c.top.f p).size-i=((T.ops c.top.f p).size-(i+1))+1:=by omega
    rw [this,List.range'_succ,wpOps_cons]
    exact hw
  ·rename_i hge
   simp only [decide_eq_true_eq] at hge
   intro _ hnext
   apply dS
   have:(T.ops c.top.f p).size-i=0:=by omega
   rw [this]
   have hg:=hnext ρ ν a aS0 w R0 (fun _=>rfl) L0 (by simp) (by simp) (mv rfl rfl rfl)
   exact ⟨rfl,hg⟩
 ·rename_i p k sc d bV
  exact abv hT hE hC hr bV
 ·rename_i bV
  have dS:Reach P c.top.f (RK P T R c.dG aS0) a.1 (c.top.todo.map (SI.jB (T.body c.top.f))) w→Goal P T R c a aS0 w:=by
   intro h
   unfold Goal dZ
   rw [bV]
   exact h
  split
  ·rename_i htodo
   rw [htodo] at dS
   exact MN hT hr fun fn v hfn hres hR=>dS (Reach.end hfn hr.top.defers hres hR)
  ·rename_i id k htodo
   rw [htodo] at dS
   intro _ hnext
   exact dS (Reach.step (fun b cs=>step_inBlock) (gr bV (hnext ρ ν a aS0 w R0 (fun _=>rfl) L0 (by simp) (by simp) (mv rfl rfl bV))))
  ·trivial
  ·rename_i q k htodo
   rw [htodo] at dS
   intro _ hnext
   exact dS (Reach.step (fun b cs=>step_inLoop) (gr bV (hnext ρ ν a aS0 w R0 (fun _=>rfl) L0 (by simp) (by simp) (mv rfl rfl bV))))
  ·rename_i p k htodo
   rw [htodo] at dS
   simp only [List.map_cons,SI.jB] at dS
   split
   ·rename_i hat
    rw [hat] at dS
    intro _ hnext
    exact dS (Reach.step (fun b cs=>step_skip) (gr bV (hnext ρ ν a aS0 w R0 (fun _=>rfl) L0 (by simp) (by simp) (mv rfl rfl bV))))
   ·rename_i l hat
    rw [hat] at dS
    intro _ hnext
    exact dS (Reach.step (fun b cs=>step_label) (gr bV (hnext ρ ν a aS0 w R0 (fun _=>rfl) L0 (by simp) (by simp) (mv rfl rfl bV))))
   ·rename_i x y hat
    rw [hat] at dS
    intro _ hnext
    have hg:=gr bV (hnext ρ ν a aS0 w R0 (fun _=>rfl) L0 (by simp) (by simp) (mv rfl rfl bV))
    simp only [List.map_cons,SI.jB,qD hat,Code.at,Option.getD_some] at hg
    exact dS (Reach.step (fun b cs=>step_seq) hg)
   ·rename_i o x y hat
    rw [hat] at dS
    split
    ·trivial
    rename_i b hb
    have hev:a.1.eval o=.bool (b.den ρ):=by
     simp only [Option.bind_eq_some_iff] at hb
     obtain ⟨v,hv,hvb⟩:=hb
     rw [lh hr.gl hr.kn hr.top.fr hv]
     unfold pg at hvb
     split at hvb
     ·simp at hvb;subst hvb;rfl
     ·cases hvb
    split
    ·rename_i hd
     have:=BE.dw hr.kn hd
     intro _ hnext
     have hg:=gr bV (hnext ρ ν a aS0 w R0 (fun _=>rfl) L0 (by simp) (by simp) (mv rfl rfl bV))
     simp only [List.map_cons,SI.jB,qD hat,Code.at,Option.getD_some] at hg
     refine dS (Reach.step (fun b' cs=>step_cond hev) ?_)
     simp only [this,if_true]
     exact hg
    ·rename_i hd
     have:=BE.dw hr.kn hd
     intro _ hnext
     have hg:=gr bV (hnext ρ ν a aS0 w R0 (fun _=>rfl) L0 (by simp) (by simp) (mv rfl rfl bV))
     simp only [List.map_cons,SI.jB,qD hat,Code.at,Option.getD_some] at hg
     refine dS (Reach.step (fun b' cs=>step_cond hev) ?_)
     simp only [this,Bool.false_eq_true,if_false]
     exact hg
    ·trivial
   ·rename_i id' x hat
    rw [hat] at dS
    intro _ hnext
    have hg:=gr bV (hnext ρ ν a aS0 w R0 (fun _=>rfl) L0 (by simp) (by simp) (mv rfl rfl bV))
    simp only [List.map_cons,SI.jB,qD hat,Code.at,Option.getD_some] at hg
    exact dS (Reach.step (fun b cs=>step_block) hg)
   ·rename_i x hat
    rw [hat] at dS
    intro _ hnext
    have hg:=gr bV (hnext ρ ν a aS0 w R0 (fun _=>rfl) L0 (by simp) (by simp) (mv rfl rfl bV))
    simp only [List.map_cons,SI.jB,qD hat,Code.at,Option.getD_some] at hg
    exact dS (Reach.step (fun b cs=>step_loop) hg)
   ·rename_i id' hat
    rw [hat] at dS
    split
    ·rename_i k' hk'
     intro _ hnext
     exact dS (Reach.step (fun b cs=>step_exit (pE _ _ hk')) (gr bV (hnext ρ ν a aS0 w R0 (fun _=>rfl) L0 (by simp) (by simp) (mv rfl rfl bV))))
    ·trivial
   ·rename_i hat
    rw [hat] at dS
    exact MN hT hr fun fn v hfn hres hR=>dS (Reach.ret hfn hr.top.defers hres hR)
   ·rename_i id' ops hat
    rw [hat] at dS
    intro _ hnext
    have hops:T.ops c.top.f p=ops:=by unfold aY.ops;rw [hat];rfl
    have hg:=hnext ρ ν a aS0 w R0 (fun _=>rfl) L0 (by simp) (by simp) ⟨hr.nv,hr.n,hr.iE,hr.kn,hr.gl,hr.hp,hr.wr,hr.own,⟨hr.top.fr,hr.top.tmps,hr.top.defers,fun p k s d hc=>by cases hc⟩,hr.dG,fun p k s hc=>by cases hc⟩
    refine dS (Reach.region ?_)
    unfold Goal dZ at hg
    simp only [hops,Nat.sub_zero] at hg
    rw [List.range_eq_range']
    exact hg
   ·rename_i id' ops hat
    rw [hat] at dS
    have hops:T.ops c.top.f p=ops:=by unfold aY.ops;rw [hat];rfl
    split
    ·rename_i s hfind
     obtain ⟨z1,z2,z3,z4⟩:=XT hS hfind
     intro _ hnext
     have hg:=hnext ρ ν (a.1,fun w=>aH ρ ν [] w) aS0 {w with drawn:=w.drawn+1} R0 (fun _=>rfl) L0 (by simp) (by simp)
      ⟨hr.nv,hr.n,hr.iE,hr.kn,hr.gl,hr.hp.drew _,hr.wr.step rfl rfl rfl (Nat.le_refl _) (fun _ _ _=>rfl),hr.own,
        ⟨hr.top.fr,hr.top.tmps,hr.top.defers,fun p k s d hc w'=>by cases hc;exact Iff.rfl⟩,hr.dG,fun p k s hc=>by cases hc;simp [gq]⟩
     refine dS (Reach.draw (S:=fun w=>aH ρ ν [] w) (m:=s.ko) hT.mixed ?_)
     unfold Goal dZ at hg
     simp only [hops] at hg z1 z2 z4
     have h1:=hg.2 (Array.replicate ops.size false) z1 z4
     rw [mM z3,z2] at h1
     exact h1
    ·trivial
   ·trivial
end
end Go.Rex
