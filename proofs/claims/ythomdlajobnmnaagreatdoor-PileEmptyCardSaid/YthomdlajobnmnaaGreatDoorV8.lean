/- part 8 of the proof -/
import Derived.Test.YthomdlajobnmnaaGreatDoorV7
set_option linter.unusedSimpArgs false
set_option linter.unusedVariables false
namespace Go.Rex
def qg (P:Program) (ρ:Env) (ν:Nat→Addr) (w:World) (hp:List SB) (a:Act) (nv:Nat) (o:Oper):ER→Prop
 | .val v os=>(∀c∈os,c.den ρ=true)→(execOp a.eval o).run P w=.ok (.value (v.den ρ ν)) w
 | .new v sb os=>ν hp.length=⟨w.heap.size,0,none⟩→(∀c∈os,c.den ρ=true)→∃obj arr,eO (some obj) sb.t arr∧sb.has ρ ν arr∧sb.ro=false∧(execOp a.eval o).run P w=.ok (.value (v.den ρ ν)) (w.alloc obj)
 | .st b sb os=>(∀c∈os,c.den ρ=true)→∃r w' sb0,(r=Next.skip∨r=.value (.tuple #[]))∧hp[b]?=some sb0∧sb0.own=true∧sb0.dead ρ=false∧(execOp a.eval o).run P w=.ok r w'∧IM (ν b).block w w'∧aI ρ ν (hp.set b sb) w'
 | .app b v sb _ fs os=>(∀c∈os,c.den ρ=true)→∃vr w',(execOp a.eval o).run P w=.ok (.value vr) w'∧Dj ρ ν w hp nv b v sb fs vr w'
 | .call f args=>∀fn,P.funcs[f]?=some fn→fn.body.isSome=true→(fn.name == "runtime.NumGoroutine")=false→(execOp a.eval o).run P w=.ok (.enter f (args.map (·.den ρ ν)).toArray) w
 | _=>True
section
variable {P:Program} {T:aX} {ρ:Env} {ν:Nat→Addr} {w:World} {gl:List (Nat × Nat)} {kn:Kn} {fr:Fr} {hp:List SB} {a:Act} {nv:Nat} {o:Oper}
theorem sQ (t:TypeId) (cs:List SC) (sb:SB) (h1:sb.cs=cs) (h2:sb.aV=[]) (h3:sb.ups=[]) (h4:∀e n,sb.cap=some (e,n)→0≤e.den ρ∧cs.length=(e.den ρ).toNat * n):sb.has ρ ν (cs.map (·.den ρ ν)).toArray:=by
 refine ⟨fun u hu=>(by rw [h3] at hu;cases hu),fun _ _=>by simp [h1],fun e n he=>?_,fun p c hp hh=>?_,fun gi g hg=>(by rw [h2] at hg;simp at hg)⟩
 ·obtain ⟨q1,q2⟩:=h4 e n he
  exact ⟨q1,by simpa using q2⟩
 ·rw [h1] at hp
  simp [hp]
theorem Xa (n size:Nat) (l:List SC) (z:Array Value) (hz:z.toList=l.map (·.den ρ ν)) (hs:l.length=size) (h0:0<size) :
  ((Array.range (n * size)).map (z[· % z.size]!))=((zs n size l).map (·.den ρ ν)).toArray:=by
 have hsz:z.size=size:=by rw [←hs,←Array.length_toList,hz,List.length_map]
 apply Array.ext'
 simp only [Array.toList_map,Array.toList_range,zs,List.map_map]
 apply List.map_congr_left
 intro i _
 have hlt:i % size<size:=Nat.mod_lt _ h0
 simp only [Function.comp]
 rw [hsz]
 have h1:z[i % size]?=some ((l.getD (i % size) .hole).den ρ ν):=by
  rw [←Array.getElem?_toList,hz,List.getElem?_map,List.getD_eq_getElem?_getD,List.getElem?_eq_getElem (by omega)]
  rfl
 rw [getElem!_def,h1]
theorem Xb (g n:Nat):(⟨g,0,none⟩:Addr).add n=⟨g,n,none⟩:=by
 unfold Addr.add
 split <;> simp_all
theorem F3 {place:Nat→Option (Nat × Nat)}:∀{parts:List (Nat × SW)} {cs cs':List SC},o9 place cs parts=some cs'→cs'.length=cs.length
 | [],cs,cs',h=>by simp [o9] at h;subst h;rfl
 | (i,x) :: r,cs,cs',h=>by
  unfold o9 at h
  split at h
  ·cases h
  ·split at h
   ·rw [F3 h,xN]
   ·cases h
variable (hT:di P T) (hg:iB ν gl) (hk:Kn.ok ρ kn) (hf:mX ρ ν fr a) (hh:aI ρ ν hp w)
include hT hg hk hf
theorem MP {t:TypeId} {len:Nat} {parts:Array (Nat × Operand)} (ho:o.op=.buildSlice t len parts):qg P ρ ν w hp a nv o (yj T gl kn fr hp t len parts):=by
 have dY:∀{x v},dF gl kn fr x=some v→a.eval x=v.den ρ ν:=fun hx=>jQ hg hk hf hx
 unfold yj
 split
 case h_2=>trivial
 rename_i ti hti
 split
 case h_2=>trivial
 rename_i e he
 split
 case h_2=>trivial
 rename_i te ps hte hps
 split
 case isFalse=>trivial
 rename_i hcond
 simp only [Bool.and_eq_true,decide_eq_true_eq] at hcond
 split
 case h_2=>trivial
 rename_i cs vN
 intro lF _
 obtain ⟨d,hd,hc,-⟩:=(hT.ty hti).und
 rw [he] at hc
 cases d <;> simp [eU] at hc
 subst hc
 obtain ⟨i,z,hi,hs,hz,hzc,hza,hzl,-⟩:=(hT.ty hte).info
 have hzd:=nC (ρ:=ρ) (ν:=ν) hzc
 have hlen:cs.length=len * te.size:=by rw [F3 vN];simp [zs]
 refine ⟨_,(cs.map (·.den ρ ν)).toArray,eO.lh (hT.ty hte).lt,sQ e cs _ rfl rfl rfl (fun e0 n he0=>?_),rfl,?_⟩
 ·simp only [Option.some.injEq,Prod.mk.injEq] at he0
  obtain ⟨rfl,rfl⟩:=he0
  simp only [IE.den,Int.toNat_natCast]
  exact ⟨Int.natCast_nonneg _,hlen⟩
 have hparts:(parts.map fun (p:Nat × Operand)=>(p.1,a.eval p.2)).toList=ps.map fun p=>(p.1,p.2.den ρ ν):=by
  clear vN ho
  rw [Array.toList_map]
  generalize parts.toList=l at *
  induction l generalizing ps with
  | nil=>simp [Fw] at hps;subst hps;rfl
  | cons p l ih =>
   simp only [List.map_cons] at hps
   unfold Fw at hps
   split at hps
   ·rename_i h0;cases h0
   ·rename_i i0 x0 r0 h0
    simp only [List.cons.injEq,Prod.mk.injEq] at h0
    obtain ⟨⟨rfl,hx⟩,rfl⟩:=h0
    simp only [Option.map_eq_some_iff] at hps
    obtain ⟨q,hq,rfl⟩:=hps
    simp only [List.map_cons,ih _ hq,dY hx,SV.den]
   ·cases hps
 have hf:=vM (ρ:=ρ) (ν:=ν) (place:=fun i=>some (i * te.size,te.size)) (HY:=fun i=>some (i * te.size,te.size)) (fun k p hk=>hk) vN
 have hrun:(Instr.buildSlice t len (parts.map fun (p:Nat × Operand)=>(p.1,a.eval p.2))).run P w=.ok (.slice (some ⟨w.heap.size,0,none⟩) len len) (w.alloc (.cells (cs.map (·.den ρ ν)).toArray e)):=by
  by_cases h0:len * te.size=0
  ·have hz0:zs len te.size te.zero=[]:=by simp [zs,h0]
   rw [hz0] at hf
   have hf':Instr.fill (fun i=>some (i * te.size,te.size)) #[] (parts.map fun (p:Nat × Operand)=>(p.1,a.eval p.2)).toList=some (cs.map (·.den ρ ν)).toArray:=by rw [hparts];exact hf
   have hl0:len=0:=(Nat.mul_eq_zero.1 h0).resolve_right (by omega)
   subst hl0
   rw [Array.toList_map] at hf'
   have e0:(Array.map (fun (_:Nat)=>(default:Value)) (Array.range 0))=#[]:=by apply Array.ext';simp
   simp [Instr.buildSlice,run_underlying hd,(hT.ty hte).size,e0,hf',newRow]
  ·exact run_buildSlice (P:=P) w t e len (parts.map fun (p:Nat × Operand)=>(p.1,a.eval p.2)) (cs.map (·.den ρ ν)).toArray i z hd hi hz (by rw [hs];omega) (by rw [hs];exact h0) (by
      rw [hs,hparts,Xa (ρ:=ρ) (ν:=ν) len te.size te.zero z.cells hzd hzl hcond.2]
      exact hf)
 unfold execOp
 simp only [ho,Sem.run_bind]
 rw [hrun]
 simp [SV.den,SW.den,SC.den,SA.den,SA.off,IE.den,lF,Addr.add_zero]
omit hT hg hk hf in
theorem MQ {zero:List SC} {g:ae} (h:zN zero g=true):g.z=true∧∀i2 j,i2<g.n2→j<g.ks.length→∃k c,g.ks[j]?=some k∧zero[i2 * g.s2+g.lo+j]?=some c∧uG k c=true:=by
 unfold zN at h
 simp only [Bool.and_eq_true,List.all_eq_true,List.mem_range] at h
 refine ⟨h.1,fun i2 j h1 h2=>?_⟩
 have:=h.2 i2 h1 j h2
 split at this
 ·rename_i k c hk hc
  exact ⟨k,c,hk,hc,this⟩
 ·cases this
omit hT hg hk hf in
theorem Au {k:Kd} {c:SC} (h:uG k c=true) (g:ae) (hz:g.z=true) {i1 i2 j:Nat} (hk:g.ks[j]?=some k):c.den ρ ν=g.base ρ i1 i2 j:=by
 unfold uG at h
 split at h
 ·rename_i a b n
  simp only [Bool.and_eq_true,beq_iff_eq] at h
  have:=gU h.1
  subst this
  simp [SC.den,IE.den,ae.base,hk,hz,h.2]
 ·rename_i b
  simp at h
  simp [SC.den,BE.den,ae.base,hk,hz,h]
 ·cases h
omit hg hk hf in
theorem RA {e:TypeId} {te:TI} {n:IE} {aV:List ae} {z:Array Value} (hz:z.toList=te.zero.map (·.den ρ ν)) (hzl:te.zero.length=te.size) (h0:0<te.size) (hn:0≤n.den ρ)
  (hs:∀g∈aV,zN te.zero {g with n1:=n,s1:=te.size}=true) (hne:aV≠[]) (cap:Option (IE × Nat)) (hcap:cap=some (n,te.size)) :
  SB.has ρ ν {t:=e,aV:=aV.map fun g=>{g with n1:=n,s1:=te.size},own:=true,cap:=cap} (madeCells z ((n.den ρ).toNat * te.size)):=by
 have _:=hT
 have hsz:z.size=te.size:=by rw [←Array.length_toList,hz,List.length_map,hzl]
 refine ⟨fun u hu=>(by cases hu),fun h=>absurd (List.map_eq_nil_iff.1 h) hne,fun e' m he=>?_,fun p c hp=>(by simp at hp),fun gi g hg i1 i2 j h1 h2 h3=>?_⟩
 ·rw [hcap] at he
  simp only [Option.some.injEq,Prod.mk.injEq] at he
  obtain ⟨rfl,rfl⟩:=he
  exact ⟨hn,size_madeCells _ _⟩
 ·simp only [List.getElem?_map,Option.map_eq_some_iff] at hg
  obtain ⟨g0,hg0,rfl⟩:=hg
  have hzs:=hs g0 (List.mem_of_getElem? hg0)
  obtain ⟨hzz,ZL⟩:=MQ hzs
  obtain ⟨k,c,hk',hc,hfit⟩:=ZL i2 j h2 h3
  have hlt:i2 * g0.s2+g0.lo+j<te.size:=by rw [←hzl];exact (List.getElem?_eq_some_iff.1 hc).1
  simp only [cu]
  rw [←Au (ρ:=ρ) (ν:=ν) hfit _ hzz hk']
  have hi:i1<(n.den ρ).toNat:=by simp only at h1;omega
  have hpos:i1 * te.size+i2 * g0.s2+g0.lo+j<(n.den ρ).toNat * te.size:=by
   have:(i1+1) * te.size≤(n.den ρ).toNat * te.size:=Nat.mul_le_mul_right _ hi
   rw [Nat.add_mul] at this
   omega
  have hmod:(i1 * te.size+i2 * g0.s2+g0.lo+j) % te.size=i2 * g0.s2+g0.lo+j:=by
   rw [show i1 * te.size+i2 * g0.s2+g0.lo+j=te.size * i1+(i2 * g0.s2+g0.lo+j) by rw [Nat.mul_comm];omega,Nat.mul_add_mod,Nat.mod_eq_of_lt hlt]
  have hzc:z[i2 * g0.s2+g0.lo+j]?=some (c.den ρ ν):=by rw [←Array.getElem?_toList,hz,List.getElem?_map,hc];rfl
  unfold madeCells
  rw [Array.getElem?_map,Array.getElem?_range,if_pos hpos]
  simp only [Option.map_some,hsz,hmod]
  rw [getElem!_def,hzc]
theorem O7 {t:TypeId} {l c:Operand} (ho:o.op=.makeSlice t l c):qg P ρ ν w hp a nv o (Bj T gl kn fr hp t l c):=by
 have dY:∀{x v},dF gl kn fr x=some v→a.eval x=v.den ρ ν:=fun hx=>jQ hg hk hf hx
 unfold Bj
 split
 case h_2=>trivial
 rename_i ti hti
 split
 case h_2=>trivial
 rename_i e he
 split
 case h_2=>trivial
 rename_i te k1 n k2 m hte hl hc
 simp only
 split
 case isFalse=>trivial
 rename_i hcond
 simp only [Bool.and_eq_true,decide_eq_true_eq,Bool.not_eq_true',List.isEmpty_eq_false_iff,List.all_eq_true,List.mem_map,forall_exists_index,and_imp,forall_apply_eq_imp_iff₂] at hcond
 obtain ⟨⟨⟨c1,c2⟩,c3⟩,c4⟩:=hcond
 have hnm:=IE.aC c1
 subst hnm
 intro lF hos
 have b1:=of_decide_eq_true (hos _ (by simp):BE.den ρ (.aA (.lit 0) n)=true)
 have b2:=of_decide_eq_true (hos _ (by simp):BE.den ρ (.aA (n.Iu (.lit te.bytes)) (.lit 281474976710656))=true)
 have b3:=of_decide_eq_true (hos _ (by simp):BE.den ρ (.aA n (.lit 9223372036854775807))=true)
 rw [IZ] at b2
 simp only [IE.den] at b1 b2 b3
 obtain ⟨d,hd,hcd,-⟩:=(hT.ty hti).und
 rw [he] at hcd
 cases d <;> simp [eU] at hcd
 subst hcd
 obtain ⟨i,z,hi,hs,hz,hzc,hza,hzl,hby⟩:=(hT.ty hte).info
 have hzd:=nC (ρ:=ρ) (ν:=ν) hzc
 refine ⟨_,madeCells z.cells ((n.den ρ).toNat * te.size),eO.lh (hT.ty hte).lt,RA hT hzd hzl c2 b1 c3 (fun h=>c4 (by rw [h];rfl)) _ rfl,rfl,?_⟩
 have hr:=run_make (P:=P) w t e i z hd hi hz k1 k2 (n.den ρ) (n.den ρ) b1 (Int.le_refl _) (by rw [hby,Int.mul_comm];exact b2) b3
 rw [hs] at hr
 have e1:a.eval l=.int k1 (n.den ρ):=dY hl
 have e2:a.eval c=.int k2 (n.den ρ):=dY hc
 unfold execOp
 simp only [ho,e1,e2,Sem.run_bind]
 rw [hr]
 simp [SV.den,SW.den,SC.den,SA.den,SA.off,IE.den,lF,Addr.add_zero]
theorem MR {t:TypeId} {r:Option Operand} (ho:o.op=.makeMap t r):qg P ρ ν w hp a nv o (ym T hp t r):=by
 have _:=hT;have _:=hg;have _:=hk;have _:=hf
 unfold ym
 split
 case isFalse=>trivial
 rename_i hc
 simp only [Bool.and_eq_true,Option.isNone_iff_eq_none] at hc
 obtain ⟨hty,rfl⟩:=hc
 intro lF _
 have hm:mE (1000000+t)=true:=by
  unfold mE
  rw [Nat.ble_eq]
  exact Nat.le_add_right _ _
 refine ⟨.map #[] 0,jP [],eO.of_map (es:=#[]) (clock:=0) hm ⟨by simp,by simp⟩,⟨fun u hu=>(by cases hu),fun h=>(by cases h),fun e n he=>(by cases he),fun p c hp=>(by simp at hp),fun gi g hgi i1 i2 j h1 h2 h3=>?_⟩,rfl,?_⟩
 ·rcases gi with _ | gi
  ·simp only [List.getElem?_cons_zero,Option.some.injEq] at hgi
   subst hgi
   simp only [List.length_cons,List.length_nil] at h2 h3
   simp only [IE.den] at h1
   obtain rfl:i2=0:=by omega
   have e:i1 * 2+0 * 0+0+j=dG ((i1:Int)-9223372036854775808) j:=by unfold dG;omega
   rw [e]
   have hv:=AU [] (key:=(i1:Int)-9223372036854775808) (by omega) (by omega)
   have hj:j=0∨j=1:=by omega
   rcases hj with rfl | rfl
   ·rw [hv.1];rfl
   ·rw [hv.2];rfl
  ·simp at hgi
 ·unfold execOp
  simp [ho,Instr.makeMap,SV.den,SW.den,SC.den,lF]
include hh in
theorem F4 {t:TypeId} {m k:Operand} {x:Option Operand} {b:Nat} {sb':SB} {os:List BE} (h:lY T gl kn fr hp t m k x=.st b sb' os) (hos:∀c∈os,c.den ρ=true) :
  ∃kt et sb0 es clock ke v,P.underlying t=some (.map kt et)∧P.underlying kt=some (.int .i64)∧hp[b]?=some sb0∧sb0.own=true∧sb0.dead ρ=false∧a.eval m=.map (some (ν b).block)∧a.eval k=.int .i64 ke ∧
   (-9223372036854775808≤ke∧ke≤9223372036854775807)∧(∀y,x=some y→a.eval y=.int .i64 v)∧w.heap[(ν b).block]?=some (.map es clock)∧jM es.toList ∧
   ∀(w':World) (es':Array MapEntry) (clock':Nat),Fy es.toList es'.toList ke (x.map fun _=>v)→w'={w with heap:=w.heap.setIfInBounds (ν b).block (.map es' clock')} →
    IM (ν b).block w w'∧aI ρ ν (hp.set b sb') w':=by
 have dY:∀{x v},dF gl kn fr x=some v→a.eval x=v.den ρ ν:=fun hx=>jQ hg hk hf hx
 unfold lY at h
 split at h
 case isFalse=>cases h
 rename_i hty
 obtain ⟨kt,et,u1,u2,u3,-⟩:=H6 hT hty
 split at h
 case h_2=>cases h
 rename_i b' ke hm hke
 split at h
 case h_2=>cases h
 rename_i v sb hv hsb
 split at h
 ·cases h
 rename_i hgr
 simp only [Bool.or_eq_true,not_or,Bool.not_eq_true,Bool.not_eq_true',Bool.not_eq_false] at hgr
 obtain ⟨⟨g1,g2⟩,g3⟩:=hgr
 split at h
 ·cases h
 rename_i g hg'
 split at h
 ·cases h
 rename_i sb1 hw1
 split at h
 ·cases h
 rename_i WL hw2
 cases h
 obtain ⟨hr,hnl,hl⟩:=sJ (ρ:=ρ) hg' hos
 have hd:sb.dead ρ=false:=SB.uw g1 hnl
 obtain ⟨hz,cs,h1,h2⟩:=hh.aD b sb hsb hd g2
 have hmp:=(xR hg').2.1
 obtain ⟨es,clock,e1,e2,e3⟩:=eO.map h1 hmp
 rw [e3] at h2
 refine ⟨kt,et,sb,es,clock,ke.den ρ,v.den ρ,u1,u2,hsb,by simpa using g3,hd,dY hm,dY hke,hr,fun y hy=>?_,e1,e2,fun w' es' clock' hu hw'=>?_⟩
 ·subst hy
  simp only at hv
  split at hv
  ·rename_i e hx
   simp at hv
   subst hv
   exact dY hx
  ·cases hv
 ·obtain ⟨l1,l2,l3⟩:=hl 1 (by decide)
  obtain ⟨hb1,-⟩:=SB.AJ (ρ:=ρ) (ν:=ν) h2 l1 l2 hw1
  have MS:sb1.aV=sb.aV∧sb1.t=sb.t∧sb1.ro=sb.ro:=by
   have:=(SB.La hw1).1
   unfold SB.write at hw1
   split at hw1
   ·cases hw1
   ·simp only at hw1
    split at hw1
    ·simp at hw1;subst hw1;exact ⟨rfl,rfl,rfl⟩
    ·cases hw1
  have T9:sb'.t=sb1.t∧sb'.ro=sb1.ro:=by
   unfold SB.write at hw2
   split at hw2
   ·cases hw2
   ·simp only at hw2
    split at hw2
    ·simp at hw2;subst hw2;exact ⟨rfl,rfl⟩
    ·cases hw2
  obtain ⟨k1,k2,k3⟩:=hl 0 (by decide)
  have k1':(Loc.sg 0 g (mapKey ke) (.lit 0) 0).ok sb1:=by
   obtain ⟨q1,q2⟩:=k1
   exact ⟨by rw [MS.1];exact q1,q2⟩
  obtain ⟨hb2,-⟩:=SB.AJ (ρ:=ρ) (ν:=ν) hb1 k1' k2 hw2
  rw [l3,k3] at hb2
  have hO:IM (ν b).block w w':=by
   subst hw'
   exact ⟨rfl,rfl,rfl,by simp,fun j hj=>by simp [Ne.symm hj]⟩
  refine ⟨hO,hh.set hsb hd g2 hO (kR:=jP es'.toList) ?_ ?_ (by rw [T9.2,MS.2.2];exact g2)⟩
  ·subst hw'
   have hlt:(ν b).block<w.heap.size:=(Array.getElem?_eq_some_iff.1 e1).1
   rw [T9.1,MS.2.1]
   have:(w.heap.setIfInBounds (ν b).block (.map es' clock'))[(ν b).block]?=some (.map es' clock'):=by simp [hlt]
   rw [this]
   have ZM:mE sb.t=true:=by have h0:=hmp;unfold SB.gV at h0;exact h0
   exact eO.of_map ZM hu.wf
  ·rw [Rn hu hr.1 hr.2]
   have ex:(SC.int .i64 v).den ρ ν=.int .i64 ((x.map fun _=>v.den ρ).getD 0):=by
    cases x with
    | some y=>rfl
    | none =>
     have hv':some (IE.lit 0)=some v:=hv
     injection hv' with hv'
     rw [←hv']
     rfl
   have eb:(SC.bool (.lit x.isSome)).den ρ ν=.bool (x.map fun _=>v.den ρ).isSome:=by cases x <;> rfl
   rw [←ex,←eb]
   exact hb2
omit hT hg hk hf in
theorem Dl {t:TypeId} {m k:Operand} {x:Option Operand}:(∃b sb os,lY T gl kn fr hp t m k x=.st b sb os)∨lY T gl kn fr hp t m k x=.no:=by
 unfold lY
 by_cases h1:zF T t=true
 ·rw [if_pos h1]
  split
  ·split
   ·rename_i v sb _ _
    by_cases h2:(sb.gone || sb.ro || !sb.own)=true
    ·rw [if_pos h2];exact .inr rfl
    ·rw [if_neg h2]
     split
     ·exact .inr rfl
     ·split
      ·exact .inr rfl
      ·split
       ·exact .inr rfl
       ·exact .inl ⟨_,_,_,rfl⟩
   ·exact .inr rfl
  ·exact .inr rfl
 ·rw [if_neg h1];exact .inr rfl
include hh in
theorem I5 {t:TypeId} {m k x:Operand} (ho:o.op=.mapUpdate t m k x):qg P ρ ν w hp a nv o (lY T gl kn fr hp t m k (some x)):=by
 rcases Dl (T:=T) (gl:=gl) (kn:=kn) (fr:=fr) (hp:=hp) (t:=t) (m:=m) (k:=k) (x:=some x) with ⟨b,sb',os,h⟩ | h
 ·rw [h]
  intro hos
  obtain ⟨kt,et,sb0,es,clock,ke,v,u1,u2,h1,h2,h3,h4,h5,h6,h7,h8,h9,h10⟩:=F4 hT hg hk hf hh h hos
  obtain ⟨es',clock',hr,hu⟩:=Mq u1 u2 h8 h9 h6 (v:=v)
  obtain ⟨q1,q2⟩:=h10 _ es' clock' hu rfl
  refine ⟨_,_,sb0,.inl rfl,h1,h2,h3,?_,q1,q2⟩
  unfold execOp
  simp [ho,h4,h5,h7 x rfl,hr]
 ·rw [h];trivial
include hh in
theorem I6 {m k:Operand} {args:Array Operand} {argTypes:Array TypeId} {t t2:TypeId} (ho:o.op=.call {callee:=.builtin .delete,args:=args,argTypes:=argTypes}) (ha:args.toList=[m,k]) (ht:argTypes.toList=[t,t2]) :
  qg P ρ ν w hp a nv o (lY T gl kn fr hp t m k none):=by
 rcases Dl (T:=T) (gl:=gl) (kn:=kn) (fr:=fr) (hp:=hp) (t:=t) (m:=m) (k:=k) (x:=none) with ⟨b,sb',os,h⟩ | h
 ·rw [h]
  intro hos
  obtain ⟨kt,et,sb0,es,clock,ke,v,u1,u2,h1,h2,h3,h4,h5,h6,h7,h8,h9,h10⟩:=F4 hT hg hk hf hh h hos
  obtain ⟨es',clock',hr,hu⟩:=Mr u1 u2 h8 h9 (key:=ke) (t2:=t2) (t3:=o.type)
  obtain ⟨q1,q2⟩:=h10 _ es' clock' hu rfl
  have e1:args=#[m,k]:=by obtain ⟨l⟩:=args;simp at ha;rw [ha]
  have e2:argTypes=#[t,t2]:=by obtain ⟨l⟩:=argTypes;simp at ht;rw [ht]
  subst e1 e2
  refine ⟨_,_,sb0,.inr rfl,h1,h2,h3,?_,q1,q2⟩
  unfold execOp
  simp [ho,resolve,invoke,builtin,h4,h5,hr]
 ·rw [h];trivial
include hh
theorem RB {t:TypeId} {ax x:Operand} (ho:o.op=.store t ax x):qg P ρ ν w hp a nv o (EB T gl kn fr hp t ax x):=by
 have dY:∀{x v},dF gl kn fr x=some v→a.eval x=v.den ρ ν:=fun hx=>jQ hg hk hf hx
 unfold EB
 split
 case h_2=>trivial
 rename_i sa y ti ha hx hti
 split
 case h_2=>trivial
 rename_i sb0 ug
 split
 ·trivial
 rename_i nO
 simp only [Bool.or_eq_true,not_or,Bool.not_eq_true,Bool.not_eq_true',Bool.not_eq_false] at nO
 obtain ⟨⟨⟨Xc,hmap⟩,hro⟩,hown⟩:=nO
 split
 case isFalse=>trivial
 rename_i hlen
 split
 case h_2=>trivial
 rename_i sb' os' hst
 intro hos
 have hd:sb0.dead ρ=false:=SB.uw Xc fun c hm=>hos c (List.mem_append_left _ hm)
 obtain ⟨hz,arr,harr,hhas⟩:=hh.aD _ _ ug hd hro
 replace harr:=harr.cells hmap
 obtain ⟨kR,w',h1,h2,h3,h4,h5⟩:=Df (P:=P) harr hhas hst (fun c hm=>hos c (List.mem_append_right _ hm))
 have e1:a.eval ax=.pointer (some ⟨(ν sa.aD).block,sa.off ρ,none⟩):=by
  rw [dY ha]
  simp only [SV.den,SW.den,SC.den,SA.den]
  rw [hz,Xb]
 have e2:a.eval x=y.den ρ ν:=dY hx
 refine ⟨_,w',sb0,.inl rfl,ug,by simpa using hown,hd,?_,h3,hh.set ug hd hro h3 (by rw [h5.1,h2];exact eO.lh hmap) h4 (h5.2.1.trans hro)⟩
 have e3:(y.den ρ ν).cells.toList=y.cells.map (·.den ρ ν):=by rw [SW.sI]
 have e4:(y.den ρ ν).cells.size=ti.size:=by rw [SW.sI];simpa using hlen
 unfold execOp
 simp [ho,Instr.storeAt,e1,e2,Instr.sureAddr,storeVar,(hT.ty hti).size,e4,e3,h1]
omit hh in
omit hT in
theorem EE {fo:Operand} {Dm:Array Operand} {lg:Array TypeId} (ho:o.op=.call {callee:=.value fo,args:=Dm,argTypes:=lg}):qg P ρ ν w hp a nv o (Iw gl kn fr fo Dm):=by
 have dY:∀{x v},dF gl kn fr x=some v→a.eval x=v.den ρ ν:=fun hx=>jQ hg hk hf hx
 unfold Iw
 split
 case h_2=>trivial
 rename_i g jf aS0 hfo has
 intro fn hfn hb hn
 have e1:a.eval fo=.func (.func g) #[] (jf.map fun b=>Value.pointer (some (ν b))).toArray:=dY hfo
 have e2:Dm.map a.eval=(aS0.map (·.den ρ ν)).toArray:=by
  apply Array.ext'
  rw [Array.toList_map]
  generalize Dm.toList=l at *
  clear ho
  induction l generalizing aS0 with
  | nil=>simp [CZ] at has;subst has;rfl
  | cons p l ih =>
   simp only [List.map_cons] at has
   unfold CZ at has
   split at has
   ·rename_i h0;cases h0
   ·rename_i x0 r0 h0
    simp only [List.cons.injEq] at h0
    obtain ⟨hx,rfl⟩:=h0
    simp only [Option.map_eq_some_iff] at has
    obtain ⟨q,hq,rfl⟩:=has
    have:=ih _ hq
    simp only [List.map_cons,this,dY hx,SV.den]
   ·cases has
 have e3:(jf.map fun b=>Value.pointer (some (ν b)))=(jf.map fun b=>(SW.one (.ptr {aD:=b})).den ρ ν):=by
  apply List.map_congr_left
  intro b _
  simp [SW.den,SC.den,SA.den,SA.off,IE.den,Addr.add_zero]
 unfold execOp
 simp only [ho,resolve,Deferred.ofValue,e1,e2,Sem.run_bind,Sem.run_pure,Result.andThen_ok,invoke,callFunc,run_program,hfn,hn,e3]
 have hb':fn.body.isNone=false:=by cases hq:fn.body <;> simp_all
 simp [hb',List.map_map,Function.comp]
theorem I7 {s x:Operand} {t:TypeId} {args:Array Operand} {lg:Array TypeId} (ho:o.op=.call {callee:=.builtin .append,args:=args,argTypes:=lg}) (h1:args.toList=[s,x]) (h2:lg.toList=[t,t]) {v0 v1 vr:Value} {w':World}
  (hs:a.eval s=v0) (hx:a.eval x=v1) (hr:(Builtin.append_ #[t,t] o.type #[v0,v1]).run P w=.ok vr w'):(execOp a.eval o).run P w=.ok (.value vr) w':=by
 have _:=hT;have _:=hg;have _:=hk;have _:=hf;have _:=hh
 unfold execOp
 simp only [ho]
 have e1:args=#[s,x]:=by rw [←h1]
 have e2:lg=#[t,t]:=by rw [←h2]
 subst e1 e2
 simp [resolve,invoke,builtin,hx,hs,hr]
theorem O8 {e t:TypeId} {te:TI} (ht:P.underlying t=some (.slice e)) (hte:oI P e te) {dst:SV} {ax:SA} {m cx:Nat} {b:Option Nat} {v:SV} {sb:SB} {k:Nat} {fs:List QF} {os:List BE}
  (h:rD te e kn nv hp dst ax m=.app b v sb k fs os) (hos:∀c∈os,c.den ρ=true) {ty:TypeId} :
  ∃vr w',(Builtin.append_ #[t,t] ty #[dst.den ρ ν,.slice (some (ax.den ρ ν)) m cx]).run P w=.ok vr w'∧Dj ρ ν w hp nv b v sb fs vr w':=by
 have _:=hT;have _:=hg;have _:=hf
 unfold rD at h
 split at h
 case h_2=>cases h
 rename_i FP RD
 split at h
 ·cases h
 rename_i nO
 split at h
 case h_2=>cases h
 case h_3=>cases h
 rename_i news os' hld
 split at h
 case h_2=>cases h
 rename_i b' v' sb' k' fs' os2 happ
 cases h
 simp only [Bool.or_eq_true,not_or,Bool.not_eq_true] at nO
 have hd:FP.dead ρ=false:=SB.uw nO.1 fun c hm=>hos c (List.mem_append_right _ (List.mem_append_left _ hm))
 obtain ⟨arr,hhas,harr⟩:=hh.cells RD hd (fun _=>nO.2)
 obtain ⟨hlen,hcells⟩:=vI hk hhas hld (fun c hm=>hos c (List.mem_append_left _ hm))
 refine Rz hh ht hte happ (fun c hm=>hos c (List.mem_append_right _ (List.mem_append_right _ hm))) _ _ fun j c hc=>?_
 have:=hcells j c hc
 unfold SA.den
 rw [Addr.add_add]
 exact harr _ _ (by simpa using this)
theorem O9 {e:TypeId} {te:TI} {dst:SV} {ax:SA} {m:Nat}:(∀b v sb k fs os,rD te e kn nv hp dst ax m≠.app b v sb k fs os)→qg P ρ ν w hp a nv o (rD te e kn nv hp dst ax m):=by
 have _:=hT;have _:=hg;have _:=hk;have _:=hf;have _:=hh
 intro hne
 unfold rD at hne ⊢
 split
 case h_2=>trivial
 rename_i FP RD
 rw [RD] at hne
 simp only at hne
 split
 ·trivial
 rename_i hg'
 rw [if_neg hg'] at hne
 split
 ·rename_i news os hld
  rw [hld] at hne
  simp only at hne
  split
  ·rename_i b v sb k fs os' happ
   rw [happ] at hne
   exact absurd rfl (hne b v sb k fs (os ++ (FP.tX ++ os')))
  ·trivial
 ·trivial
 ·trivial
theorem Br {s x:Operand} {e t:TypeId} {te:TI} {args:Array Operand} {lg:Array TypeId} (ho:o.op=.call {callee:=.builtin .append,args:=args,argTypes:=lg}) (h1:args.toList=[s,x]) (h2:lg.toList=[t,t])
  (ht:P.underlying t=some (.slice e)) (hte:oI P e te) {dst:SV} (hs:a.eval s=dst.den ρ ν) {c:BE} {ax:SA} {n:IE} {os0:List BE} {src:Option Addr} {cx:Nat} (hx:a.eval x=.slice src (n.den ρ).toNat cx)
  (hsrc:c.den ρ=false→src=some (ax.den ρ ν)) (hnil:(∀c∈os0,c.den ρ=true)→c.den ρ=true→src=none∧n.den ρ=0) (hns:src=none→c.den ρ=true):qg P ρ ν w hp a nv o (vX te e nv hp dst c ax n os0):=by
 unfold vX
 split
 case h_2=>trivial
 rename_i cv os' Pb
 cases hap:ik te e nv hp dst n cv (os0 ++ os') with
 | app b v sb k fs os =>
  intro hos
  have hsub:∀z∈os0 ++ os',z.den ρ=true:=by
   unfold ik at hap
   split at hap
   ·cases hap
   split at hap
   ·cases hap
   split at hap
   ·cases hap
   cases hap
   exact fun z hm=>hos z (List.mem_cons_of_mem _ (List.mem_append_right _ hm))
  have hn0:src=none→n.den ρ=0:=fun h=>(hnil (fun z hm=>hsub z (List.mem_append_left _ hm)) (hns h)).2
  obtain ⟨-,vr,w',hr,hA⟩:=MO hh ht hte hap hos src cx (ty:=o.type) hn0 (fun Xd hzl=>by
    obtain ⟨q1,q2⟩:=WX (ν:=ν) hh hzl Pb (fun z hm=>Xd z (List.mem_append_right _ hm))
    refine ⟨q1,?_⟩
    cases hc:c.den ρ with
    | false =>
      obtain ⟨news,r1,r2,r3⟩:=q2 hc
      refine ⟨news,r1,fun A hA j u hj=>?_,r3⟩
      rw [hsrc hc] at hA
      cases hA
      exact r2 j u hj
    | true =>
      obtain ⟨e1,e2⟩:=hnil (fun z hm=>Xd z (List.mem_append_left _ hm)) hc
      refine ⟨[],⟨by rw [e2];simp,fun i j hi=>(by rw [e2] at hi;simp at hi)⟩,fun A hA=>(by rw [e1] at hA;cases hA),fun u hu=>(by cases hu)⟩)
  exact ⟨vr,w',I7 hT hg hk hf hh ho h1 h2 hs hx hr,hA⟩
 | val=>unfold ik at hap;(split at hap;cases hap);(split at hap;cases hap);(split at hap <;> cases hap)
 | new=>unfold ik at hap;(split at hap;cases hap);(split at hap;cases hap);(split at hap <;> cases hap)
 | st=>unfold ik at hap;(split at hap;cases hap);(split at hap;cases hap);(split at hap <;> cases hap)
 | call=>unfold ik at hap;(split at hap;cases hap);(split at hap;cases hap);(split at hap <;> cases hap)
 | br=>trivial
 | no=>trivial
theorem Xe {args:Array Operand} {lg:Array TypeId} {s x:Operand} {t:TypeId} (ho:o.op=.call {callee:=.builtin .append,args:=args,argTypes:=lg}) (h1:args.toList=[s,x]) (h2:lg.toList=[t,t]) :
  qg P ρ ν w hp a nv o (MI T gl nv kn fr hp t s x):=by
 have dY:∀{x v},dF gl kn fr x=some v→a.eval x=v.den ρ ν:=fun hx=>jQ hg hk hf hx
 unfold MI
 split
 case h_2=>trivial
 rename_i ti hti
 split
 case h_2=>trivial
 rename_i e he
 obtain ⟨d,hd,hc,-⟩:=(hT.ty hti).und
 rw [he] at hc
 cases d <;> simp [eU] at hc
 subst hc
 split
 case h_2=>trivial
 rename_i te dst hte hs
 have MU:=hT.ty hte
 split
 ·rename_i ax n cx hx
  have hx':a.eval x=.slice (some (ax.den ρ ν)) (n.den ρ).toNat (cx.den ρ).toNat:=dY hx
  have bulk:qg P ρ ν w hp a nv o (vX te e nv hp dst (.lit false) ax n []) :=
   Br hT hg hk hf hh ho h1 h2 hd MU (dY hs) hx' (fun _=>rfl) (fun _ h=>by cases h) (fun h=>by cases h)
  split
  ·rename_i m hm
   simp only
   split
   ·exact bulk
   ·cases hl:rD te e kn nv hp dst ax m.toNat with
    | app b v sb k fs os =>
     intro hos
     have hm':(n.den ρ).toNat=m.toNat:=by rw [IE.aO hm]
     obtain ⟨vr,w',hr,hA⟩:=O8 hT hg hk hf hh hd MU hl hos (cx:=(cx.den ρ).toNat) (ty:=o.type)
     rw [hm'] at hx'
     exact ⟨vr,w',I7 hT hg hk hf hh ho h1 h2 (dY hs) hx' hr,hA⟩
    | _ =>
     have:=O9 (P:=P) (w:=w) (a:=a) (nv:=nv) (o:=o) hT hg hk hf hh (te:=te) (e:=e) (dst:=dst) (ax:=ax) (m:=m.toNat) (by rw [hl];intro b v sb k fs os h;cases h)
     rw [hl] at this
     exact this
  ·exact bulk
 ·rename_i c ax n cx hx
  have hx0:a.eval x=SC.den ρ ν (.eF c ax n cx):=dY hx
  cases hc:c.den ρ with
  | true =>
   have hx':a.eval x=.slice none 0 0:=by rw [hx0];simp [SC.den,hc]
   cases hn:(n.den ρ).toNat with
   | zero =>
    exact Br hT hg hk hf hh ho h1 h2 hd MU (dY hs) (src:=none) (cx:=0) (by rw [hx',hn]) (fun h=>by rw [hc] at h;cases h) (fun hz _=>⟨rfl,vJ (hz _ (List.mem_singleton.2 rfl)) hc⟩) (fun _=>hc)
   | succ q =>
    unfold vX
    split
    case h_2=>trivial
    rename_i cv os' Pb
    cases hap:ik te e nv hp dst n cv ([aL c n] ++ os') with
    | app b v sb k fs os =>
     intro hos
     exfalso
     unfold ik at hap
     split at hap
     ·cases hap
     split at hap
     ·cases hap
     split at hap
     ·cases hap
     cases hap
     have:=vJ (hos (aL c n) (by simp)) hc
     rw [this] at hn
     cases hn
    | val=>unfold ik at hap;(split at hap;cases hap);(split at hap;cases hap);(split at hap <;> cases hap)
    | new=>unfold ik at hap;(split at hap;cases hap);(split at hap;cases hap);(split at hap <;> cases hap)
    | st=>unfold ik at hap;(split at hap;cases hap);(split at hap;cases hap);(split at hap <;> cases hap)
    | call=>unfold ik at hap;(split at hap;cases hap);(split at hap;cases hap);(split at hap <;> cases hap)
    | br=>trivial
    | no=>trivial
  | false =>
   have hx':a.eval x=.slice (some (ax.den ρ ν)) (n.den ρ).toNat (cx.den ρ).toNat:=by rw [hx0];simp [SC.den,hc]
   exact Br hT hg hk hf hh ho h1 h2 hd MU (dY hs) hx' (fun _=>rfl) (fun _ h=>by rw [hc] at h;cases h) (fun h=>by cases h)
 ·trivial
omit hT hg hk hf hh in
theorem Vg {ti:TI} {g:ae} (h:IA ti=some g) (t:TypeId):SB.has ρ ν {t:=t,aV:=[g],own:=true} (ti.zero.map (·.den ρ ν)).toArray:=by
 unfold IA at h
 split at h
 case h_2=>cases h
 rename_i n e hd
 split at h
 case isFalse=>cases h
 rename_i hc
 simp only [Option.some.injEq] at h
 subst h
 simp only [Bool.and_eq_true,decide_eq_true_eq,beq_iff_eq,List.all_eq_true] at hc
 obtain ⟨⟨c1,c2⟩,c3⟩:=hc
 refine ⟨fun u hu=>(by cases hu),fun h=>(by cases h),fun e' m he=>(by cases he),fun p c hp=>(by simp at hp),fun gi g hg i1 i2 j h1 h2 h3=>?_⟩
 rcases gi with _ | gi
 ·simp only [List.getElem?_cons_zero,Option.some.injEq] at hg
  subst hg
  simp only [List.length_cons,List.length_nil,IE.den] at h1 h2 h3
  obtain rfl:i2=0:=by omega
  obtain rfl:j=0:=by omega
  have hi:i1<ti.zero.length:=by omega
  have hz:=c3 _ (List.getElem_mem hi)
  have hl:(ti.zero.map (·.den ρ ν)).toArray[i1 * 1+0 * 0+0+0]?=some ((ti.zero[i1]).den ρ ν):=by
   rw [show i1 * 1+0 * 0+0+0=i1 by omega,List.getElem?_toArray,List.getElem?_map,List.getElem?_eq_getElem hi]
   rfl
  simp only [cu]
  rw [←Au (ρ:=ρ) (ν:=ν) hz _ rfl rfl]
  exact hl
 ·simp at hg
theorem I8:qg P ρ ν w hp a nv o (MJ T gl nv kn fr hp o):=by
 have dY:∀{x v},dF gl kn fr x=some v→a.eval x=v.den ρ ν:=fun hx=>jQ hg hk hf hx
 unfold MJ
 split
 ·rename_i t ho
  split
  ·rename_i ti hti
   split
   ·rename_i g hgs
    intro lF _
    obtain ⟨z,hz,hc,-⟩:=(hT.ty hti).zeroV (w:=w) ρ ν
    have hzc:z.cells=(ti.zero.map (·.den ρ ν)).toArray:=by rw [←hc]
    refine ⟨_,z.cells,eO.lh (hT.ty hti).lt,by rw [hzc];exact Vg hgs t,rfl,?_⟩
    unfold execOp
    simp [ho,Instr.alloc,hz,newVar,newRow,SV.den,SW.den,SC.den,SA.den,SA.off,IE.den,lF,Addr.add_zero]
   intro lF _
   obtain ⟨z,hz,hc,-⟩:=(hT.ty hti).zeroV (w:=w) ρ ν
   have hzc:z.cells=(ti.zero.map (·.den ρ ν)).toArray:=by rw [←hc]
   refine ⟨_,z.cells,eO.lh (hT.ty hti).lt,by rw [hzc];exact sQ t ti.zero _ rfl rfl rfl (fun e n h=>by cases h),rfl,?_⟩
   unfold execOp
   simp [ho,Instr.alloc,hz,newVar,newRow,SV.den,SW.den,SC.den,SA.den,SA.off,IE.den,lF,Addr.add_zero]
  ·trivial
 ·rename_i t x ho
  split
  ·rename_i tb y htb hy
   intro lF _
   refine ⟨_,(y.den ρ ν).cells,eO.lh (hT.ty htb).lt,by rw [SW.sI];exact sQ t y.cells _ rfl rfl rfl (fun e n h=>by cases h),rfl,?_⟩
   have:=dY hy
   unfold execOp
   simp [ho,Instr.box,this,newVar,newRow,SV.den,SW.den,SC.den,SA.den,SA.off,IE.den,lF,Addr.add_zero]
  ·trivial
 ·rename_i t len parts ho
  exact MP hT hg hk hf ho
 ·rename_i t ax x ho
  exact RB hT hg hk hf hh ho
 ·rename_i t l c ho
  exact O7 hT hg hk hf ho
 ·rename_i t r ho
  exact MR hT hg hk hf ho
 ·rename_i t m k x ho
  exact I5 hT hg hk hf hh ho
 ·rename_i args argTypes ho
  split
  ·rename_i m k t t2 ha ht
   exact I6 hT hg hk hf hh ho ha ht
  ·trivial
 ·rename_i args argTypes ho
  split
  ·rename_i s x t t' hargs hty
   split
   ·rename_i F5
    simp only [beq_iff_eq] at F5
    subst F5
    exact Xe hT hg hk hf hh ho hargs hty
   ·trivial
  ·trivial
 ·rename_i fo Dm lg ho
  exact EE hg hk hf ho
 ·split
  ·rename_i v os hp'
   intro hos
   exact sK hT hg hk hf hh hp' hos
  ·trivial
  ·trivial
end
end Go.Rex
namespace Go.Rex
theorem xB {P:Program} {T:aX} {R:Ending→World→Prop} {F F':aZ} {a:AS} {w:World} (h1:F'.f=F.f) (h2:F'.todo=F.todo) (h3:F'.cur=F.cur)
  (h:dR P T R F a w):dR P T R F' a w:=by
 unfold dR at *
 rw [h1,h2,h3]
 exact h
theorem GZ (F:aZ) (d:Option Tmp) (v:SV):(F.put d v).f=F.f∧(F.put d v).todo=F.todo∧(F.put d v).cur=F.cur:=by cases d <;> exact ⟨rfl,rfl,rfl⟩
theorem zQ (F:aZ) (i:Nat):(F.eu i).f=F.f∧(F.eu i).todo=F.todo∧(F.eu i).fr=F.fr:=by
 unfold aZ.eu
 split <;> exact ⟨rfl,rfl,rfl⟩
theorem Lc {F G:aZ} (i:Nat) (h:F.cur=G.cur):(F.eu i).cur=(G.eu i).cur:=by
 unfold aZ.eu
 rw [h]
 split <;> simp_all [yx,zO]
theorem Bt {F:aZ} {i:Nat} {p:List Nat} {k:ek} {sc:List SB} {d:Bool} (h:(F.eu i).cur=.dr p k sc d):d=true∧∃p' k' d',F.cur=.dr p' k' sc d':=by
 unfold aZ.eu at h
 split at h
 ·simp [yx] at h
 ·rename_i p' k' s' d' hc
  simp [zO] at h
  exact ⟨h.2.2.2,p',k',d',by rw [hc,h.2.2.1]⟩
 ·rename_i hc
  rw [hc] at h;cases h
theorem pM.put {T:aX} {ρ:Env} {ν:Nat→Addr} {F:aZ} {a:Act} {S:World→Prop} (h:pM T ρ ν F a S) {dst:Option Tmp} (hd:qB T F.f dst=true) {v:SV} {x:Value} (hx:x=v.den ρ ν) :
  pM T ρ ν (F.put dst v) (a.put dst x) S:=by
 subst hx
 cases dst with
 | none=>exact ⟨h.fr,h.tmps,h.defers,h.held⟩
 | some d =>
  have hlt:d<a.tmps.size:=Nat.lt_of_lt_of_le (by simpa [qB] using hd) h.tmps
  refine ⟨fun t u ht=>?_,by simpa [aZ.put,Act.put] using h.tmps,h.defers,fun p k sc d hc=>h.held p k sc d hc⟩
  simp only [aZ.put] at ht
  simp only [Act.put]
  unfold assoc at ht
  split at ht
  ·rename_i he
   simp only [beq_iff_eq] at he
   subst he
   simp at ht
   subst ht
   rw [Array.getD_eq_getD_getElem?]
   simp [hlt]
  ·rename_i he
   simp only [beq_iff_eq] at he
   rw [Array.getD_eq_getD_getElem?,Array.getElem?_setIfInBounds_ne he,←Array.getD_eq_getD_getElem?]
   exact h.fr t u ht
theorem pM.advance {T:aX} {ρ:Env} {ν:Nat→Addr} {F:aZ} {a:Act} {S:World→Prop} (h:pM T ρ ν F a S) (i:Nat):pM T ρ ν (F.eu i) a S:=by
 obtain ⟨h1,h2,h3⟩:=zQ F i
 refine ⟨by rw [h3];exact h.fr,by rw [h1];exact h.tmps,h.defers,fun p k sc d hc=>?_⟩
 obtain ⟨-,p',k',d',hc'⟩:=Bt hc
 exact h.held p' k' sc d' hc'
abbrev mf:=List (dJ × (Env→Prop) × (Env→Prop))
def rH (P:Program) (T:aX) (B:vZ) (R:Ending→World→Prop) (cs:mf) (ρ:Env) (ν:Nat→Addr) (c:bZ) (a:AS) (aS0:List AS) (w:World):SR→Prop
 | .next os fs c'=>(∀b∈os,b.den ρ=true) →
   (∀ρ' aK a' as' w',dn c.nv c.hp.length ρ ρ' ν aK→(fs=[]→ρ'=ρ)→c.nv≤c'.nv∧c.hp.length≤c'.hp.length→(∀b∈os,b.den ρ'=true)→(∀f∈fs,f.den ρ')→Rel T B ρ' aK c' a' as' w'→Goal P T R c' a' as' w')→Goal P T R c a aS0 w
 | .alt x y=>(Rel T B ρ ν x a aS0 w→Goal P T R x a aS0 w)→(Rel T B ρ ν y a aS0 w→Goal P T R y a aS0 w)→Goal P T R c a aS0 w
 | .call os g σ c'=>(∀b∈os,b.den ρ=true)→∀k pre post,cs[g]?=some (k,pre,post)→pre (σ.ag ρ) →
   (∀ρ' aK a' as' w',dn c.nv c.hp.length ρ ρ' ν aK→c.nv≤c'.nv∧c.hp.length≤c'.hp.length→(∀b∈os,b.den ρ'=true)→post (bf σ k.nv c.nv ρ ρ')→Rel T B ρ' aK c' a' as' w'→Goal P T R c' a' as' w')→Goal P T R c a aS0 w
 | .ret os v=>(∀b∈os,b.den ρ=true)→(c.dw=[]→R (.returned (v.den ρ ν)) w)→Goal P T R c a aS0 w
 | _=>True
theorem Kw {P:Program} {f:FuncId} {R:Ending→World→Prop} {k:List Item} {c:List PanicEntry} {a a':Act} {w w':World} (h:jr P f R k (.panic c) a w):jr P f R k (.panic c) a' w':=by
 cases h.1
theorem yK {ρ:Env} {ν:Nat→Addr}:∀{args:List SW} {i:Nat} {t:Nat} {v:SV},assoc t (uH args i)=some v→∃k x,t=i+k∧args[k]?=some x∧v=.w x
 | [],i,t,v,h=>by simp [uH,assoc] at h
 | x :: r,i,t,v,h=>by
  simp only [uH] at h
  unfold assoc at h
  split at h
  ·rename_i he
   simp only [beq_iff_eq] at he
   simp at h
   exact ⟨0,x,by omega,rfl,h.symm⟩
  ·obtain ⟨k,y,h1,h2,h3⟩:=yK (ρ:=ρ) (ν:=ν) h
   exact ⟨k+1,y,by omega,by simpa using h2,h3⟩
theorem aI.Yo {ρ:Env} {ν:Nat→Addr} {hp:List SB} {w:World} (h:aI ρ ν hp w) {sb:SB} (hp':sb.dead ρ=false→ν hp.length=⟨(ν hp.length).block,0,none⟩∧(∃arr,eO w.heap[(ν hp.length).block]? sb.t arr∧sb.has ρ ν arr) ∧
    ∀(k:Nat) (s:SB),hp[k]?=some s→s.dead ρ=false→(ν k).block≠(ν hp.length).block) (hr:sb.ro=false):aI ρ ν (hp ++ [sb]) w:=by
 cases hd:sb.dead ρ with
 | false =>
  obtain ⟨h0,⟨arr,h1,h2⟩,h3⟩:=hp' hd
  exact h.push h0 h1 h2 hr h3
 | true =>
  have Dg:∀(i:Nat) (a:SB),(hp ++ [sb])[i]?=some a→a.dead ρ=false→hp[i]?=some a:=by
   intro i a hi ha
   rw [List.getElem?_append] at hi
   split at hi
   ·exact hi
   ·rw [List.getElem?_singleton] at hi
    split at hi
    ·simp at hi
     subst hi
     rw [hd] at ha;cases ha
    ·cases hi
  exact ⟨fun i j x y hi hj gx gy rx he=>h.inj i j x y (Dg i x hi gx) (Dg j y hj gy) gx gy rx he,fun k s hk hg hr=>h.aD k s (Dg k s hk hg) hg hr,fun k s hk hg hr=>h.rd k s (Dg k s hk hg) hg hr⟩
theorem Dn {f:FuncId} {aS0:List SW}:∀{l:List dJ} {i g:Nat} {k:dJ},uJ f aS0 l i=some (g,k)→k.f=f∧i≤g∧l[g-i]?=some k
 | [],_,_,_,h=>by simp [uJ] at h
 | c :: r,i,g,k,h=>by
  unfold uJ at h
  split at h
  ·rename_i hc
   simp only [Option.some.injEq,Prod.mk.injEq] at h
   obtain ⟨rfl,rfl⟩:=h
   simp only [Bool.and_eq_true,beq_iff_eq] at hc
   exact ⟨hc.1,Nat.le_refl _,by simp⟩
  ·obtain ⟨h1,h2,h3⟩:=Dn h
   refine ⟨h1,by omega,?_⟩
   rw [show g-i=(g-(i+1))+1 by omega]
   simpa using h3
theorem Dp {σ:Sub} {gl:List (Nat × Nat)}:∀{l:List (Nat × Nat)},O0 σ gl l=true→∀g k,assoc g l=some k→∃b,assoc g gl=some b∧KU σ k b=true
 | [],_,g,k,h=>by simp [assoc] at h
 | (g0,k0) :: r,h,g,k,hk=>by
  simp only [O0,Bool.and_eq_true] at h
  unfold assoc at hk
  split at hk
  ·rename_i he
   simp only [beq_iff_eq] at he
   subst he
   simp at hk
   subst hk
   obtain ⟨h1,-⟩:=h
   split at h1
   ·rename_i b hb
    exact ⟨b,hb,h1⟩
   ·cases h1
  ·exact Dp h.2 g k hk
theorem Xf {σ:Sub} {ρ:Env} {ν:Nat→Addr} {gl:List (Nat × Nat)} (hg:iB ν gl) {l:List (Nat × Nat)} (h:O0 σ gl l=true):iB (σ.eY ρ ν) l:=by
 refine ⟨fun g k h0 hk=>?_,fun g g' k k' h1 h2 h3 h4 hne=>?_⟩
 ·obtain ⟨b,hb,hm⟩:=Dp h g k hk
  rw [x8 hm]
  exact hg.at_ _ b h0 hb
 ·obtain ⟨b,hb,hm⟩:=Dp h g k h3
  obtain ⟨b',hb',hm'⟩:=Dp h g' k' h4
  rw [x8 hm,x8 hm']
  exact hg.ne g g' b b' h1 h2 hb hb' hne
theorem Pf {σ:Sub} {m d:Nat} {ρ dA:Env} {ν fA:Nat→Addr} {n:Nat} (hA:dn m n (σ.env ρ ν) dA (σ.eY ρ ν) fA):bf σ m d ρ (eT d m ρ dA)=dA.num:=by
 simp only [bf,Env.num,Env.mk.injEq,true_and,and_true]
 have hh:∀i,m≤i→¬(i-m+d<d)∧i-m+d-d+m=i:=fun i hi=>by omega
 refine ⟨?_,?_,?_,?_⟩ <;> funext i <;> split
 ·rename_i hi;rw [hA.iv i hi];rfl
 ·rename_i hi;obtain ⟨q1,q2⟩:=hh i (by omega);simp only [eT];rw [if_neg q1,q2]
 ·rename_i hi;rw [hA.bv i hi];rfl
 ·rename_i hi;obtain ⟨q1,q2⟩:=hh i (by omega);simp only [eT];rw [if_neg q1,q2]
 ·rename_i hi;rw [hA.ic i hi];rfl
 ·rename_i hi;obtain ⟨q1,q2⟩:=hh i (by omega);simp only [eT];rw [if_neg q1,q2]
 ·rename_i hi;rw [hA.bc i hi];rfl
 ·rename_i hi;obtain ⟨q1,q2⟩:=hh i (by omega);simp only [eT];rw [if_neg q1,q2]
section
variable {P:Program} {T:aX} {B:vZ} {R:Ending→World→Prop} {E:Ex} {cs:mf} {ρ:Env} {ν:Nat→Addr} {c:bZ} {a:AS} {aS0:List AS} {w:World}
theorem Ld (hT:di P T) (hE:E.cons=cs.map (·.1)) (hC:∀k pre post,(k,pre,post)∈cs→jy k=true∧aY P k pre post) (hr:Rel T B ρ ν c a aS0 w) {p:List Nat} (bW:c.top.yn=p)
  {i:Nat} {eu:aZ→aZ} (I9:∀F:aZ,F.cur=c.top.cur→eu F=F.eu i) {Q:Exit→Act→World→Prop} {K:Act→World→Prop}
  (hK:∀(F':aZ) (a':Act) (w':World),F'.f=c.top.f→F'.todo=c.top.todo→F'.cur=(c.top.eu i).cur→dR P T (RK P T R c.dw aS0) F' (a',a.2) w'→K a' w')
  (hG:wpOp P (T.ops c.top.f p) Q i K a.1 w→Goal P T R c a aS0 w) :
  rH P T B R cs ρ ν c a aS0 w (vY T E c (T.ops c.top.f p) i eu):=by
 have hput:∀(d:Option Tmp) (v:SV),eu (c.top.put d v)=(c.top.put d v).eu i:=fun d v=>I9 _ (GZ _ _ _).2.2
 have Dq:∀(d:Option Tmp) (v:SV) p k sc,(eu (c.top.put d v)).cur=.dr p k sc false→False:=by
  intro d v p k sc h
  rw [hput] at h
  cases (Bt h).1
 have hK':∀(c':bZ) (d:Option Tmp) (v:SV) (a':Act) (w':World),c'.top=eu (c.top.put d v)→c'.dw=c.dw→Goal P T R c' (a',a.2) aS0 w'→K a' w':=by
  intro c' d v a' w' h1 h2 hg
  unfold Goal at hg
  rw [h1,h2,hput] at hg
  obtain ⟨e1,e2,e3⟩:=GZ c.top d v
  obtain ⟨f1,f2,f3⟩:=zQ (c.top.put d v) i
  exact hK _ a' w' (f1.trans e1) (f2.trans e2) (Lc i e3) hg
 have Ja:∀{ρ':Env} {aK:Nat→Addr},pM T ρ' aK c.top a.1 a.2→∀{d:Option Tmp} {v:SV} {x:Value},qB T c.top.f d=true→x=v.den ρ' aK→pM T ρ' aK (eu (c.top.put d v)) (a.1.put d x) a.2:=by
  intro ρ' aK hF d v x hd hx
  rw [hput]
  exact (hF.put hd hx).advance i
 unfold vY
 split
 ·trivial
 rename_i o ho
 split
 ·trivial
 rename_i hdst
 replace hdst:qB T c.top.f o.dst=true:=by simpa using hdst
 split
 ·trivial
 rename_i g hgc
 have hwant:=IQ hr.top.fr hgc
 have hgo:∀(w':World) (K':Act→World→Prop),wpOp P (T.ops c.top.f p) Q i K' a.1 w'=if g.den ρ then o.wp P a.1 w' K' Q∨(o.asks P a.1 w'∧LetsOut Q) else K' (a.1.put o.dst undef) w':=by
  intro w' K'
  unfold wpOp
  rw [ho]
  simp only [hwant]
 have same:∀(d:Option Tmp) (v:SV) (x:Value) (w':World),qB T c.top.f d=true→x=v.den ρ ν→w'=w→Rel T B ρ ν {c with top:=eu (c.top.put d v)} (a.1.put d x,a.2) aS0 w':=by
  intro d v x w' hd hx hw
  subst hw
  exact ⟨hr.nv,hr.n,hr.gJ,hr.kn,hr.gl,hr.hp,hr.wr,hr.own,Ja hr.top hd hx,hr.dw,fun p k sc h=>(Dq _ _ _ _ _ h).elim⟩
 have R0:=dn.refl c.nv c.hp.length ρ ν
 have L0:c.nv≤c.nv∧c.hp.length≤c.hp.length:=⟨Nat.le_refl _,Nat.le_refl _⟩
 split
 ·
  rename_i hdec
  have hg0:=BE.df hr.kn hdec
  intro _ hnext
  apply hG
  rw [hgo,hg0]
  simp only [Bool.false_eq_true,if_false]
  exact hK' {c with top:=eu (c.top.put o.dst (.gK []))} o.dst (.gK []) _ _ rfl rfl (hnext ρ ν (_,a.2) aS0 w R0 (fun _=>rfl) L0 (by simp) (by simp) (same o.dst (.gK []) undef w hdst rfl rfl))
 ·
  rename_i hdec
  split
  ·rename_i x os Yp
   intro hos hnext
   apply hG
   rw [hgo]
   cases hgd:g.den ρ with
   | false =>
    simp only [Bool.false_eq_true,if_false]
    exact hK' {c with top:=eu (c.top.put o.dst (.gd g x))} o.dst (.gd g x) _ _ rfl rfl (hnext ρ ν (_,a.2) aS0 w R0 (fun _=>rfl) L0 hos (by simp) (same o.dst (.gd g x) undef w hdst (by simp [SV.den,hgd]) rfl))
   | true =>
    simp only [if_true]
    refine .inl ?_
    have hrun:=sK (hT.sw c.top.f) hr.gl (ng hgd hr.kn) hr.top.fr hr.hp Yp (fun b hb=>by
      have:=hos (.or g.kZ b) (List.mem_map.2 ⟨b,hb,rfl⟩)
      simpa [BE.den,BE.ig,hgd] using this)
    unfold Oper.wp
    rw [hrun]
    exact hK' {c with top:=eu (c.top.put o.dst (.gd g x))} o.dst (.gd g x) _ _ rfl rfl (hnext ρ ν (_,a.2) aS0 w R0 (fun _=>rfl) L0 hos (by simp) (same o.dst (.gd g x) _ w hdst (by simp [SV.den,hgd]) rfl))
  ·trivial
 ·rename_i hdec
  have hg1:=BE.df hr.kn hdec
  have hgo':wpOp P (T.ops c.top.f p) Q i K a.1 w↔(o.wp P a.1 w K Q∨(o.asks P a.1 w∧LetsOut Q)):=by rw [hgo,hg1];simp
  have pz:=I8 (P:=P) (ρ:=ρ) (ν:=ν) (w:=w) (a:=a.1) (nv:=c.nv) (o:=o) (hT.sw c.top.f) hr.gl hr.kn hr.top.fr hr.hp
  split
  ·
   rename_i v os heff
   intro hos hnext
   apply hG
   rw [hgo']
   refine .inl ?_
   rw [heff] at pz
   unfold Oper.wp
   rw [pz hos]
   exact hK' {c with top:=eu (c.top.put o.dst v)} o.dst v _ _ rfl rfl (hnext ρ ν (_,a.2) aS0 w R0 (fun _=>rfl) L0 hos (by simp) (same o.dst v _ w hdst rfl rfl))
  ·
   rename_i v sb os heff
   split
   ·rename_i hsc
    intro hos hnext
    apply hG
    rw [hgo']
    refine .inl ?_
    have hA:=Rx c.nv c.hp.length ρ ν w.heap.size
    have oU:jg ν c.hp.length w.heap.size c.hp.length=⟨w.heap.size,0,none⟩:=by simp [jg]
    generalize jg ν c.hp.length w.heap.size=aK at hA oU
    have hr':=hr.ext hsc hA
    have Ua:=I8 (P:=P) (ρ:=ρ) (ν:=aK) (w:=w) (a:=a.1) (nv:=c.nv) (o:=o) (hT.sw c.top.f) hr'.gl hr'.kn hr'.top.fr hr'.hp
    rw [heff] at Ua
    obtain ⟨obj,arr,Jc,hhas,hro,hrun⟩:=Ua oU hos
    unfold Oper.wp
    rw [hrun]
    have hnew:(w.alloc obj).heap[w.heap.size]?=some obj:=heap_alloc_new w _
    have hold:∀k,k<w.heap.size→(w.alloc obj).heap[k]?=w.heap[k]?:=fun k hk=>heap_alloc_old w _ hk
    have hlive:∀(k:Nat) (s:SB),c.hp[k]?=some s→s.dead ρ=false→(aK k).block<w.heap.size:=fun k s hk hg=>hr'.hp.lt hk hg
    refine hK' {c with hp:=c.hp ++ [sb],top:=eu (c.top.put o.dst v)} o.dst v _ _ rfl rfl (hnext ρ aK (_,a.2) aS0 _ hA (fun _=>rfl) ⟨Nat.le_refl _,by simp⟩ hos (by simp) ⟨hr'.nv,?_,hr'.gJ,hr'.kn,hr'.gl,?_,?_,?_,Ja hr'.top hdst rfl,hr'.dw,fun p k sc h=>(Dq _ _ _ _ _ h).elim⟩)
    ·simp only [List.length_append]
     have:=hr'.n
     omega
    ·refine aI.push (hr'.hp.yG (by simp) fun k s hk hg=>hold _ (hlive k s hk hg)) (by rw [oU]) (by rw [oU,hnew];exact Jc) hhas hro fun k s hk hg=>?_
     rw [oU]
     exact Nat.ne_of_lt (hlive k s hk hg)
    ·exact hr'.wr.step rfl rfl rfl (by simp) fun k hk _=>hold k (Nat.lt_of_lt_of_le hk hr'.wr.size)
    ·intro k s hk hso hsd
     simp only at hk
     rw [List.getElem?_append] at hk
     split at hk
     ·exact hr'.own k s hk hso hsd
     ·rename_i hge
      rw [List.getElem?_singleton] at hk
      split at hk
      ·have:k=c.hp.length:=by omega
       subst this
       rw [oU]
       exact .inl hr'.wr.size
      ·cases hk
   ·trivial
  ·
   rename_i b sb os heff
   intro hos hnext
   apply hG
   rw [hgo']
   refine .inl ?_
   rw [heff] at pz
   obtain ⟨r0,w',sb0,hr0,ug,hown,hd0,hrun,hO,gB⟩:=pz hos
   unfold Oper.wp
   rw [hrun]
   have hlt:b<c.hp.length:=(List.getElem?_eq_some_iff.1 ug).1
   rcases hr0 with rfl | rfl
   all_goals
    refine hK' {c with hp:=c.hp.set b sb,top:=eu (c.top.put o.dst (.gK []))} o.dst (.gK []) _ _ rfl rfl (hnext ρ ν (_,a.2) aS0 _ R0 (fun _=>rfl) ⟨Nat.le_refl _,by simp⟩ hos (by simp) ⟨hr.nv,?_,hr.gJ,hr.kn,hr.gl,gB,?_,?_,Ja hr.top hdst rfl,hr.dw,fun p k sc h=>(Dq _ _ _ _ _ h).elim⟩)
    ·simp only [List.length_set];exact hr.n
    ·refine hr.wr.step hO.os hO.tape hO.output (by rw [hO.size];exact Nat.le_refl _) fun k hk hn=>hO.block k fun e=>?_
     rcases hr.own b sb0 ug hown hd0 with h | h
     ·omega
     ·rw [←e] at h;exact hn h
    ·intro k s hk hso hsd
     simp only at hk
     by_cases hkb:b=k
     ·subst hkb
      exact hr.own b sb0 ug hown hd0
     ·rw [List.getElem?_set_ne hkb] at hk
      exact hr.own k s hk hso hsd
  ·
   rename_i b v sb k fs os heff
   split
   ·rename_i hsc
    simp only [Bool.and_eq_true] at hsc
    obtain ⟨⟨hsc,hbs⟩,hmap⟩:=hsc
    intro hos hnext
    apply hG
    rw [hgo']
    refine .inl ?_
    rw [heff] at pz
    obtain ⟨vr,w',hrun,hne0,g',ρ',ob,hA,YT,hfs,hro,hgrow,H5,hlive⟩:=pz hos
    have oU:jg ν c.hp.length g' c.hp.length=⟨g',0,none⟩:=by simp [jg]
    generalize jg ν c.hp.length g'=aK at hA oU YT hlive
    have hr':=hr.ext hsc hA
    have yL:=hsc
    simp only [bZ.sc,Bool.and_eq_true] at yL
    have Yq:=yL.1.1.1.2
    have hlt:∀(k:Nat) (s:SB),c.hp[k]?=some s→s.dead ρ'=false→(aK k).block<w.heap.size:=fun k s hk hg=>hr'.hp.lt hk hg
    have RF:∀o',ob=some o'→∃j sb0,b=some j∧o'=(aK j).block∧c.hp[j]?=some sb0∧sb0.dead ρ'=false∧sb0.ro=false∧sb0.own=true:=by
     intro o' ho'
     rcases H5 with h | ⟨j,sb0,h1,h2,h3,h4,h5,h6⟩
     ·rw [h] at ho';cases ho'
     ·rw [h2] at ho'
      cases ho'
      refine ⟨j,sb0,h1,?_,h3,by rwa [SB.lV hA (iE Yq j sb0 h3)],h5,h6⟩
      rw [hA.bl j (List.getElem?_eq_some_iff.1 h3).1]
    have old:∀(k:Nat) (s:SB),(lZ b c.hp)[k]?=some s→s.dead ρ'=false→c.hp[k]?=some s∧b≠some k:=by
     intro k s hk hg
     cases b with
     | none=>exact ⟨hk,by simp⟩
     | some j =>
      simp only [lZ] at hk
      rw [List.getElem?_modify] at hk
      cases hx:c.hp[k]? with
      | none=>simp [hx] at hk
      | some x =>
       by_cases hjk:j=k
       ·simp [hx,hjk] at hk
        subst hk
        simp [SB.dead] at hg
       ·simp [hx,hjk] at hk
        exact ⟨by rw [hk],by simpa using hjk⟩
    have hne:∀(k:Nat) (s:SB),(lZ b c.hp)[k]?=some s→s.dead ρ'=false→ob≠some (aK k).block:=by
     intro k s hk hg he
     obtain ⟨h1,h2⟩:=old k s hk hg
     obtain ⟨j,sb0,e1,e2,e3,e4,e5,e6⟩:=RF _ he
     have:=hr'.hp.inj j k sb0 s e3 h1 e4 hg e5 e2.symm
     subst this
     exact h2 e1
    have hlen:(lZ b c.hp).length=c.hp.length:=by cases b <;> simp [lZ]
    unfold Oper.wp
    rw [hrun]
    refine hK' {c with nv:=c.nv+k,hp:=lZ b c.hp ++ [sb],top:=eu (c.top.put o.dst v)} o.dst v _ _ rfl rfl
     (hnext ρ' aK (_,a.2) aS0 _ hA (fun h=>?_) ⟨Nat.le_add_right _ _,by simp only [List.length_append];omega⟩ (fun x hx=>by rw [Ib hA hbs x hx];exact hos x hx) hfs ⟨Nat.le_trans hr'.nv (Nat.le_add_right _ _),?_,hr'.gJ,hr'.kn,hr'.gl,?_,?_,?_,Ja hr'.top hdst YT,hr'.dw,fun p k sc h=>(Dq _ _ _ _ _ h).elim⟩)
    ·exact absurd h hne0
    ·simp only [List.length_append]
     have:=hr'.n
     omega
    ·have hbase:aI ρ' aK (lZ b c.hp) w':=by
      have hdrop:aI ρ' aK (lZ b c.hp) w:=by
       cases b with
       | none=>exact hr'.hp
       | some j=>exact hr'.hp.drop j
      refine hdrop.yG hgrow.size fun k s hk hg=>?_
      exact hgrow.block _ (hlt k s (old k s hk hg).1 hg) fun e=>hne k s hk hg e.symm
     refine hbase.Yo (fun hd=>?_) hro
     obtain ⟨⟨cur,h1,h2⟩,h3⟩:=hlive hd
     rw [hlen,oU]
     refine ⟨rfl,⟨cur,by rw [h1];exact eO.lh (by simpa [SB.gV] using hmap),h2⟩,fun k s hk hg=>?_⟩
     rcases h3 with h3 | h3
     ·intro e;exact hne k s hk hg (by rw [h3,e])
     ·rw [h3];exact Nat.ne_of_lt (hlt k s (old k s hk hg).1 hg)
    ·refine hr'.wr.step hgrow.os hgrow.tape hgrow.output hgrow.size fun k hk hn=>hgrow.block k (Nat.lt_of_lt_of_le hk hr'.wr.size) fun e=>?_
     obtain ⟨j,sb0,e1,e2,e3,e4,e5,e6⟩:=RF k e.symm
     rcases hr'.own j sb0 e3 e6 e4 with h | h
     ·omega
     ·rw [←e2] at h;exact hn h
    ·intro k s hk hso hsd
     simp only at hk
     rw [List.getElem?_append,hlen] at hk
     split at hk
     ·obtain ⟨h1,-⟩:=old k s hk hsd
      exact hr'.own k s h1 hso hsd
     ·rename_i hge
      rw [List.getElem?_singleton] at hk
      split at hk
      ·have:k=c.hp.length:=by omega
       subst this
       simp at hk
       subst hk
       rw [oU]
       obtain ⟨-,h3⟩:=hlive hsd
       rcases h3 with h3 | h3
       ·obtain ⟨j,sb0,e1,e2,e3,e4,e5,e6⟩:=RF _ h3
        have:=hr'.own j sb0 e3 e6 e4
        rw [←e2] at this
        exact this
       ·rw [h3];exact .inl hr'.wr.size
      ·cases hk
   ·trivial
  ·
   rename_i f args heff
   split
   ·
    rename_i g' k' hfind
    split
    ·rename_i hsc
     split
     ·rename_i σ os v c' hby
      split
      ·rename_i hbs
       intro hos kk pre post hcs hpre hnext
       apply hG
       rw [hgo']
       refine .inl ?_
       rw [heff] at pz
       obtain ⟨YU,-,RG⟩:=Dn hfind
       rw [hE,Nat.sub_zero,List.getElem?_map,hcs] at RG
       simp at RG
       subst RG
       obtain ⟨hwf,hcon⟩:=hC kk pre post (List.mem_of_getElem? hcs)
       unfold GX at hby
       simp only at hby
       split at hby
       case isFalse=>cases hby
       rename_i jI
       simp only [Bool.and_eq_true,beq_iff_eq] at jI
       obtain ⟨⟨⟨⟨k1,k2⟩,k3⟩,k4⟩,k5⟩:=jI
       split at hby
       ·cases hby
       rename_i os1 hinst
       split at hby
       case h_2=>cases hby
       rename_i IW new vv hpost hnew hret
       simp only [Option.some.injEq,Prod.mk.injEq] at hby
       obtain ⟨rfl,rfl,rfl,rfl⟩:=hby
       generalize Ez (WT (MC {lo:=0,az:=0} kk.args args) c.gl kk.gl) c.hp kk.hp=σ at *
       have yL:=hsc
       simp only [bZ.sc,Bool.and_eq_true] at yL
       obtain ⟨⟨⟨⟨s1,s2⟩,s3⟩,s4⟩,s5⟩:=yL
       have ZN:=Ey (ν:=ν) hinst hos hr.hp
       obtain ⟨fn,hfn,hfb,Xg⟩:∃fn,P.funcs[f]?=some fn∧fn.body.isSome=true∧(fn.name == "runtime.NumGoroutine")=false:=YU ▸ hcon.fn
       have hrun:=pz fn hfn hfb Xg
       unfold Oper.wp
       rw [hrun]
       have hargs:(kk.args.map (·.den (σ.env ρ ν) (σ.eY ρ ν))).toArray=(args.map (·.den ρ ν)).toArray:=by rw [Ev k3]
       have hcall:=hcon.run (σ.env ρ ν) (σ.eY ρ ν) w ZN (Xf hr.gl k4) hpre
       rw [hargs,YU] at hcall
       refine Calls.mono hcall fun e w' he=>?_
       obtain ⟨dA,fA,hA,rfl,hP,hW,hO,hpo⟩:=he
       have H:=IV (d:=c.nv) (n0:=c.hp.length) k1 k2 k5 hA
       obtain ⟨q1,q2,q3,q4⟩:=Ve hwf k1 k2 hinst hos k5 s2 hr.hp hr.own hr.wr.size hA hP hW hO hpost hnew
       have hag:=Bp c.nv kk.nv c.hp.length kk.hp.length ρ dA ν fA
       have hr':=hr.ext hsc hag
       have aa5:=(Bo hnew).1
       refine hK' {c with nv:=c.nv+(kk.iD-kk.nv),hp:=IW ++ new,top:=eu (c.top.put o.dst vv)} o.dst vv _ _ rfl rfl
        (hnext _ _ (_,a.2) aS0 _ hag ⟨Nat.le_add_right _ _,by simp only [List.length_append];omega⟩ (fun x hx=>by rw [Ib hag hbs x hx];exact hos x hx) (by rw [Pf hA];exact hpo)
          ⟨Nat.le_trans hr'.nv (Nat.le_add_right _ _),?_,hr'.gJ,hr'.kn,hr'.gl,q1,?_,q2,Ja hr'.top hdst (SV.cK H hret).symm,hr'.dw,fun p k sc h=>(Dq _ _ _ _ _ h).elim⟩)
       ·simp only [List.length_append]
        have:=hr.n
        omega
       ·refine hr.wr.step hW.os hW.tape hW.output hW.size fun k hk hn=>hW.block k (Nat.lt_of_lt_of_le hk hr.wr.size) fun hb=>?_
        rcases q4 k hb with h | h
        ·omega
        ·exact hn h
      ·trivial
     ·trivial
    ·trivial
   ·split
    ·rename_i fn hfn
     split
     ·rename_i hcond
      simp only [Bool.and_eq_true,Bool.not_eq_true',decide_eq_true_eq] at hcond
      obtain ⟨⟨hb,hn⟩,hlen⟩:=hcond
      intro _ hnext
      apply hG
      rw [hgo']
      refine .inl ?_
      have F6:=hT.fns f fn (hT.Mg hfn)
      rw [heff] at pz
      unfold Oper.wp
      rw [pz fn F6 hb hn]
      obtain ⟨body,hbody⟩:=Option.isSome_iff_exists.1 hb
      refine Reach.calls F6 hbody ?_
      have hg:=hnext ρ ν ({tmps:=(args.map (·.den ρ ν)).toArray ++ Array.replicate (fn.ntmps-(args.map (·.den ρ ν)).toArray.size) undef,defers:=[]},fun _=>True) (a :: aS0) w R0 (fun _=>rfl) L0 (by simp) (by simp)
       ⟨hr.nv,hr.n,hr.gJ,hr.kn,hr.gl,hr.hp,hr.wr,hr.own,⟨?_,?_,rfl,fun p k sc d hc=>by cases hc⟩,⟨hr.top,hr.dw⟩,fun p k sc hc=>by cases hc⟩
      ·have hbd:T.body f=body:=by
        unfold aX.body
        rw [show T.f f=some fn from hfn]
        simp [hbody]
       unfold Goal dR at hg
       simp only [List.map_cons,List.map_nil,SI.iN,hbd,Code.at,Option.getD_some] at hg
       refine Reach.mono hg fun e w' he=>?_
       obtain ⟨v,rfl,Jd⟩:=he
       have ZO:((T.ops c.top.f c.top.yn)[i]?).bind (·.dst)=o.dst:=by
        rw [bW,ho]
        rfl
       rw [ZO] at Jd
       exact hK _ _ _ (zQ _ _).1 (zQ _ _).2.1 rfl Jd
      ·intro t v ht
       obtain ⟨k,x,rfl,hx,rfl⟩:=yK (ρ:=ρ) (ν:=ν) ht
       have hk:k<args.length:=(List.getElem?_eq_some_iff.1 hx).1
       rw [Array.getD_eq_getD_getElem?,Array.getElem?_append]
       simp [hk,SV.den,(List.getElem?_eq_some_iff.1 hx).2]
      ·have:T.ntmps f=fn.ntmps:=by
        unfold aX.ntmps
        rw [show T.f f=some fn from hfn]
        rfl
       rw [this]
       simp
       omega
     ·trivial
    ·trivial
  ·trivial
  ·trivial
end
end Go.Rex
namespace Go.Rex
theorem oV {body:Code} {p:List Nat} {d:Code} (h:Code.at body p=some d) (i:Nat):Code.at body (p ++ [i])=Code.at d [i]:=by
 rw [Code.U8,h];rfl
section
variable {P:Program} {T:aX} {ρ:Env} {ν:Nat→Addr}
def MV (a:Act):ResultVar→Sem Value
 | .tmp t=>pure (a.tmps.getD t undef)
 | .cell x t=>do loadVar t (←asAddr (a.tmps.getD x undef))
theorem MW (fn:Func) (a:Act):results fn a.tmps=(do let vs ←fn.results.mapM (MV a);pure (if h:vs.size=1 then vs[0] else .tuple vs)):=by
 unfold results
 congr 1
theorem EF (hT:di P T) {c:bZ} {a:Act} {w:World} (hk:Kn.ok ρ c.kn) (hf:mX ρ ν c.top.fr a) (hh:aI ρ ν c.hp w):∀{l:List ResultVar} {xs:List SW} {os:List BE},
  yz T c l=some (xs,os)→(∀o∈os,o.den ρ=true) →
  (l.mapM (MV a)).run P w=.ok (xs.map (·.den ρ ν)) w
 | [],xs,os,h,_=>by
  simp only [yz,Option.some.injEq,Prod.mk.injEq] at h
  obtain ⟨rfl,rfl⟩:=h
  rfl
 | .tmp t :: r,xs,os,h,ho=>by
  unfold yz at h
  split at h
  ·rename_i x ys os' hx hr
   simp only [Option.some.injEq,Prod.mk.injEq] at h
   obtain ⟨rfl,rfl⟩:=h
   have ih:=EF hT hk hf hh hr ho
   have hx':a.tmps.getD t undef=x.den ρ ν:=hf t _ hx
   rw [List.mapM_cons]
   simp only [MV,Sem.run_bind,Sem.run_pure,Result.andThen_ok,ih,hx',List.map_cons]
  ·cases h
 | .cell x t :: r,xs,os,h,ho=>by
  unfold yz at h
  split at h
  ·rename_i sa ys os' hx hr
   split at h
   ·rename_i y os2 hl
    simp only [Option.some.injEq,Prod.mk.injEq] at h
    obtain ⟨rfl,rfl⟩:=h
    have ih:=EF hT hk hf hh hr (fun o hm=>ho o (by simp [hm]))
    have hx':a.tmps.getD x undef=.pointer (some (sa.den ρ ν)):=hf x _ hx
    have hld:=Fv hT hk hh hl (fun o hm=>ho o (by simp [hm]))
    rw [List.mapM_cons]
    have ZP:(asAddr (.pointer (some (sa.den ρ ν)))).run P w=.ok (sa.den ρ ν) w:=rfl
    simp only [MV,Sem.run_bind,Sem.run_pure,Result.andThen_ok,ih,hx',ZP,hld,List.map_cons,SV.den]
   ·cases h
  ·cases h
theorem Dr (hT:di P T) {c:bZ} {a:Act} {w:World} (hk:Kn.ok ρ c.kn) (hf:mX ρ ν c.top.fr a) (hh:aI ρ ν c.hp w) {fn:Func} {xs:List SW} {os:List BE}
  (h:yz T c fn.results.toList=some (xs,os)) (ho:∀o∈os,o.den ρ=true) :
  (results fn a.tmps).run P w=.ok (SV.den ρ ν (uf xs)) w:=by
 have:=EF hT hk hf hh h ho
 rw [MW,Array.mapM_eq_mapM_toList]
 simp only [Sem.run_bind,map_eq_pure_bind]
 rw [this]
 simp only [Result.andThen_ok,Sem.run_pure]
 congr 1
 rcases xs with _ | ⟨x,_ | ⟨y,r⟩⟩
 ·simp [uf,SV.den]
 ·simp [uf,SV.den]
 ·simp [uf,SV.den]
end
section
variable {P:Program} {T:aX} {B:vZ} {R:Ending→World→Prop} {E:Ex} {cs:mf} {inf:List (List OI)} {ρ:Env} {ν:Nat→Addr} {c:bZ} {a:AS} {aS0:List AS} {w:World}
theorem Je (hT:di P T) (hr:Rel T B ρ ν c a aS0 w)
  (hG:∀fn v,P.funcs[c.top.f]?=some fn→(results fn a.1.tmps).run P w=.ok v w→RK P T R c.dw aS0 (.returned v) w→Goal P T R c a aS0 w) :
  rH P T B R cs ρ ν c a aS0 w (sP T c):=by
 unfold sP
 split
 ·trivial
 rename_i fn hfn
 have F6:=hT.fns _ fn (hT.Mg hfn)
 split
 ·trivial
 rename_i xs os hres
 simp only
 cases hst:c.dw with
 | nil =>
  simp only
  intro hos hR
  refine hG fn _ F6 (Dr hT hr.kn hr.top.fr hr.hp hres hos) ?_
  rw [hst]
  exact hR hst
 | cons x st =>
  obtain ⟨G,i⟩:=x
  simp only
  split
  ·rename_i hd
   intro hos hnext
   refine hG fn _ F6 (Dr hT hr.kn hr.top.fr hr.hp hres hos) ?_
   rw [hst]
   have hs:=hr.dw
   rw [hst] at hs
   cases aS0 with
   | nil=>cases hs
   | cons b bs =>
    obtain ⟨hs1,hs2⟩:=hs
    refine ⟨_,rfl,?_⟩
    have hf1:pM T ρ ν ((G.put (((T.ops G.f G.yn)[i]?).bind (·.dst)) (uf xs)).eu i)
      (b.1.put (((T.ops G.f G.yn)[i]?).bind (·.dst)) (SV.den ρ ν (uf xs))) b.2:=(hs1.put hd rfl).advance i
    have hg:=hnext ρ ν (b.1.put (((T.ops G.f G.yn)[i]?).bind (·.dst)) (SV.den ρ ν (uf xs)),b.2) bs w (dn.refl _ _ _ _) (fun _=>rfl) ⟨Nat.le_refl _,Nat.le_refl _⟩ hos (by simp)
     ⟨hr.nv,hr.n,hr.gJ,hr.kn,hr.gl,hr.hp,hr.wr,hr.own,hf1,hs2,fun p k s hc=>by cases (Bt hc).1⟩
    unfold Goal at hg
    obtain ⟨e1,e2,e3⟩:=GZ G (((T.ops G.f G.yn)[i]?).bind (·.dst)) (uf xs)
    obtain ⟨f1,f2,-⟩:=zQ (G.put (((T.ops G.f G.yn)[i]?).bind (·.dst)) (uf xs)) i
    obtain ⟨g1,g2,-⟩:=zQ G i
    exact xB (g1.trans (f1.trans e1).symm) (g2.trans (f2.trans e2).symm) (Lc i e3.symm) hg
  ·trivial
theorem Pg (hT:di P T) (hr:Rel T B ρ ν c a aS0 w) {p:List Nat} {i D:Nat} {k:ek} {sc:List SB} (bW:c.top.cur=.dr p (.take i D k) sc false) :
  rH P T B R cs ρ ν c a aS0 w (rG T c (T.ops c.top.f p) i D p k sc):=by
 have hS:=hr.top.held p _ sc _ bW
 have hwk:=hr.held p _ sc bW
 unfold rG
 split
 ·trivial
 rename_i o ho
 split
 ·trivial
 rename_i hdst
 replace hdst:qB T c.top.f o.dst=true:=by simpa using hdst
 split
 ·trivial
 rename_i g hgc
 have hwant:=IQ hr.top.fr hgc
 have take:∀(xA:List SB) (S1:World→Prop) (v:SV) (os:List BE),fG sc xA=true→fG xA c.hp=true→((∀w,S1 w)∨((S1=fun w=>aI ρ ν xA w)∧∀x,k.jX=some x→x∈bitsOf (T.ops c.top.f p).size D)) →
   ((∀b∈os,b.den ρ=true)→YieldsIf P (T.ops c.top.f p) S1 o (v.den ρ ν) a.1) →
   rH P T B R cs ρ ν c a aS0 w (.next os [] {c with top:={c.top.put o.dst v with cur:=.dr p k xA false}}):=by
  intro xA S1 v os hle Xh hS1 hy hos hnext
  have Xi:aI ρ ν xA w:=zH Xh hr.hp
  have hf:pM T ρ ν {c.top.put o.dst v with cur:=.dr p k xA false} (a.1.put o.dst (v.den ρ ν)) (fun w=>aI ρ ν xA w):=by
   have h1:=hr.top.put (v:=v) hdst rfl
   refine ⟨h1.fr,h1.tmps,h1.defers,fun p' k' s' d' hc=>?_⟩
   simp only [nG.dr.injEq] at hc
   rw [←hc.2.2.1]
   exact fun _=>Iff.rfl
  have hg:=hnext ρ ν (_,fun w=>aI ρ ν xA w) aS0 w (dn.refl _ _ _ _) (fun _=>rfl) ⟨Nat.le_refl _,Nat.le_refl _⟩ hos (by simp) ⟨hr.nv,hr.n,hr.gJ,hr.kn,hr.gl,hr.hp,hr.wr,hr.own,hf,hr.dw,fun p' k' s' hc=>by
    simp only [nG.dr.injEq] at hc
    rw [←hc.2.2.1]
    exact Xh⟩
  unfold Goal dR
  rw [bW]
  refine ⟨fun _=>(hS w).2 (zH hwk hr.hp),fun listed hns hsp=>?_⟩
  obtain ⟨z1,z2,z3,z5,z6,z4⟩:=hsp
  unfold Goal dR at hg
  obtain ⟨e1,e2,e3⟩:=GZ c.top o.dst v
  simp only [e1,e2] at hg
  have h2:=hg.2 _ hns z4
  rw [lD z3] at h2
  rw [lD rfl]
  refine Ak (S:=a.2) (S':=fun w=>aI ρ ν xA w) (fun w' h'=>(hS w').2 (zH hle h')) ?_
  refine H7 (S1:=S1) (l:=bitsOf (T.ops c.top.f p).size D) ho (Region.noSelect_spec hns) (fun _ _ _ h=>Kw h) z6 hS1 k.size listed a.1 w (Region.free_spec ho z2) z1 (hy hos) ?_ (fun _=>Xi) z5 h2
  rcases hS1 with h | ⟨h,_⟩
  ·exact h w
  ·rw [h]
   exact Xi
 have h0:fG sc sc=true:=Er (Nat.le_refl _) fun k x y hx hy=>by rw [hx] at hy;cases hy;exact SB.nE x
 have hnil:∀w',aI ρ ν [] w':=fun w'=>⟨fun i j a b hi=>(by simp at hi),fun k sb h=>(by simp at h),fun k sb h=>(by simp at h)⟩
 have hsc:∀kn,fG sc ((jw T c.gl kn c.top.fr c.hp sc o).getD sc)=true∧fG ((jw T c.gl kn c.top.fr c.hp sc o).getD sc) c.hp=true:=by
  intro kn
  unfold jw
  split
  ·exact ⟨FD hwk,Es hwk⟩
  ·exact ⟨h0,hwk⟩
 have hS1:∀kn,¬((jw T c.gl kn c.top.fr c.hp sc o).isSome && !GY k.jX (bitsOf (T.ops c.top.f p).size D))=true →
   (∀w',(fun w'=>aI ρ ν ((jw T c.gl kn c.top.fr c.hp sc o).getD []) w') w')∨(((fun w'=>aI ρ ν ((jw T c.gl kn c.top.fr c.hp sc o).getD []) w')=fun w'=>aI ρ ν ((jw T c.gl kn c.top.fr c.hp sc o).getD sc) w')∧∀x,k.jX=some x→x∈bitsOf (T.ops c.top.f p).size D):=by
  intro kn hn
  cases hh:jw T c.gl kn c.top.fr c.hp sc o with
  | none=>exact .inl hnil
  | some h =>
   refine .inr ⟨rfl,fun x hx=>?_⟩
   rw [hh,hx] at hn
   simpa [GY] using hn
 split
 ·rename_i hdec
  have hg:=BE.df hr.kn hdec
  exact take sc (fun _=>True) (.gK []) [] h0 hwk (.inl fun _=>trivial) fun _=>.inr ⟨by rw [hwant,hg],rfl⟩
 ·rename_i hdec
  have hg:=BE.df hr.kn hdec
  split
  ·trivial
  rename_i hok
  split
  ·rename_i v os hp'
   exact take _ _ v os (hsc _).1 (hsc _).2 (hS1 _ hok) fun hos=>.inl ⟨by rw [hwant,hg],fun w' hw'=>sK (hT.sw c.top.f) hr.gl hr.kn hr.top.fr hw' hp' hos⟩
  ·trivial
  ·trivial
 ·rename_i hdec
  split
  ·trivial
  rename_i hok
  split
  ·rename_i x os hp'
   refine take _ _ (.gd g x) _ (hsc _).1 (hsc _).2 (hS1 _ hok) fun hos=>?_
   cases hg:g.den ρ with
   | false=>exact .inr ⟨by rw [hwant,hg],by simp [SV.den,hg]⟩
   | true =>
    refine .inl ⟨by rw [hwant,hg],fun w' hw'=>?_⟩
    rw [sK (hT.sw c.top.f) hr.gl (ng hg hr.kn) hr.top.fr hw' hp' (fun b hb=>by
      have:=hos (.or g.kZ b) (List.mem_map.2 ⟨b,hb,rfl⟩)
      simpa [BE.den,BE.ig,hg] using this)]
    simp [SV.den,hg]
  ·trivial
theorem Vh (hT:di P T) (hE:E.cons=cs.map (·.1)) (hC:∀k pre post,(k,pre,post)∈cs→jy k=true∧aY P k pre post) (hr:Rel T B ρ ν c a aS0 w) {p:List Nat} {k:ek} {sc:List SB} {d:Bool} (bW:c.top.cur=.dr p k sc d) :
  rH P T B R cs ρ ν c a aS0 w (Bl T E c p k sc d):=by
 have hS:=hr.top.held p k sc d bW
 unfold Bl
 split
 ·
  rename_i hdr
  obtain ⟨k',rfl⟩:∃k',k=.drop k':=by
   cases k <;> first | exact ⟨_,rfl⟩ | (cases hdr)
  intro _ hnext
  have hnil:∀w',aI ρ ν [] w':=fun w'=>⟨fun i j a b hi=>(by simp at hi),fun k sb h=>(by simp at h),fun k sb h=>(by simp at h)⟩
  have hf:pM T ρ ν {c.top with cur:=.dr p k' [] false} a.1 (fun w=>aI ρ ν [] w) :=
   ⟨hr.top.fr,hr.top.tmps,hr.top.defers,fun p' k' s' d' hc=>by
     simp only [nG.dr.injEq] at hc
     rw [←hc.2.2.1]
     exact fun _=>Iff.rfl⟩
  have hg:=hnext ρ ν (a.1,fun w=>aI ρ ν [] w) aS0 w (dn.refl _ _ _ _) (fun _=>rfl) ⟨Nat.le_refl _,Nat.le_refl _⟩ (by simp) (by simp) ⟨hr.nv,hr.n,hr.gJ,hr.kn,hr.gl,hr.hp,hr.wr,hr.own,hf,hr.dw,fun p' k' s' hc=>by
    simp only [nG.dr.injEq] at hc
    rw [←hc.2.2.1]
    rfl⟩
  unfold Goal dR at hg ⊢
  rw [bW]
  refine ⟨fun h=>(by cases h),fun listed hns hsp=>?_⟩
  obtain ⟨z1,z2,z3⟩:=hsp
  have h2:=hg.2 listed hns z3
  have h3:=(lD (s:=k') z2).1 h2
  exact Al (S:=a.2) z1 h3
 rename_i hnd
 have hnd:k.yg=false:=by simpa using hnd
 split
 ·rename_i hd
  split
  ·rename_i hwk
   intro _ hnext
   have hg:=hnext ρ ν a aS0 w (dn.refl _ _ _ _) (fun _=>rfl) ⟨Nat.le_refl _,Nat.le_refl _⟩ (by simp) (by simp) ⟨hr.nv,hr.n,hr.gJ,hr.kn,hr.gl,hr.hp,hr.wr,hr.own,⟨hr.top.fr,hr.top.tmps,hr.top.defers,fun p' k' s' d' hc=>by
     simp only [nG.dr.injEq] at hc
     rw [←hc.2.2.1]
     exact hS⟩,hr.dw,fun p' k' s' hc=>by
     simp only [nG.dr.injEq] at hc
     rw [←hc.2.2.1]
     exact hwk⟩
   unfold Goal dR at hg ⊢
   rw [bW]
   exact hg
  ·trivial
 rename_i hd
 have hd':d=false:=by simpa using hd
 subst hd'
 have hwk:=hr.held p k sc bW
 have hSw:a.2 w:=(hS w).2 (zH hwk hr.hp)
 have dL:(∀listed:Array Bool,Region.noSelect (T.ops c.top.f p)=true→oO (T.ops c.top.f p) listed k →
     yE P (T.ops c.top.f p) (jr P c.top.f (RK P T R c.dw aS0) (c.top.todo.map (SI.iN (T.body c.top.f)))) a.2 k listed a.1 w)→Goal P T R c a aS0 w:=by
  intro h
  unfold Goal dR
  rw [bW]
  exact ⟨fun _=>hSw,h⟩
 have single:∀(i:Nat) (k':ek),k.rest=k'→(∀listed,oO (T.ops c.top.f p) listed k→k'.lu=false∧oO (T.ops c.top.f p) (listed.setIfInBounds i true) k' ∧
       ((wpOp P (T.ops c.top.f p) (jr P c.top.f (RK P T R c.dw aS0) (c.top.todo.map (SI.iN (T.body c.top.f)))) i (fun a' w'=>(asked k'.jX (listed.setIfInBounds i true)→a.2 w')∧iL P .any (T.ops c.top.f p) (jr P c.top.f (RK P T R c.dw aS0) (c.top.todo.map (SI.iN (T.body c.top.f)))) a.2 k'.jX k'.size (listed.setIfInBounds i true) a' w') a.1 w) →
         yE P (T.ops c.top.f p) (jr P c.top.f (RK P T R c.dw aS0) (c.top.todo.map (SI.iN (T.body c.top.f)))) a.2 k listed a.1 w)) →
   rH P T B R cs ρ ν c a aS0 w (vY T E c (T.ops c.top.f p) i (zO p k' sc)):=by
  intro i k' hk hgo
  have I9:∀F:aZ,F.cur=c.top.cur→zO p k' sc F=F.eu i:=by
   intro F hF
   unfold aZ.eu
   rw [hF,bW,←hk]
  refine Ld hT hE hC hr (p:=p) (by unfold aZ.yn;rw [bW]) I9 (Q:=jr P c.top.f (RK P T R c.dw aS0) (c.top.todo.map (SI.iN (T.body c.top.f))))
   (K:=fun a' w'=>(k'.yg=false→a.2 w')∧∀listed,Region.noSelect (T.ops c.top.f p)=true→oO (T.ops c.top.f p) listed k →
     iL P .any (T.ops c.top.f p) (jr P c.top.f (RK P T R c.dw aS0) (c.top.todo.map (SI.iN (T.body c.top.f)))) a.2 k'.jX k'.size (listed.setIfInBounds i true) a' w') ?_ ?_
  ·intro F' a' w' h1 h2 h3 hg
   have h3':F'.cur=.dr p k' sc true:=by rw [h3];unfold aZ.eu;rw [bW,←hk];rfl
   unfold dR at hg
   rw [h3',h1,h2] at hg
   refine ⟨hg.1,fun listed hns hsp=>?_⟩
   obtain ⟨z1,z2,-⟩:=hgo listed hsp
   exact (lD z1).1 (hg.2 _ hns z2)
  ·intro hw
   apply dL
   intro listed hns hsp
   refine (hgo listed hsp).2.2 (wpOp_mono (fun a' w' h=>⟨fun ha=>?_,h.2 listed hns hsp⟩) hw)
   cases hk':k'.yg with
   | false=>exact h.1 hk'
   | true =>
    have hz:=(hgo listed hsp).2.1
    obtain ⟨k2,rfl⟩:∃k2,k'=.drop k2:=by
     cases k' <;> first | exact ⟨_,rfl⟩ | (cases hk')
    exact absurd ha hz.1
 simp only
 split
 ·intro _ hnext
  apply dL
  intro listed hns hsp
  have hrd:Region.ready .any (T.ops c.top.f p) listed=[]:=List.eq_nil_iff_forall_not_mem.2 hsp
  refine Ku hrd ⟨rfl,?_⟩ _
  have hg:=hnext ρ ν a aS0 w (dn.refl _ _ _ _) (fun _=>rfl) ⟨Nat.le_refl _,Nat.le_refl _⟩ (by simp) (by simp) ⟨hr.nv,hr.n,hr.gJ,hr.kn,hr.gl,hr.hp,hr.wr,hr.own,⟨hr.top.fr,hr.top.tmps,hr.top.defers,fun p k d s hc=>by cases hc⟩,hr.dw,fun p k s hc=>by cases hc⟩
  exact hg
 ·exact Pg hT hr bW
 ·rename_i i k' _
  refine single i k' rfl fun listed hsp=>?_
  obtain ⟨z1,z2,z3,z4⟩:=hsp
  refine ⟨z3,z4,fun hw=>?_⟩
  refine ⟨fun h0=>(by rw [h0] at z1;cases z1),fun j hj=>?_⟩
  rw [z2 j hj]
  exact hw
 ·rename_i i k' _
  refine single i k' rfl fun listed hsp=>?_
  obtain ⟨z1,z3,z4⟩:=hsp
  exact ⟨z3,z4,fun hw=>hw⟩
 ·rename_i i ki j kj _
  intro hx hy
  have mk:∀(i:Nat) (ki:ek),Rel T B ρ ν {c with top:={c.top with cur:=.dr p (.go i ki) sc false}} a aS0 w:=fun i ki =>
   ⟨hr.nv,hr.n,hr.gJ,hr.kn,hr.gl,hr.hp,hr.wr,hr.own,⟨hr.top.fr,hr.top.tmps,hr.top.defers,fun p' k' s' d' hc=>by
     simp only [nG.dr.injEq] at hc
     rw [←hc.2.2.1]
     exact hS⟩,hr.dw,fun p' k' s' hc=>by
     simp only [nG.dr.injEq] at hc
     rw [←hc.2.2.1]
     exact hwk⟩
  have hx':=hx (mk i ki)
  have hy':=hy (mk j kj)
  apply dL
  intro listed hns hsp
  obtain ⟨z1,z2,z3,z4,z5,z6,z9,z7,z8⟩:=hsp
  unfold Goal dR at hx' hy'
  have h1:=hx'.2 listed hns ⟨z1,z4,z7⟩
  have h2:=hy'.2 listed hns ⟨z2,z5,z8⟩
  simp only [yE] at h1 h2 ⊢
  refine ⟨fun h0=>(by rw [h0] at z1;cases z1),fun q hq=>?_⟩
  rcases z3 q hq with rfl | rfl
  ·exact h1
  ·rw [show (ek.alt i ki q kj).jX=kj.jX from z9,z6];exact h2
 ·cases hnd
theorem Av {f:FuncId} {p:List Nat} {s:ek}:∀{l:List ((FuncId × List Nat) × ek)},qQ f p l=some s→((f,p),s)∈l
 | [],h=>by simp [qQ] at h
 | x :: r,h=>by
  unfold qQ at h
  split at h
  ·rename_i hc
   simp only [Bool.and_eq_true,beq_iff_eq] at hc
   simp at h
   subst h
   rw [←hc.1,←hc.2]
   exact List.mem_cons_self ..
  ·exact List.mem_cons_of_mem _ (Av h)
theorem yM {f:FuncId} {p:List Nat} {s:ek}:∀{l:List ((FuncId × List Nat) × ek)} {inf:List (List OI)},jK T l inf=true→((f,p),s)∈l →
  ∃os,(Region.noSelect (T.ops f p) && s.size == (T.ops f p).size && !s.lu && kJ (T.ops f p) (T.ops f p).size (T.ops f p).toList os && nU os (2 ^ (T.ops f p).size-1) s)=true
 | [],_,_,h=>by cases h
 | x :: r,[],h,_=>by simp [jK] at h
 | x :: r,os :: q,h,hm=>by
  simp only [jK] at h
  rw [Bool.and_eq_true] at h
  rcases List.mem_cons.1 hm with e | hm
  ·subst e
   exact ⟨os,h.1⟩
  ·exact yM h.2 hm
theorem RH {f:FuncId} {p:List Nat} {s:ek} (hS:jK T E.sched inf=true) (h:qQ f p E.sched=some s) :
  Region.noSelect (T.ops f p)=true∧s.size=(T.ops f p).size∧s.lu=false∧oO (T.ops f p) (Array.replicate (T.ops f p).size false) s:=by
 obtain ⟨os,hh⟩:=yM hS (Av h)
 simp only [Bool.and_eq_true,beq_iff_eq,Bool.not_eq_true'] at hh
 obtain ⟨⟨⟨⟨h1,h2⟩,h3⟩,h4⟩,h5⟩:=hh
 refine ⟨h1,h2,h3,Vb h4 (fun j=>?_) (by simp) h5⟩
 rw [Nat.testBit_two_pow_sub_one,Array.getD_eq_getD_getElem?,Array.getElem?_replicate]
 split <;> rename_i hj <;> simp [hj]
theorem Jf (hT:di P T) (hE:E.cons=cs.map (·.1)) (hC:∀k pre post,(k,pre,post)∈cs→jy k=true∧aY P k pre post) (hS:jK T E.sched inf=true) (hr:Rel T B ρ ν c a aS0 w):rH P T B R cs ρ ν c a aS0 w (nV T E c):=by
 have mv:∀{F':aZ},F'.f=c.top.f→F'.fr=c.top.fr→F'.cur=.none→Rel T B ρ ν {c with top:=F'} a aS0 w:=fun {F'} h1 h2 h3 =>
  ⟨hr.nv,hr.n,hr.gJ,hr.kn,hr.gl,hr.hp,hr.wr,hr.own,⟨by rw [h2];exact hr.top.fr,by rw [h1];exact hr.top.tmps,hr.top.defers,fun p k s d hc=>(by rw [h3] at hc;cases hc)⟩,hr.dw,fun p k s hc=>(by rw [h3] at hc;cases hc)⟩
 have gr:∀{k:List SI},c.top.cur=.none→Goal P T R {c with top:={c.top with todo:=k}} a aS0 w→Reach P c.top.f (RK P T R c.dw aS0) a.1 (k.map (SI.iN (T.body c.top.f))) w:=by
  intro k h1 hg
  unfold Goal dR at hg
  simp only [h1] at hg
  exact hg
 have R0:=dn.refl c.nv c.hp.length ρ ν
 have L0:c.nv≤c.nv∧c.hp.length≤c.hp.length:=⟨Nat.le_refl _,Nat.le_refl _⟩
 unfold nV
 simp only
 split
 ·
  rename_i p i bW
  have dL:wpOps P (T.ops c.top.f p) (jr P c.top.f (RK P T R c.dw aS0) (c.top.todo.map (SI.iN (T.body c.top.f)))) (List.range' i ((T.ops c.top.f p).size-i)) a.1 w→Goal P T R c a aS0 w:=by
   intro h
   unfold Goal dR
   rw [bW]
   exact h
  split
  ·rename_i hlt
   simp only [decide_eq_true_eq] at hlt
   have I9:∀F:aZ,F.cur=c.top.cur→yx p i F=F.eu i:=by
    intro F hF
    unfold aZ.eu
    rw [hF,bW]
   refine Ld hT hE hC hr (p:=p) (by unfold aZ.yn;rw [bW]) I9 (Q:=jr P c.top.f (RK P T R c.dw aS0) (c.top.todo.map (SI.iN (T.body c.top.f))))
    (K:=wpOps P (T.ops c.top.f p) (jr P c.top.f (RK P T R c.dw aS0) (c.top.todo.map (SI.iN (T.body c.top.f)))) (List.range' (i+1) ((T.ops c.top.f p).size-(i+1)))) ?_ ?_
   ·intro F' a' w' h1 h2 h3 hg
    have h3':F'.cur=.reg p (i+1):=by rw [h3];unfold aZ.eu;rw [bW];rfl
    unfold dR at hg
    rw [h3',h1,h2] at hg
    exact hg
   ·intro hw
    apply dL
    have:(T.ops c.top.f p).size-i=((T.ops c.top.f p).size-(i+1))+1:=by omega
    rw [this,List.range'_succ,wpOps_cons]
    exact hw
  ·rename_i hge
   simp only [decide_eq_true_eq] at hge
   intro _ hnext
   apply dL
   have:(T.ops c.top.f p).size-i=0:=by omega
   rw [this]
   have hg:=hnext ρ ν a aS0 w R0 (fun _=>rfl) L0 (by simp) (by simp) (mv rfl rfl rfl)
   exact ⟨rfl,hg⟩
 ·rename_i p k sc d bW
  exact Vh hT hE hC hr bW
 ·rename_i bW
  have dL:Reach P c.top.f (RK P T R c.dw aS0) a.1 (c.top.todo.map (SI.iN (T.body c.top.f))) w→Goal P T R c a aS0 w:=by
   intro h
   unfold Goal dR
   rw [bW]
   exact h
  split
  ·rename_i htodo
   rw [htodo] at dL
   exact Je hT hr fun fn v hfn hres hR=>dL (Reach.end hfn hr.top.defers hres hR)
  ·rename_i id k htodo
   rw [htodo] at dL
   intro _ hnext
   exact dL (Reach.step (fun b cs=>step_inBlock) (gr bW (hnext ρ ν a aS0 w R0 (fun _=>rfl) L0 (by simp) (by simp) (mv rfl rfl bW))))
  ·trivial
  ·rename_i q k htodo
   rw [htodo] at dL
   intro _ hnext
   exact dL (Reach.step (fun b cs=>step_inLoop) (gr bW (hnext ρ ν a aS0 w R0 (fun _=>rfl) L0 (by simp) (by simp) (mv rfl rfl bW))))
  ·rename_i p k htodo
   rw [htodo] at dL
   simp only [List.map_cons,SI.iN] at dL
   split
   ·rename_i hat
    rw [hat] at dL
    intro _ hnext
    exact dL (Reach.step (fun b cs=>step_skip) (gr bW (hnext ρ ν a aS0 w R0 (fun _=>rfl) L0 (by simp) (by simp) (mv rfl rfl bW))))
   ·rename_i l hat
    rw [hat] at dL
    intro _ hnext
    exact dL (Reach.step (fun b cs=>step_label) (gr bW (hnext ρ ν a aS0 w R0 (fun _=>rfl) L0 (by simp) (by simp) (mv rfl rfl bW))))
   ·rename_i x y hat
    rw [hat] at dL
    intro _ hnext
    have hg:=gr bW (hnext ρ ν a aS0 w R0 (fun _=>rfl) L0 (by simp) (by simp) (mv rfl rfl bW))
    simp only [List.map_cons,SI.iN,oV hat,Code.at,Option.getD_some] at hg
    exact dL (Reach.step (fun b cs=>step_seq) hg)
   ·rename_i o x y hat
    rw [hat] at dL
    split
    ·trivial
    rename_i b hb
    have hev:a.1.eval o=.bool (b.den ρ):=by
     simp only [Option.bind_eq_some_iff] at hb
     obtain ⟨v,hv,hvb⟩:=hb
     rw [jQ hr.gl hr.kn hr.top.fr hv]
     unfold nM at hvb
     split at hvb
     ·simp at hvb;subst hvb;rfl
     ·cases hvb
    split
    ·rename_i hd
     have:=BE.df hr.kn hd
     intro _ hnext
     have hg:=gr bW (hnext ρ ν a aS0 w R0 (fun _=>rfl) L0 (by simp) (by simp) (mv rfl rfl bW))
     simp only [List.map_cons,SI.iN,oV hat,Code.at,Option.getD_some] at hg
     refine dL (Reach.step (fun b' cs=>step_cond hev) ?_)
     simp only [this,if_true]
     exact hg
    ·rename_i hd
     have:=BE.df hr.kn hd
     intro _ hnext
     have hg:=gr bW (hnext ρ ν a aS0 w R0 (fun _=>rfl) L0 (by simp) (by simp) (mv rfl rfl bW))
     simp only [List.map_cons,SI.iN,oV hat,Code.at,Option.getD_some] at hg
     refine dL (Reach.step (fun b' cs=>step_cond hev) ?_)
     simp only [this,Bool.false_eq_true,if_false]
     exact hg
    ·trivial
   ·rename_i id' x hat
    rw [hat] at dL
    intro _ hnext
    have hg:=gr bW (hnext ρ ν a aS0 w R0 (fun _=>rfl) L0 (by simp) (by simp) (mv rfl rfl bW))
    simp only [List.map_cons,SI.iN,oV hat,Code.at,Option.getD_some] at hg
    exact dL (Reach.step (fun b cs=>step_block) hg)
   ·rename_i x hat
    rw [hat] at dL
    intro _ hnext
    have hg:=gr bW (hnext ρ ν a aS0 w R0 (fun _=>rfl) L0 (by simp) (by simp) (mv rfl rfl bW))
    simp only [List.map_cons,SI.iN,oV hat,Code.at,Option.getD_some] at hg
    exact dL (Reach.step (fun b cs=>step_loop) hg)
   ·rename_i id' hat
    rw [hat] at dL
    split
    ·rename_i k' hk'
     intro _ hnext
     exact dL (Reach.step (fun b cs=>step_exit (nP _ _ hk')) (gr bW (hnext ρ ν a aS0 w R0 (fun _=>rfl) L0 (by simp) (by simp) (mv rfl rfl bW))))
    ·trivial
   ·rename_i hat
    rw [hat] at dL
    exact Je hT hr fun fn v hfn hres hR=>dL (Reach.ret hfn hr.top.defers hres hR)
   ·rename_i id' ops hat
    rw [hat] at dL
    intro _ hnext
    have hops:T.ops c.top.f p=ops:=by unfold aX.ops;rw [hat];rfl
    have hg:=hnext ρ ν a aS0 w R0 (fun _=>rfl) L0 (by simp) (by simp) ⟨hr.nv,hr.n,hr.gJ,hr.kn,hr.gl,hr.hp,hr.wr,hr.own,⟨hr.top.fr,hr.top.tmps,hr.top.defers,fun p k s d hc=>by cases hc⟩,hr.dw,fun p k s hc=>by cases hc⟩
    refine dL (Reach.region ?_)
    unfold Goal dR at hg
    simp only [hops,Nat.sub_zero] at hg
    rw [List.range_eq_range']
    exact hg
   ·rename_i id' ops hat
    rw [hat] at dL
    have hops:T.ops c.top.f p=ops:=by unfold aX.ops;rw [hat];rfl
    split
    ·rename_i s hfind
     obtain ⟨z1,z2,z3,z4⟩:=RH hS hfind
     intro _ hnext
     have hg:=hnext ρ ν (a.1,fun w=>aI ρ ν [] w) aS0 {w with drawn:=w.drawn+1} R0 (fun _=>rfl) L0 (by simp) (by simp)
      ⟨hr.nv,hr.n,hr.gJ,hr.kn,hr.gl,hr.hp.drew _,hr.wr.step rfl rfl rfl (Nat.le_refl _) (fun _ _ _=>rfl),hr.own,
        ⟨hr.top.fr,hr.top.tmps,hr.top.defers,fun p k s d hc w'=>by cases hc;exact Iff.rfl⟩,hr.dw,fun p k s hc=>by cases hc;simp [fG]⟩
     refine dL (Reach.draw (S:=fun w=>aI ρ ν [] w) (m:=s.jX) hT.mixed ?_)
     unfold Goal dR at hg
     simp only [hops] at hg z1 z2 z4
     have h1:=hg.2 (Array.replicate ops.size false) z1 z4
     rw [lD z3,z2] at h1
     exact h1
    ·trivial
   ·trivial
end
end Go.Rex
