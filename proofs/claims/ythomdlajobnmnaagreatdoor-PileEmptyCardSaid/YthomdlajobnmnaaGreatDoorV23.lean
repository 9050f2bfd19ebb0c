/- part 23 of the proof -/
import Derived.Test.YthomdlajobnmnaaGreatDoorChecked
import Derived.WalkKit
import Derived.LaidEql
import Derived.Stop.Asserts
import Derived.RowKitTokens
import Derived.Test.YthomdlajobnmnaaGreatDoorV18
import Derived.Test.YthomdlajobnmnaaGreatDoorV20
import Derived.Test.YthomdlajobnmnaaGreatDoorV22
namespace Go.Proofs.YthomdlajobnmnaaGreatDoor
open Go.RowKit Go.Extern.Stop Go.Stop Go.Extern
theorem TC (v:Value) (w:World):(Extern.ReflectliteType.typeOf #[.iface 224 v]).run Tryz.prog w=.ok (.iface 188 (.agg #[.pointer (some ⟨8,224,none⟩)])) w:=by kernel_rfl
def Yg:Array Value→Sem Value:=Extern.ReflectliteType.method fun t=>do Extern.Rtype.noPackHeld "Comparable" t;pure (.bool (←typeInfo t).comparable)
theorem Ke (w:World):(Yg #[.agg #[.pointer (some ⟨8,224,none⟩)]]).run Tryz.prog w=.ok (.bool true) w:=by kernel_rfl
theorem zx (v:Value) (w:World):(Go.method 361 188 v "Comparable").run Tryz.prog w=.ok (174,v) w:=by kernel_rfl
theorem Yh:(Tryz.prog.info? 224).map (·.comparable)=some true:=by kernel_rfl
theorem Yi:(Tryz.prog.info? 249).map (·.size)=some 1:=by kernel_rfl
theorem YF (v:Value) (xT:TypeId) (w:World):(Instr.typeAssert (.iface 161 v) xT 190 true).run Tryz.prog w=.ok (.tuple #[.nilIface,.bool false]) w:=run_typeAssert_lacksB Tryz.underlying190 (by kernel_rfl) (by kernel_rfl) v xT w
theorem Og (v:Value) (xT:TypeId) (w:World):(Instr.typeAssert (.iface 161 v) xT 193 true).run Tryz.prog w=.ok (.tuple #[.iface 161 v,.bool true]) w:=run_typeAssert_hasB Tryz.underlying193 (by kernel_rfl) v xT w
theorem Kg (v:Value) (w:World):(Go.method 361 161 v "Unwrap").run Tryz.prog w=.ok (170,v) w:=by kernel_rfl
theorem Kh (a:Addr) (b:Addr) (w:World) (h1:w.cell? ⟨a.block,a.off+1,none⟩=some (.iface 224 (.pointer (some b)))) :
  Calls Tryz.prog 31 #[.iface 161 (.pointer (some a)),.iface 224 (.pointer (some b))] w fun e w'=>e=.returned (.bool true)∧w'=w:=by
 obtain ⟨i,hi,hcmp⟩:=Option.map_eq_some_iff.1 Yh
 obtain ⟨j,hj,hjs⟩:=Option.map_eq_some_iff.1 Yi
 have h8:=@run_callFunc_extern Tryz.prog 60 _ Extern.ReflectliteType.typeOf Tryz.func60 (by kernel_rfl) (by kernel_rfl) (by kernel_rfl) (by kernel_rfl)
 have h32:=@run_callFunc_extern Tryz.prog 174 _ Yg Tryz.func174 (by kernel_rfl) (by kernel_rfl) (by kernel_rfl) (by kernel_rfl)
 have tT:=TC
 have cT:=Ke
 have mR:=zx
 have nW:=YF
 have uW:=Og
 have mU:=Kg
 have heq:=run_eql_iface_ptr_same (P:=Tryz.prog) w b Tryz.underlying36 Tryz.underlying224 hi hcmp hj
 have hty:=run_eql_iface_types (P:=Tryz.prog) 161 224 (.pointer (some a)) (.pointer (some b)) Tryz.underlying36 (by decide) w
 go_enter Tryz.func31,Tryz.ntmps31
 go_wp2
 refine wp_loop_rounds 2 ?_
 rw [rounds_succ]
 go_wp2
 rw [rounds_succ]
 go_wp2
 go_ret
 exact ⟨rfl,rfl⟩
end Go.Proofs.YthomdlajobnmnaaGreatDoor
set_option linter.unusedSimpArgs false
set_option linter.unusedVariables false
namespace Go.Proofs.YthomdlajobnmnaaGreatDoor
open Go.RowKit Go.Rex
def tV:Bool × List FK:=(false,[.int .i64])
def su:Bool × List FK:=(false,[.sl 3 [.int .i64]])
theorem V4:aY Tryz.prog Yf kT kT:=by
 refine RP ⟨_,Tryz.func31,by kernel_rfl,by kernel_rfl⟩ rfl (fun ρ ν w gB _ _=>?_) fun _ _=>trivial
 obtain ⟨-,cs,hcs,hrd⟩:=gB.rd 0 _ rfl rfl rfl
 have h1:=hrd 1 _ (hcs.ex 1 _ rfl rfl)
 have e0:SA.den ρ ν {aD:=0}=ν 0:=by simp [SA.den,SA.off,IE.den,Addr.add_zero]
 have e1:SA.den ρ ν {aD:=1}=ν 1:=by simp [SA.den,SA.off,IE.den,Addr.add_zero]
 have h2:w.cell? ⟨(ν 0).block,(ν 0).off+1,none⟩=some (.iface 224 (.pointer (some (ν 1)))):=by
  have h1:w.cell? ((ν 0).add 1)=some (.iface 224 (.pointer (some (SA.den ρ ν {aD:=1})))):=h1
  rw [e1] at h1
  exact h1
 have hc:=Kh (ν 0) (ν 1) w h2
 show Calls Tryz.prog 31 #[.iface 161 (.pointer (some (SA.den ρ ν {aD:=0}))),.iface 224 (.pointer (some (SA.den ρ ν {aD:=1})))] w _
 rw [e0,e1]
 exact hc
noncomputable def LX:Ex:={sched:=sched,loops:=[],cons:=[Yf],fin:=si}
def Gx:Out :=
 .call 0 {lo:=0,az:=0,iv:=[(0,.lit 7)],bk:=[(1,yb 1),(0,yb 87)]} 1 <|
 .fin {lo:=1,az:=14}
theorem Oh:exec tab LX 8000 [] (eG si.f si.nv [] si.gl si.hp si.args)=Gx:=by kernel_rfl
theorem Oi:aY Tryz.prog si kT kT :=
 cZ dD (E:=LX) (cs:=[(Yf,kT,kT)]) rfl (fun k pre post h=>by
   cases h with
   | head=>exact ⟨by kernel_rfl,V4⟩
   | tail _ h=>cases h) bS rfl Oh (by kernel_rfl) (fun ρ _ p hp=>by cases hp) fun ρ _=>by
   unfold Gx
   repeat' first
    | refine Sat.new fun _ _=>?_
    | refine Sat.call rfl trivial fun _ _=>?_
    | exact Sat.fin trivial
noncomputable def LY:Ex:={sched:=sched,loops:=[],cons:=[],fin:=sj}
def QY:Out :=
 .fin {lo:=1,az:=14}
theorem Oj:exec tab LY 8000 [] (eG sj.f sj.nv [] sj.gl sj.hp sj.args)=QY:=by kernel_rfl
theorem Ol:aY Tryz.prog sj kT kT :=
 cZ dD (E:=LY) (cs:=[]) rfl (fun k pre post h=>by cases h) bS rfl Oj (by kernel_rfl) (fun ρ _ p hp=>by cases hp) (fun ρ _=>Sat.fin trivial)
def Rd (w:World) (v:Value) (l:List Int):Prop :=
 ∃A c,v=.slice A l.length c∧l.length≤c∧c≤9223372036854775807∧∀k,k<l.length→∃ad,A=some ad∧w.cell? (ad.add k)=some (.int .i64 (l.getD k 0))
theorem Rd.nw {w w':World} {v:Value} {l:List Int} (h:Rd w v l) (hn:Nw w w'):Rd w' v l:=by
 obtain ⟨A,c,h1,h2,h3,h4⟩:=h
 refine ⟨A,c,h1,h2,h3,fun k hk=>?_⟩
 obtain ⟨ad,h5,h6⟩:=h4 k hk
 exact ⟨ad,h5,hn.gY h6⟩
theorem YG {ρ:Env} {ν:Nat→Addr} {w:World} {b k:Nat} {H:List SB} (hp:aI ρ ν H w) (hb:H[k]?=some {t:=3,aV:=[{r:=b+3,n1:=.var (b+1),s1:=1,ks:=[.int .i64]}],ro:=true,nl:=.var b})
  (h:(ρ.bv b=true→ρ.iv (b+1)=0∧ρ.iv (b+2)=0)∧0≤ρ.iv (b+1)∧ρ.iv (b+1)≤ρ.iv (b+2)∧ρ.iv (b+2)≤9223372036854775807) :
  Rd w (SC.den ρ ν (.eF (.var b) {aD:=k,i1:=.lit 0,s1:=1} (.var (b+1)) (.var (b+2)))) ((List.range (ρ.iv (b+1)).toNat).map fun i=>ρ.ic (b+3) i 0 0):=by
 obtain ⟨h1,h2,h3,h4⟩:=h
 have hlen:((List.range (ρ.iv (b+1)).toNat).map fun i=>ρ.ic (b+3) i 0 0).length=(ρ.iv (b+1)).toNat:=by simp
 have hden:SC.den ρ ν (.eF (.var b) {aD:=k,i1:=.lit 0,s1:=1} (.var (b+1)) (.var (b+2)))=if ρ.bv b=true then .slice none 0 0 else .slice (some (ν k)) (ρ.iv (b+1)).toNat (ρ.iv (b+2)).toNat:=by
  simp [SC.den,BE.den,IE.den,SA.den,SA.off,Addr.add_zero]
 cases hnil:ρ.bv b with
 | true =>
  obtain ⟨z1,z2⟩:=h1 hnil
  refine ⟨none,0,?_,?_,by omega,fun j hj=>?_⟩
  ·rw [hden,hlen,z1,if_pos hnil]
   rfl
  ·rw [hlen,z1]
   decide
  ·rw [hlen,z1] at hj
   exact absurd hj (Nat.not_lt_zero _)
 | false =>
  refine ⟨some (ν k),(ρ.iv (b+2)).toNat,?_,?_,by omega,fun j hj=>⟨ν k,rfl,?_⟩⟩
  ·rw [hden,hlen,hnil,if_neg (by decide)]
  ·rw [hlen]
   omega
  ·rw [hlen] at hj
   obtain ⟨-,cs,hcs,hcell⟩:=hp.rd k _ hb (by simp [SB.dead,BE.den,hnil]) rfl
   have:=hcs.sg 0 _ rfl j 0 0 (by show (j:Int)<ρ.iv (b+1);omega) (by show 0<1;decide) (by show 0<1;decide)
   have h0:=hcell _ _ this
   simp only [Nat.mul_one,Nat.zero_mul,Nat.add_zero] at h0
   rw [h0]
   simp [cu,ae.base,hj]
theorem KH (l:List SB):oW (l.map fun _=>dK)=true:=by
 induction l with
 | nil=>rfl
 | cons x r ih=>simpa [oW,dK] using ih
def xm:List SB:=iC 36 ma 0
structure sD (w:World) (ν:Nat→Addr):Prop where
 hp:∃ρ,aI ρ ν xm w
 gl:iB ν (dS ma 0)
def qa (k:Nat):Nat:=if k<2 then k else k+4
theorem YH:(List.range gX.length).map (fun j=>xm[qa j]?)=gX.map fun sb=>some (sb.aU id qa):=by kernel_rfl
theorem V5:∀i j,i<gX.length→j<gX.length→qa i=qa j→i=j:=by
 intro i j _ _ h
 unfold qa at h
 split at h <;> split at h <;> omega
theorem aaa (ν:Nat→Addr) (h:iB ν (dS ma 0)):iB (fun k=>ν (qa k)) (dS yV 0):=by
 have hm:∀g k,assoc g (dS yV 0)=some k→assoc g (dS ma 0)=some (qa k):=fun g k hk=>by
  have hmem:=iU hk
  have:∀x∈dS yV 0,assoc x.1 (dS ma 0)=some (qa x.2):=by decide
  exact this _ hmem
 exact ⟨fun g k hg hk=>h.at_ g _ hg (hm g k hk),fun g g' k k' h1 h2 h3 h4=>h.ne g g' _ _ h1 h2 (hm _ _ h3) (hm _ _ h4)⟩
theorem sD.sn {w:World} {ν:Nat→Addr} (h:sD w ν):kU w fun k=>ν (qa k):=by
 obtain ⟨⟨ρ,h1⟩,h2⟩:=h
 exact ⟨⟨ρ.pull id,h1.sub YH V5⟩,aaa ν h2⟩
theorem sD.lt {w:World} {ν:Nat→Addr} (h:sD w ν) {k:Nat} (hk:k<14):(ν k).block<w.heap.size:=by
 obtain ⟨⟨ρ,h1⟩,h2⟩:=h
 have hl:k<xm.length:=hk
 have hd:∀sb∈xm,sb.dead ρ=false:=by
  have hg:(xm.all fun b=>!b.gone && (match b.nl with | .lit false=>true | _=>false))=true:=by kernel_rfl
  intro sb hsb
  have:=List.all_eq_true.1 hg sb hsb
  simp only [Bool.and_eq_true,Bool.not_eq_true'] at this
  obtain ⟨a,b⟩:=this
  unfold SB.dead
  rw [a]
  split at b
  ·rename_i he
   rw [he]
   rfl
  ·cases b
 exact h1.lt (List.getElem?_eq_getElem hl) (hd _ (List.getElem_mem hl))
theorem sD.nw {w w':World} {ν:Nat→Addr} (h:sD w ν) (hn:Nw w w'):sD w' ν:=by
 have hl:=fun k hk=>h.lt (k:=k) hk
 obtain ⟨⟨ρ,h1⟩,h2⟩:=h
 exact ⟨⟨ρ,h1.yG hn.size fun k sb hk _=>hn.block _ (hl k (List.getElem?_eq_some_iff.1 hk).1) id⟩,h2⟩
theorem KI {w:World} {ν:Nat→Addr} (h:sD w ν):Calls Tryz.prog 8 #[] w fun e w'=>e=.returned (.bool true)∧Nw w w':=by
 obtain ⟨⟨ρ,h1⟩,h2⟩:=h
 refine Calls.mono (Oi.run ρ ν w h1 h2 trivial) ?_
 rintro e w' ⟨ρ',aK,hA,rfl,gB,hwr,how,-⟩
 exact ⟨rfl,hwr.os,hwr.tape,hwr.output,hwr.size,fun k hk _=>hwr.block k hk fun h=>rX (by kernel_rfl) h⟩
theorem V6 {f:FuncId} {sh:List (Bool × List FK)} (hf:∃fn,Tryz.prog.funcs[f]?=some fn∧fn.body.isSome=true∧(fn.name == "runtime.NumGoroutine")=false)
  (hrun:∀ρ ν w,aI ρ ν (gQ 36 ma f sh).hp w→sD w ν→yT sh ρ.num→Calls Tryz.prog f ((gQ 36 ma f sh).args.map (·.den ρ ν)).toArray w fun e w'=>e=.returned (.bool true)∧Nw w w') :
  aY Tryz.prog (gQ 36 ma f sh) (yT sh) (wD ma sh):=by
 refine ⟨hf,fun ρ ν w gB hgl hpre=>?_⟩
 have LZ:sD w ν:=by
  refine ⟨⟨ρ,?_⟩,hgl⟩
  have e:∀(k:Nat) (sb:SB),xm[k]?=some sb→(gQ 36 ma f sh).hp[k]?=some sb:=fun k sb hk=>by
   show (xm ++ _)[k]?=some sb
   rw [List.getElem?_append_left (List.getElem?_eq_some_iff.1 hk).1]
   exact hk
  exact ⟨fun i j a b hi hj=>gB.inj i j a b (e i a hi) (e j b hj),fun k sb hk=>gB.aD k sb (e k sb hk),fun k sb hk=>gB.rd k sb (e k sb hk)⟩
 refine (hrun ρ ν w gB LZ hpre).mono ?_
 rintro e w' ⟨rfl,hw⟩
 obtain ⟨N,hN⟩:∃N,N=(gQ 36 ma f sh).nv:=⟨_,rfl⟩
 have hd:∀(j:Nat) (sb:SB),(gQ 36 ma f sh).hp'[j]?=some sb→∀q:Env,sb.dead q=true:=fun j sb hj q=>by
  unfold SB.dead
  rw [wC (KH _) hj]
  rfl
 refine ⟨{ρ with bv:=fun i=>if i=N then true else ρ.bv i},ν,⟨fun _ _=>rfl,fun i hi=>if_neg (by omega),fun _ _=>rfl,fun _ _=>rfl,fun _ _=>rfl,fun _ _=>rfl,fun _ _=>rfl⟩,?_,⟨fun i j a b hi hj da=>?_,fun j sb hj dj=>?_,fun j sb hj dj=>?_⟩,⟨hw.os,hw.tape,hw.output,hw.size,fun k hk _=>hw.block k hk id⟩,fun j sb hj _ dj=>?_,?_⟩
 ·show Ending.returned (.bool true)=.returned (.bool (if (gQ 36 ma f sh).nv=N then true else _))
  rw [if_pos hN.symm]
 ·rw [hd i a hi] at da;cases da
 ·rw [hd j sb hj] at dj;cases dj
 ·rw [hd j sb hj] at dj;cases dj
 ·rw [hd j sb hj] at dj;cases dj
 ·show (if (gQ 36 ma f sh).nv=N then true else _)=true
  rw [if_pos hN.symm]
def Ec:List SB:=iC 36 QX 0
structure Ki (w:World) (ν:Nat→Addr):Prop where
 hp:∃ρ,aI ρ ν Ec w
 gl:iB ν (dS QX 0)
def Ed (k:Nat):Nat:=if k<2 then k else k+4
theorem YI:(List.range gX.length).map (fun j=>Ec[Ed j]?)=gX.map fun sb=>some (sb.aU id Ed):=by kernel_rfl
theorem V7:∀i j,i<gX.length→j<gX.length→Ed i=Ed j→i=j:=by
 intro i j _ _ h
 unfold Ed at h
 split at h <;> split at h <;> omega
theorem aab (ν:Nat→Addr) (h:iB ν (dS QX 0)):iB (fun k=>ν (Ed k)) (dS yV 0):=by
 have hm:∀g k,assoc g (dS yV 0)=some k→assoc g (dS QX 0)=some (Ed k):=fun g k hk=>by
  have hmem:=iU hk
  have:∀x∈dS yV 0,assoc x.1 (dS QX 0)=some (Ed x.2):=by decide
  exact this _ hmem
 exact ⟨fun g k hg hk=>h.at_ g _ hg (hm g k hk),fun g g' k k' h1 h2 h3 h4=>h.ne g g' _ _ h1 h2 (hm _ _ h3) (hm _ _ h4)⟩
theorem Ki.sn {w:World} {ν:Nat→Addr} (h:Ki w ν):kU w fun k=>ν (Ed k):=by
 obtain ⟨⟨ρ,h1⟩,h2⟩:=h
 exact ⟨⟨ρ.pull id,h1.sub YI V7⟩,aab ν h2⟩
theorem Ki.lt {w:World} {ν:Nat→Addr} (h:Ki w ν) {k:Nat} (hk:k<12):(ν k).block<w.heap.size:=by
 obtain ⟨⟨ρ,h1⟩,h2⟩:=h
 have hl:k<Ec.length:=hk
 have hd:∀sb∈Ec,sb.dead ρ=false:=by
  have hg:(Ec.all fun b=>!b.gone && (match b.nl with | .lit false=>true | _=>false))=true:=by kernel_rfl
  intro sb hsb
  have:=List.all_eq_true.1 hg sb hsb
  simp only [Bool.and_eq_true,Bool.not_eq_true'] at this
  obtain ⟨a,b⟩:=this
  unfold SB.dead
  rw [a]
  split at b
  ·rename_i he
   rw [he]
   rfl
  ·cases b
 exact h1.lt (List.getElem?_eq_getElem hl) (hd _ (List.getElem_mem hl))
theorem Ki.nw {w w':World} {ν:Nat→Addr} (h:Ki w ν) (hn:Nw w w'):Ki w' ν:=by
 have hl:=fun k hk=>h.lt (k:=k) hk
 obtain ⟨⟨ρ,h1⟩,h2⟩:=h
 exact ⟨⟨ρ,h1.yG hn.size fun k sb hk _=>hn.block _ (hl k (List.getElem?_eq_some_iff.1 hk).1) id⟩,h2⟩
theorem aac {f:FuncId} (hf:∃fn,Tryz.prog.funcs[f]?=some fn∧fn.body.isSome=true∧(fn.name == "runtime.NumGoroutine")=false)
  (h:∀w ν a0 a1 v l,sD w ν→Rd w v l→Calls Tryz.prog f #[.int .i64 a0,.int .i64 a1,v] w fun e w'=>e=.returned (.bool true)∧Nw w w') :
  aY Tryz.prog (gQ 36 ma f [tV,tV,su]) (yT [tV,tV,su]) (wD ma [tV,tV,su]) :=
 V6 hf fun ρ ν w gB hs hpre=>h w ν (ρ.iv 0) (ρ.iv 1) _ _ hs (YG (b:=2) (k:=14) gB rfl (by
   replace hpre:_∧_∧((ρ.bv 2=true→ρ.iv 3=0∧ρ.iv 4=0)∧0≤ρ.iv 3∧ρ.iv 3≤ρ.iv 4∧ρ.iv 4≤9223372036854775807∧_)∧_:=hpre
   obtain ⟨-,-,⟨h1,h2,h3,h4,-⟩,-⟩:=hpre
   exact ⟨h1,h2,h3,h4⟩))
end Go.Proofs.YthomdlajobnmnaaGreatDoor
namespace Go.Proofs.YthomdlajobnmnaaGreatDoor
open Go.RowKit Go.Rex
def IP (n:Nat) (k:Wk):Prop:=∃l t,Pe k l t
theorem QZ:Ae IP where
 rt:=fun n k ⟨l,t,H⟩=>LQ H
 len:=fun n k ⟨l,t,H⟩=>by rw [H.ops];decide
 leave:=fun n w ⟨l,t,H⟩ h0 hj hi=>by
  obtain ⟨x,rfl⟩:=RT.vg (H.rep.step.symm.trans h0)
  have hb:=H.rep.begin H.ok (qJ (k:=2) (by decide))
  obtain ⟨s1,s2,s3,s4⟩:=BZ l 0 (by decide)
  refine ⟨hb.2,(RT.leave l 0).1,(RT.leave l 0).2,hb.1,?_,s4.1.trans H.notes,s4.2.trans H.freed,H.ops,H.said,H.le,.inl ⟨hj,rfl,s1⟩⟩
  have ho:=H.ok
  have q:=RT.rY l 0
  exact ⟨by rw [q.ak];exact ho.ak,by rw [q.me,q.threads];exact ho.me,by rw [q.threads];exact ho.threads,by rw [q.most];exact ho.most⟩
 start:=fun n w ⟨l,t,H⟩ h0 hj hi hl=>by
  obtain ⟨x,rfl⟩:=RT.vg (H.rep.step.symm.trans h0)
  have hl3:w.said.length<3:=by rw [H.ops] at hl;simpa [gF] using hl
  have ho:w.ops.getD w.said.length ⟨0,0,0,0⟩∈gF:=by
   rw [H.ops,List.getD_eq_getElem?_getD,List.getElem?_eq_getElem (by simpa [gF] using hl3)]
   exact List.getElem_mem _
  have hb:=H.rep.begin H.ok (qJ (k:=1) (by decide))
  obtain ⟨s1,s2,s3⟩:=J3 l
  exact ⟨(o7 _ ho).1,hb.2,(RT.begin l (Ca.of 1)).1,(RT.begin l (Ca.of 1)).2,hb.1,by rw [s3];exact H.ok,by rw [s3];exact H.notes,by rw [s3];exact H.freed,H.ops,H.said,H.le,.inr (.inr (.inl ⟨_,rfl,rfl,hl3,ho,s1⟩))⟩
 next:=fun n w j ⟨l,t,H⟩ h0 hj=>by
  obtain ⟨x,rfl⟩:=RT.vg (H.rep.step.symm.trans h0)
  rcases H.st with ⟨hj',-⟩ | ⟨hj',-⟩ | ⟨o,hj',hi,hl,ho,-⟩ | ⟨o,hj',hi,hl,ho,hC⟩
  ·rw [hj] at hj';cases hj'
  ·rw [hj] at hj';cases hj'
  ·obtain rfl:j=Jb.new o:=Option.some.inj (hj.symm.trans hj')
   refine ⟨show (-1000000000000:Int)≤0∧(0:Int)≤1000000000000 by decide,.inr ?_⟩
   have hn:(Jb.new o).next w.r.bK=({Jb.new o with at':=1},Ca.of 6):=by
    unfold Jb.next
    rw [if_neg (show ¬(Jb.new o).op.kind=1 from (o7 o ho).2)]
    rfl
   have hb:=H.rep.begin H.ok (qJ (k:=6) (by decide))
   obtain ⟨s1,s2,s3⟩:=LK l
   rw [hn]
   exact ⟨show (6:Int)≠12 by decide,qJ (k:=6) (by decide),hb.2,(RT.begin l (Ca.of 6)).1,(RT.begin l (Ca.of 6)).2,hb.1,by rw [s3];exact H.ok,by rw [s3];exact H.notes,by rw [s3];exact H.freed,H.ops,H.said,H.le,.inr (.inr (.inr ⟨o,rfl,hi,hl,ho,s1⟩))⟩
  ·obtain rfl:j={Jb.new o with at':=1}:=Option.some.inj (hj.symm.trans hj')
   refine ⟨show (-1000000000000:Int)≤0∧(0:Int)≤1000000000000 by decide,.inl ?_⟩
   have hx:x.word=Wd.zero:=by
    rcases hC with ⟨b,e⟩ | e | ⟨-,e⟩ | ⟨-,f,v,-,e⟩ <;> cases e
    rfl
   have LM:w.r.bK=x:=H.rep.more
   have hn:∃j,({Jb.new o with at':=1}:Jb).next w.r.bK=(j,{Ca.of 12 with code:=2,val:=0}):=by
    refine ⟨(({({Jb.new o with at':=1}:Jb) with top:=x.word}:Jb).fin 2 0).1,?_⟩
    unfold Jb.next
    rw [if_neg (show ¬({Jb.new o with at':=1}:Jb).op.kind=1 from (o7 o ho).2),LM]
    show (if x.word.slot=0 then _ else _)=_
    rw [if_pos (by rw [hx];rfl)]
    rfl
   obtain ⟨j,hn⟩:=hn
   rw [hn]
   refine ⟨rfl,by rw [H.ops];exact hl,l,.idle x,H.rep,H.ok,H.notes,H.freed,H.ops,?_,by rw [List.length_append];exact hl,.inr (.inl ⟨rfl,hi,x,rfl⟩)⟩
   show w.said ++ [((2:Int),(0:Int))]=List.replicate (w.said ++ [_]).length (2,0)
   rw [List.length_append,List.length_singleton,List.replicate_succ',←H.said]
theorem Ee {w:Wk} {l:Lo} {t:RT} {p:PS} (H:Pe w l t) (hB:kC p):IP 200 w∧p.OK∧∀w',w.go 200=(w',none)→w'.r.step≠0∧∃p' x,p.act w'.r.acc=(p',some x)∧mq w'.r x∧(w'.r.bG x).2=true:=by
 refine ⟨⟨l,t,H⟩,hB.ok,fun w' e=>?_⟩
 have key:∀w1 l1 t1,Pe w1 l1 t1→t1.eH≠0→w1=w'→w'.r.step≠0∧∃p' x,p.act w'.r.acc=(p',some x)∧mq w'.r x∧(w'.r.bG x).2=true:=by
  rintro w1 l1 t1 H1 h0 rfl
  obtain ⟨p',x,a1,a2⟩:=H1.bK hB h0
  have hf:t1.fits l1:=by
   rcases H1.st with ⟨-,-,hs⟩ | ⟨-,-,x,rfl⟩ | ⟨o,-,-,-,-,hs⟩ | ⟨o,-,-,-,-,hs⟩
   ·rcases hs with ⟨x,rfl⟩ | ⟨s,rfl⟩ | ⟨i,-,rfl⟩ <;> trivial
   ·exact absurd rfl h0
   ·rcases hs with ⟨x,rfl⟩ | rfl | ⟨s,rfl⟩ <;> trivial
   ·rcases hs with ⟨x,rfl⟩ | rfl | ⟨hd,rfl⟩ | ⟨-,f,v,-,rfl⟩
    ·trivial
    ·exact ⟨by decide,by decide⟩
    ·exact hd
    ·exact ⟨by decide,by decide⟩
  exact ⟨by rw [H1.rep.step];exact h0,p',x,a1,VP H1 h0 a2,(H1.rep.bG H1.ok hf h0 x).2⟩
 by_cases h0:t.eH=0
 ·have hr:w.rem<200:=by
   unfold Wk.rem
   split
   ·split <;> omega
   ·split <;> omega
  obtain ⟨w1,l1,t1,b,e',g1,g2⟩:=N7 200 w l t H hr h0
  rw [e] at e'
  simp only [Prod.mk.injEq] at e'
  rcases g2 with ⟨q,-⟩ | ⟨-,h1,-⟩
  ·rw [q] at e';cases e'.2
  ·exact key w1 l1 t1 g1 h1 e'.1.symm
 ·refine key w l t H h0 ?_
  have:w.go 200=(w,none):=by
   show (if w.r.step≠0 then _ else _)=_
   rw [if_pos (by rw [H.rep.step];exact h0)]
  rw [this] at e
  exact congrArg Prod.fst e
end Go.Proofs.YthomdlajobnmnaaGreatDoor
namespace Go.Proofs.YthomdlajobnmnaaGreatDoor
open Go.Rex
structure Wb (k:Int) (w:Wd):Prop where
 s:-2000≤w.slot∧w.slot≤2000
 g:-k≤w.gen∧w.gen≤k
 t:-(2000 * k+3000)≤w.tag∧w.tag≤2000 * k+3000
 n:-(2000 * k+3000)≤w.num∧w.num≤2000 * k+3000
theorem Wb.mono {k k':Int} {w:Wd} (h:Wb k w) (hk:k≤k'):Wb k' w:=by
 obtain ⟨h1,h2,h3,h4⟩:=h
 exact ⟨h1,by omega,by omega,by omega⟩
theorem Wb.zero {k:Int} (h:0≤k):Wb k Wd.zero:=by
 refine ⟨?_,?_,?_,?_⟩ <;> simp [Wd.zero] <;> omega
theorem Wb.num {k n:Int} (h:0≤k) (hn:-(2000 * k+3000)≤n∧n≤2000 * k+3000):Wb k (Wd.eQ n):=by
 refine ⟨?_,?_,?_,hn⟩ <;> simp [Wd.eQ] <;> omega
theorem Wb.ref {k:Int} {w:Wd} (h0:0≤k) (h:Wb k w):Wb k w.gI:=by
 obtain ⟨h1,h2,h3,h4⟩:=h
 refine ⟨h1,h2,?_,?_⟩ <;> simp [Wd.gI] <;> omega
structure PS.wb (k:Int) (p:PS):Prop where
 bd:∀i,Wb k (p.bd i)
 cell:∀i j,Wb k (p.cell i j)
theorem PS.wb.mono {k k':Int} {p:PS} (h:p.wb k) (hk:k≤k'):p.wb k':=⟨fun i=>(h.bd i).mono hk,fun i j=>(h.cell i j).mono hk⟩
theorem PS.wb.at {k:Int} {p:PS} (h:p.wb k) (s f:Int):Wb k (p.at s f):=by
 unfold PS.at
 split
 ·exact h.bd _
 ·exact h.cell _ _
theorem PS.wb.put {k:Int} {p:PS} (h:p.wb k) {s f:Int} {w:Wd} (hw:Wb k w):(p.put s f w).wb k:=by
 unfold PS.put
 split
 ·refine ⟨fun i=>?_,h.cell⟩
  show Wb k (if i=f.toNat then w else p.bd i)
  split
  ·exact hw
  ·exact h.bd i
 ·refine ⟨h.bd,fun i j=>?_⟩
  show Wb k (if i=(s-1).toNat∧j=f.toNat then w else p.cell i j)
  split
  ·exact hw
  ·exact h.cell i j
theorem PS.wb.act {k:Int} {p:PS} {a:Ac} (h0:0≤k) (h:p.wb k) (hok:p.OK) (hs:p.steps≤k) (ha:Wb (k+1) a.new):(p.act a).1.wb (k+1)∧∀x,(p.act a).2=some x→Wb (k+1) x.word:=by
 have h':p.wb (k+1):=h.mono (by omega)
 have hz:Wb (k+1) Wd.zero:=Wb.zero (by omega)
 unfold PS.act
 by_cases hv:p.valid a
 ·rw [if_pos hv]
  by_cases hr:p.right a
  ·rw [if_pos hr]
   have q:(PS.wb (k+1) {p with steps:=p.steps+1}):=⟨h'.bd,h'.cell⟩
   suffices hm:(PS.makes {p with steps:=p.steps+1} a).1.wb (k+1)∧Wb (k+1) (PS.makes {p with steps:=p.steps+1} a).2.word from ⟨hm.1,fun x hx=>by cases hx;exact hm.2⟩
   unfold PS.makes
   split
   ·unfold PS.alloc
    split
    ·exact ⟨q,hz⟩
    ·rename_i hnf
     have abb:¬p.nf=0:=hnf
     have abd:=hok.nf
     have hfr:=hok.fr (p.nf-1).toNat (by omega)
     have hg:=hok.gen (p.fr (p.nf-1).toNat-1).toNat
     have hmd:=hok.made
     have hns:=hok.ns
     refine ⟨⟨h'.bd,fun i j=>?_⟩,?_⟩
     ·show Wb (k+1) (if i=(p.fr (p.nf-1).toNat-1).toNat∧j<10 then pR a.new.num j else p.cell i j)
      split
      ·unfold pR
       split
       ·exact ⟨hz.s,hz.g,hz.t,ha.n⟩
       ·exact hz
      ·exact h'.cell i j
     ·refine ⟨?_,?_,?_,?_⟩
      ·show -2000≤p.fr (p.nf-1).toNat∧p.fr (p.nf-1).toNat≤2000
       omega
      ·show -(k+1)≤p.gen (p.fr (p.nf-1).toNat-1).toNat+1∧p.gen (p.fr (p.nf-1).toNat-1).toNat+1≤k+1
       omega
      ·show -(2000 * (k+1)+3000)≤0∧0≤2000 * (k+1)+3000
       omega
      ·show -(2000 * (k+1)+3000)≤0∧0≤2000 * (k+1)+3000
       omega
   split
   ·exact ⟨⟨h'.bd,h'.cell⟩,hz⟩
   split
   ·exact ⟨q,q.at _ _⟩
   split
   ·exact ⟨q.put ha,hz⟩
   split
   ·exact ⟨q.put ha,q.at _ _⟩
   ·exact ⟨q,q.at _ _⟩
  ·rw [if_neg hr]
   refine ⟨⟨h'.bd,h'.cell⟩,fun x hx=>?_⟩
   cases hx
   unfold eX
   split
   ·exact ⟨hz.s,hz.g,hz.t,by show -(2000 * (k+1)+3000)≤-1∧(-1:Int)≤2000 * (k+1)+3000;omega⟩
   ·exact hz
 ·rw [if_neg hv]
  exact ⟨h',fun x hx=>by cases hx⟩
def RT.wb (k:Int):RT→Prop
 | .idle x=>Wb k x.word
 | .one a=>Wb (k+1) a.new
 | .fin a=>Wb (k+1) a.new
 | .jh _ w=>Wb k w
 | .iQ _ a=>Wb (k+1) a.new
 | .mJ old=>Wb k old
 | .mi old _=>Wb k old
 | .nk c=>Wb k c
 | .iR c _=>Wb k c
 | .ql c=>Wb k c
 | _=>True
structure Lo.wb (k:Int) (l:Lo):Prop where
 h:∀i,Wb k (l.h i)
 lo:-(2000 * k+3000)≤l.s.low∧l.s.low≤2000 * k+3000
 hi:-(2000 * k+3000)≤l.s.high∧l.s.high≤2000 * k+3000
structure uo (k:Int) (q:LR):Prop where
 l:q.1.wb k
 t:q.2.wb k
section
variable {k:Int} {l:Lo}
theorem Lo.wb.mono {k':Int} (h:l.wb k) (hk:k≤k'):l.wb k':=⟨fun i=>(h.h i).mono hk,by have:=h.lo;omega,by have:=h.hi;omega⟩
theorem Lo.wb.hold (h:l.wb k) {w:Wd} (hw:Wb k w) (n:Int):(l.hold n w).wb k:=by
 refine ⟨fun i=>?_,h.lo,h.hi⟩
 show Wb k (if i=n.toNat then w else l.h i)
 split
 ·exact hw
 ·exact h.h i
theorem fE {c:Prop} [Decidable c] {a b:LR} (h1:c→uo k a) (h2:¬c→uo k b):uo k (if c then a else b):=by
 split
 ·exact h1 (by assumption)
 ·exact h2 (by assumption)
theorem L6 (h0:0≤k) {s:Sp} (h1:-(2000 * k+3000)≤s.low∧s.low≤2000 * k+3000) (h2:-(2000 * k+3000)≤s.high∧s.high≤2000 * k+3000):Wb k (RS.wF s):=by
 unfold RS.wF
 split
 ·refine ⟨?_,?_,h2,h1⟩
  ·show (-2000:Int)≤0∧(0:Int)≤2000
   exact ⟨by decide,by decide⟩
  ·show -k≤0∧0≤k
   omega
 ·exact Wb.zero h0
theorem Kj (h0:0≤k) (h:l.wb k) (n:Int):uo k (RT.leave l n):=by
 have hz:∀{k:Int},0≤k→Wb k Wd.zero:=Wb.zero
 unfold RT.leave
 refine fE (fun _=>⟨⟨h.h,by show -(2000 * k+3000)≤0∧0≤2000 * k+3000;omega,by show -(2000 * k+3000)≤0∧0≤2000 * k+3000;omega⟩,?_⟩) fun _=>fE (fun _=>?_) fun _=>⟨h,hz h0⟩
 ·exact hz (by omega)
 ·split
  ·exact ⟨h.hold (hz h0) _,trivial⟩
  ·exact ⟨h,hz h0⟩
theorem L8 (h0:0≤k) (h:l.wb k):uo k (RT.scan l):=by
 unfold RT.scan
 exact fE (fun _=>⟨h,Wb.zero h0⟩) fun _=>fE (fun _=>⟨h,trivial⟩) fun _=>⟨h,Wb.zero h0⟩
theorem Ch (h0:0≤k) (h:l.wb k):uo k (RT.dH l):=by
 unfold RT.dH
 exact fE (fun _=>L8 h0 h) fun _=>⟨h,Wb.zero h0⟩
theorem Q0 (h0:0≤k) (h:l.wb k) {w:Wd} (hw:Wb k w):uo k (RT.fJ l w):=by
 unfold RT.fJ
 exact fE (fun _=>Ch h0 ⟨h.h,h.lo,h.hi⟩) fun _=>fE (fun _=>⟨h,hw⟩) fun _=>fE (fun _=>⟨h,hw⟩) fun _=>⟨h,Wb.zero h0⟩
theorem TE (h0:0≤k) (h:l.wb k) {c:Ca} (hn:Wb (k+1) c.new) (ho:Wb k c.old):uo k (RT.begin l c):=by
 have hz:∀{k:Int},0≤k→Wb k Wd.zero:=Wb.zero
 unfold RT.begin
 refine fE (fun _=>fE (fun _=>⟨h,trivial⟩) fun _=>⟨h,hz h0⟩) fun _=>fE (fun _=>Kj h0 h 0) fun _=>fE (fun _=>⟨h,?_⟩) fun _=>fE (fun _=>⟨h,hn⟩) fun _=>fE (fun _=>⟨h,hn⟩) fun _=>fE (fun _=>⟨h,trivial⟩) fun _ =>
  fE (fun _=>fE (fun _=>⟨h.hold (h.h _) _,(h.h _).mono (by omega)⟩) fun _=>⟨h,hz h0⟩) fun _=>fE (fun _=>fE (fun _=>⟨h,trivial⟩) fun _=>⟨h,?_⟩) fun _=>fE (fun _=>⟨h,?_⟩) fun _=>fE (fun _=>Q0 h0 h ho) fun _=>L8 h0 h
 ·exact hz (by omega)
 ·exact hz (by omega)
 ·exact hz (by omega)
theorem Ff (h0:0≤k) (h:l.wb k) (r:List Nt):uo k (RT.ed l r):=by
 cases r
 ·exact ⟨h,Wb.zero h0⟩
 ·exact ⟨h,trivial⟩
theorem V8 (h0:0≤k) (h:l.wb k) {t:RT} (ht:t.wb k) {x:Rp} (hx:Wb (k+1) x.word):uo (k+1) (RT.bG l t x):=by
 have h':l.wb (k+1):=h.mono (by omega)
 have hz:∀{k:Int},0≤k→Wb k Wd.zero:=Wb.zero
 have hz1:Wb (k+1) Wd.zero:=hz (by omega)
 have xn:-(2000 * (k+1)+3000)≤x.word.num∧x.word.num≤2000 * (k+1)+3000:=hx.n
 have hs:Wb (k+1) (Wd.eQ x.word.num):=Wb.num (by omega) xn
 cases t with
 | idle y=>exact ⟨h',Wb.mono ht (by omega)⟩
 | one a=>exact ⟨h',hx⟩
 | fin a=>exact ⟨h',hz1⟩
 | rU=>exact ⟨⟨h'.h,xn,xn⟩,(L6 (k:=k+1) (s:=⟨true,x.word.num,x.word.num⟩) (by omega) xn xn).mono (by omega)⟩
 | jE i=>exact Kj (by omega) h' _
 | gW c =>
  exact fE (fun _=>⟨h',hx⟩) fun _=>fE (fun _=>⟨h'.hold (hx.ref (by omega)) _,(hx.ref (by omega):Wb (k+1) _).mono (by omega)⟩) fun _=>⟨h',hx⟩
 | jh c w =>
  refine fE (fun _=>⟨h',Wb.mono ht (by omega)⟩) fun _=>fE (fun _=>⟨h'.hold hs _,hs.mono (by omega)⟩) fun _=>?_
  have hl:-(2000 * (k+1)+3000)≤(if l.s.is=true then l.s.low else x.word.num)∧(if l.s.is=true then l.s.low else x.word.num)≤2000 * (k+1)+3000:=by
   split
   ·exact h'.lo
   ·exact xn
  exact ⟨⟨h'.h,hl,xn⟩,(L6 (k:=k+1) (s:=⟨true,if l.s.is=true then l.s.low else x.word.num,x.word.num⟩) (by omega) hl xn).mono (by omega)⟩
 | iQ c a=>exact ⟨h',trivial⟩
 | BK=>exact ⟨h',hs.mono (by omega)⟩
 | mJ old=>exact ⟨h',Wb.mono ht (by omega)⟩
 | mi old b=>exact fE (fun _=>⟨⟨h'.h,h'.lo,h'.hi⟩,hx⟩) fun _=>Ch (by omega) ⟨h'.h,h'.lo,h'.hi⟩
 | nk c=>exact Ch (by omega) h'
 | qh=>exact ⟨h',hx⟩
 | iR c seen =>
  exact fE (fun _=>⟨h',Wb.mono ht (by omega)⟩) fun _=>fE (fun _=>Ff (by omega) h' _) fun _=>fE (fun _=>⟨h',Wb.mono ht (by omega)⟩) fun _=>⟨h',trivial⟩
 | ql c=>exact ⟨h',trivial⟩
 | ja=>exact Ff (by omega) h' _
 | kY d r=>exact Ff (l:={l with notes:=l.notes.erase d,freed:=l.freed+1}) (by omega) ⟨h'.h,h'.lo,h'.hi⟩ r
theorem Yj (h0:0≤k) {t:RT} (ht:t.wb k) (h:l.wb k):Wb (k+1) (t.acc l).new:=by
 have hz:Wb (k+1) Wd.zero:=Wb.zero (by omega)
 have eu:∀{c:Wd},Wb k c→Wb (k+1) ⟨0,0,c.tag+1,c.num+1,false⟩:=fun {c} hc=>by
  obtain ⟨a,b,d,e⟩:=hc
  refine ⟨⟨by show (-2000:Int)≤0;decide,by show (0:Int)≤2000;decide⟩,?_,?_,?_⟩
  ·show -(k+1)≤0∧0≤k+1
   omega
  ·show -(2000 * (k+1)+3000)≤c.tag+1∧c.tag+1≤2000 * (k+1)+3000
   omega
  ·show -(2000 * (k+1)+3000)≤c.num+1∧c.num+1≤2000 * (k+1)+3000
   omega
 cases t with
 | one a=>exact ht
 | fin a=>exact ht
 | iQ c a=>exact ht
 | nk c=>exact eu ht
 | ql c=>exact eu ht
 | _=>exact hz
end
end Go.Proofs.YthomdlajobnmnaaGreatDoor
namespace Go.Proofs.YthomdlajobnmnaaGreatDoor
open Go.Rex
theorem gM {q:Prop} [Decidable q] {l:Lo} {a b:LR} (h1:a.1.freed=l.freed) (h2:b.1.freed=l.freed):(if q then a else b).1.freed=l.freed:=by
 by_cases h:q
 ·rw [if_pos h];exact h1
 ·rw [if_neg h];exact h2
theorem AA (l:Lo) (k:Int):(RT.leave l k).1.freed=l.freed:=by
 refine gM rfl (gM ?_ rfl)
 cases RS.first l.h k.toNat (9-k.toNat) <;> rfl
theorem Ef (l:Lo):(RT.scan l).1.freed=l.freed:=gM rfl (gM rfl rfl)
theorem uq (l:Lo):(RT.dH l).1.freed=l.freed:=gM (Ef l) rfl
theorem KJ (l:Lo) (c:Ca):(RT.begin l c).1.freed=l.freed :=
 gM (gM rfl rfl)<|gM (AA l 0)<|gM rfl<|gM rfl<|gM rfl<|gM rfl<|gM (gM rfl rfl)<|gM (gM rfl rfl)<|gM rfl<|gM (gM (uq _)<|gM rfl<|gM rfl rfl) (Ef l)
theorem xq (l:Lo) (r:List Nt):(RT.ed l r).1.freed=l.freed:=by cases r <;> rfl
theorem Om (l:Lo) (t:RT) (x:Rp):l.freed≤(RT.bG l t x).1.freed∧(RT.bG l t x).1.freed≤l.freed+1:=by
 have e:∀{a:LR},a.1.freed=l.freed→l.freed≤a.1.freed∧a.1.freed≤l.freed+1:=fun h=>by omega
 cases t with
 | jE i=>exact e (AA l _)
 | gW c=>exact e (gM rfl (gM rfl rfl))
 | jh c w=>exact e (gM rfl (gM rfl rfl))
 | mi old b=>exact e (gM rfl (uq _))
 | nk _=>exact e (uq l)
 | iR ck seen=>exact e (gM rfl (gM (xq _ _) (gM rfl rfl)))
 | ja=>exact e (xq _ _)
 | kY d r =>
  have:=xq {l with notes:=l.notes.erase d,freed:=l.freed+1} r
  show l.freed≤(RT.ed _ _).1.freed∧(RT.ed _ _).1.freed≤l.freed+1
  rw [this]
  show l.freed≤l.freed+1∧l.freed+1≤l.freed+1
  omega
 | _=>exact e rfl
theorem gN {q:Prop} [Decidable q] {n:Nat} {a b:LR} (h1:a.1.notes.length≤n) (h2:b.1.notes.length≤n):(if q then a else b).1.notes.length≤n:=by
 by_cases h:q
 ·rw [if_pos h];exact h1
 ·rw [if_neg h];exact h2
theorem Kk {n:Nat} (l:Lo) (k:Int) (h:l.notes.length≤n):(RT.leave l k).1.notes.length≤n:=by
 refine gN h (gN ?_ h)
 cases RS.first l.h k.toNat (9-k.toNat) <;> exact h
theorem L9 {n:Nat} (l:Lo) (h:l.notes.length≤n):(RT.scan l).1.notes.length≤n:=gN h (gN h h)
theorem Ci {n:Nat} (l:Lo) (h:l.notes.length≤n):(RT.dH l).1.notes.length≤n:=gN (L9 l h) h
theorem Fg {n:Nat} (l:Lo) (w:Wd) (b d:Int) (h:l.notes.length≤n):(RT.note l w b d).notes.length≤n+1:=by
 show (l.notes ++ [_]).length≤n+1
 rw [List.length_append]
 exact Nat.succ_le_succ h
theorem TF {n:Nat} (l:Lo) (c:Ca) (h:l.notes.length≤n):(RT.begin l c).1.notes.length≤n+1:=by
 have h':l.notes.length≤n+1:=Nat.le_succ_of_le h
 exact gN (gN h' h')<|gN (Kk l 0 h')<|gN h'<|gN h'<|gN h'<|gN h'<|gN (gN h' h')<|gN (gN h' h')<|gN h'<|gN (gN (Ci _ (Fg _ _ _ _ h))<|gN h'<|gN h' h') (L9 l h')
theorem Fh {n:Nat} (l:Lo) (r:List Nt) (h:l.notes.length≤n):(RT.ed l r).1.notes.length≤n:=by cases r <;> exact h
theorem V9 {n:Nat} (l:Lo) (t:RT) (x:Rp) (h:l.notes.length≤n):(RT.bG l t x).1.notes.length≤n+1:=by
 have h':l.notes.length≤n+1:=Nat.le_succ_of_le h
 cases t with
 | jE i=>exact Kk l _ h'
 | gW c=>exact gN h' (gN h' h')
 | jh c w=>exact gN h' (gN h' h')
 | mi old b=>exact gN (Fg _ _ _ _ h) (Ci _ (Fg _ _ _ _ h))
 | nk _=>exact Ci l h'
 | iR ck seen=>exact gN h' (gN (Fh _ _ h') (gN h' h'))
 | ja=>exact Fh _ _ h'
 | kY d r=>exact Fh (n:=n+1) {l with notes:=l.notes.erase d,freed:=l.freed+1} r (Nat.le_trans (List.length_erase_le ..) h')
 | _=>exact h'
def RT.mr (l:Lo):RT→Prop
 | .jE i=>0≤i∧i≤8
 | .gW c=>0≤c.i∧c.i<9
 | .jh c _=>l.bL∧0≤c.i∧c.i<9
 | .iQ c _=>0≤c.i∧c.i<9
 | .qh | .ql _ | .ja=>l.ak=4
 | .iR _ seen=>l.ak≠1∧seen.length≤60
 | .kY d r=>(d :: r).Sublist l.notes
 | _=>True
theorem RT.mr.fits {l:Lo} {t:RT} (h:t.mr l):t.fits l:=by
 cases t <;> first | trivial | exact h | exact h.1
theorem fF {c:Prop} [Decidable c] {a b:LR} (h1:c→a.2.mr a.1) (h2:¬c→b.2.mr b.1):(if c then a else b).2.mr (if c then a else b).1:=by
 by_cases h:c
 ·rw [if_pos h];exact h1 h
 ·rw [if_neg h];exact h2 h
theorem Eg (l:Lo) (k:Int) (h:0≤k∧k≤9):(RT.leave l k).2.mr (RT.leave l k).1:=by
 refine fF (fun _=>trivial) fun _=>fF (fun _=>?_) fun _=>trivial
 cases hf:RS.first l.h k.toNat (9-k.toNat) with
 | none=>trivial
 | some n =>
  have:=um l.h _ _ _ hf
  show (0:Int)≤n∧(n:Int)≤8
  omega
theorem Gy (l:Lo):(RT.scan l).2.mr (RT.scan l).1 :=
 fF (fun _=>trivial) fun h1=>fF (fun h=>h) fun _=>⟨h1,Nat.zero_le _⟩
theorem xu (l:Lo):(RT.dH l).2.mr (RT.dH l).1:=fF (fun _=>Gy l) fun _=>trivial
theorem Oo {l:Lo} {c:Ca} (hc:c.OK):(RT.begin l c).2.mr (RT.begin l c).1 :=
 fF (fun _=>fF (fun _=>trivial) fun _=>trivial) fun _=>fF (fun _=>Eg l 0 (by decide)) fun _=>fF (fun _=>trivial) fun _=>fF (fun _=>trivial) fun _=>fF (fun _=>trivial) fun _=>fF (fun _=>⟨hc.2.2.1,hc.2.2.2.1⟩) fun _=>fF (fun _=>fF (fun _=>trivial) fun _=>trivial) fun _ =>
  fF (fun _=>fF (fun _=>trivial) fun _=>trivial) fun _=>fF (fun _=>trivial) fun _=>fF (fun _=>fF (fun _=>xu _) fun _=>fF (fun _=>trivial) fun _=>fF (fun _=>trivial) fun _=>trivial) fun _=>Gy l
theorem zy (l:Lo) (r:List Nt) (h:r.Sublist l.notes):(RT.ed l r).2.mr (RT.ed l r).1:=by
 cases r with
 | nil=>trivial
 | cons d r=>exact h
theorem Q3 {l:Lo} {t:RT} (ho:l.OK) (h:t.mr l) (x:Rp):(RT.bG l t x).2.mr (RT.bG l t x).1:=by
 cases t with
 | jE i=>exact Eg l _ (by have h:0≤i∧i≤8:=h;omega)
 | gW c=>exact fF (fun hd=>⟨hd,h⟩) fun _=>fF (fun _=>h) fun _=>trivial
 | jh c w=>exact fF (fun _=>trivial) fun _=>fF (fun _=>h.2) fun _=>h.2
 | iQ c a=>exact h
 | mi old b=>exact fF (fun _=>trivial) fun _=>xu _
 | nk c=>exact xu _
 | qh =>
  have h4:l.ak=4:=h
  exact ⟨fun e=>by
    have e:l.ak=1:=e
    omega,Nat.zero_le _⟩
 | iR ck seen =>
  refine fF (fun hl=>⟨h.1,?_⟩) fun _=>fF (fun _=>zy _ _ List.filter_sublist) fun h4=>?_
  ·have ht:=ho.threads
   have:l.all≤54:=by
    unfold Lo.all
    split <;> omega
   rw [List.length_append,List.length_singleton]
   omega
  ·have h4':l.ak=4:=by omega
   exact fF (fun _=>h4') fun _=>h4'
 | ql c=>exact h
 | ja=>exact zy _ _ List.filter_sublist
 | kY d r =>
  refine zy {l with notes:=l.notes.erase d,freed:=l.freed+1} r ?_
  have:=List.Sublist.erase d (show (d :: r).Sublist l.notes from h)
  rwa [List.erase_cons_head] at this
 | _=>trivial
theorem RT.We (l:Lo) (t:RT) (x:Rp):Sm l (RT.bG l t x).1:=by
 cases t with
 | jE i=>exact RT.rY l _
 | gW c=>exact fC (Sm.refl l) (fC ⟨rfl,rfl,rfl,rfl⟩ (Sm.refl l))
 | jh c w=>exact fC (Sm.refl l) (fC ⟨rfl,rfl,rfl,rfl⟩ ⟨rfl,rfl,rfl,rfl⟩)
 | mi old b=>exact fC ⟨rfl,rfl,rfl,rfl⟩ (RT.LG ..)
 | nk c=>exact RT.JX l
 | iR ck seen=>exact fC (Sm.refl l) (fC (RT.Fb l _) (fC (Sm.refl l) (Sm.refl l)))
 | ja=>exact RT.Fb l _
 | kY d r =>
  have h:=RT.Fb {l with notes:=l.notes.erase d,freed:=l.freed+1} r
  exact ⟨h.ak,h.me,h.threads,h.most⟩
 | rU=>exact ⟨rfl,rfl,rfl,rfl⟩
 | _=>exact Sm.refl l
structure Eh (k:Int) (l:Lo) (t:RT) (p:PS):Prop where
 ok:l.OK
 mr:t.mr l
 UZ:p.OK
 lw:l.wb k
 tw:t.wb k
 pw:p.wb k
 fr:0≤l.freed∧l.freed≤k
 nl:(l.notes.length:Int)≤k
 st:p.steps≤k
 k0:0≤k
theorem RT.wb.mono {k k':Int} {t:RT} (h:t.wb k) (hk:k≤k'):t.wb k':=by
 revert h
 cases t <;> intro h <;> first | exact trivial | exact Wb.mono h (by omega)
theorem Eh.mono {k k':Int} {l:Lo} {t:RT} {p:PS} (h:Eh k l t p) (hk:k≤k'):Eh k' l t p :=
 ⟨h.ok,h.mr,h.UZ,h.lw.mono hk,h.tw.mono hk,h.pw.mono hk,by have:=h.fr;omega,by have:=h.nl;omega,by have:=h.st;omega,by have:=h.k0;omega⟩
theorem yX {p p':PS} {a:Ac} {x:Rp} (h:p.act a=(p',some x)):p'.steps=p.steps+1:=by
 unfold PS.act at h
 split at h
 ·split at h
  ·simp only [Prod.mk.injEq] at h
   rw [←h.1]
   unfold PS.makes
   split
   ·unfold PS.alloc
    split <;> rfl
   split
   ·rfl
   split
   ·rfl
   split
   ·unfold PS.put;split <;> rfl
   split
   ·unfold PS.put;split <;> rfl
   ·rfl
  ·simp only [Prod.mk.injEq] at h
   rw [←h.1]
 ·simp at h
theorem Eh.bG {k:Int} {l:Lo} {t:RT} {p p':PS} {x:Rp} (h:Eh k l t p) (hx:p.act (t.acc l)=(p',some x)):Eh (k+1) (RT.bG l t x).1 (RT.bG l t x).2 p'∧Wb (k+1) x.word:=by
 have ha:=h.pw.act h.k0 h.UZ h.st (Yj h.k0 h.tw h.lw)
 have hok:=h.UZ.act (t.acc l)
 rw [hx] at ha hok
 have hw:=V8 h.k0 h.lw h.tw (ha.2 x rfl)
 have hs:=yX hx
 have hf:=Om l t x
 have hn:((RT.bG l t x).1.notes.length:Int)≤k+1:=by
  have:=V9 (n:=l.notes.length) l t x (Nat.le_refl _)
  have:=h.nl
  omega
 exact ⟨⟨(RT.We l t x).ok h.ok,Q3 h.ok h.mr x,hok,hw.l,hw.t,ha.1,by have:=h.fr;omega,hn,by have:=h.st;omega,by have:=h.k0;omega⟩,ha.2 x rfl⟩
theorem Eh.begin {k:Int} {l:Lo} {y:Rp} {p:PS} {c:Ca} (h:Eh k l (.idle y) p) (hc:c.OK) (hn:Wb (k+1) c.new) (ho:Wb k c.old):Eh (k+1) (RT.begin l c).1 (RT.begin l c).2 p:=by
 have hw:=TE h.k0 h.lw hn ho
 have hf:=KJ l c
 have hnl:((RT.begin l c).1.notes.length:Int)≤k+1:=by
  have:=TF (n:=l.notes.length) l c (Nat.le_refl _)
  have:=h.nl
  omega
 exact ⟨RT.JY h.ok,Oo hc,h.UZ,hw.l.mono (by omega),hw.t.mono (by omega),h.pw.mono (by omega),by have:=h.fr;omega,hnl,by have:=h.st;omega,by have:=h.k0;omega⟩
end Go.Proofs.YthomdlajobnmnaaGreatDoor
namespace Go.Proofs.YthomdlajobnmnaaGreatDoor
open Go.RowKit Go.Rex
theorem Zt (x n:Int) (h:0<n) (hx:0≤x):0≤x.tmod n∧x.tmod n<n:=by
 rw [Int.tmod_eq_emod_of_nonneg hx]
 exact ⟨Int.emod_nonneg _ (by omega),Int.emod_lt_of_pos _ h⟩
theorem Zu (x:Int):0≤IntKind.u64.wrap x:=by
 simp only [IntKind.wrap,IntKind.bits,IntKind.signed]
 exact Int.emod_nonneg _ (by decide)
theorem Zv {x:Int} (h0:0≤x) (h1:x<100000):IntKind.u64.wrap x=x:=by
 simp only [IntKind.wrap,IntKind.bits,IntKind.signed]
 exact Int.emod_eq_of_lt h0 (by omega)
theorem w64 {n:Int} (h0:0≤n) (h1:n<9223372036854775808):wrap64 n=n:=by unfold wrap64;omega
theorem U0 (a k:Int) (h0:0<k) (h1:k≤1000):∃n:Nat,wrap64 (1+wrap64 ((IntKind.u64.wrap a).tmod k))=(n:Int)∧1≤n∧(n:Int)≤k:=by
 have h:=Zt (IntKind.u64.wrap a) k h0 (Zu a)
 have e1:wrap64 ((IntKind.u64.wrap a).tmod k)=(IntKind.u64.wrap a).tmod k:=w64 (by omega) (by omega)
 rw [e1,w64 (by omega) (by omega)]
 exact ⟨(1+(IntKind.u64.wrap a).tmod k).toNat,by omega,by omega,by omega⟩
theorem YJ (x:Int) (n:Nat) (h1:1≤n∧n≤6):∃q:Nat,wrap64 ((IntKind.u64.wrap x).tmod (IntKind.u64.wrap (n:Int)))=(q:Int)∧q<n:=by
 rw [Zv (x:=(n:Int)) (by omega) (by omega)]
 have h:=Zt (IntKind.u64.wrap x) n (by omega) (Zu x)
 rw [w64 (by omega) (by omega)]
 exact ⟨((IntKind.u64.wrap x).tmod n).toNat,by omega,by omega⟩
theorem Q4 {w:Wk} {p:PS} (hend:∀w',w.go 200=(w',none)→w'.r.step≠0∧∃p' x,p.act w'.r.acc=(p',some x)∧mq w'.r x∧(w'.r.bG x).2=true) :
  ((w.step p).2.2=false→(w.step p).2.1=p)∧(w.step p).2.1.steps≤p.steps+1:=by
 unfold Wk.step
 cases hg:w.go 200 with
 | mk w' b =>
  cases b with
  | some b =>
   refine ⟨fun _=>rfl,?_⟩
   show p.steps≤p.steps+1
   omega
  | none =>
   obtain ⟨h0,p',x,ha,-,ht⟩:=hend w' hg
   simp only
   rw [if_neg h0,ha]
   simp only
   refine ⟨fun h=>?_,?_⟩
   ·rw [ht] at h
    cases h
   ·have:=yX ha
    omega
structure uu (n:Nat) (p:PS) (W:Nat→Wk):Prop where
 bare:kC p
 pe:∀i,i<n→∃l t,Pe (W i) l t
theorem uu.step {n i:Nat} {p:PS} {W:Nat→Wk} (h:uu n p W) (hi:i<n):uu n ((W i).step p).2.1 (lS W i ((W i).step p).1)∧((W i).step p).2.1.steps≤p.steps+1:=by
 obtain ⟨l,t,H⟩:=h.pe i hi
 obtain ⟨w',l',t',p',b,e,g1,g2,-⟩:=LP H h.bare
 have hs:=Q4 (Ee H h.bare).2.2
 rw [e] at hs ⊢
 refine ⟨⟨g2,fun j hj=>?_⟩,hs.2⟩
 by_cases hji:j=i
 ·rw [hji,dC];exact ⟨l',t',g1⟩
 ·rw [gq _ _ hji];exact h.pe j hj
structure SE (n k m:Nat) (p:PS) (W:Nat→Wk):Prop where
 all:uu n p W
 few:m≤300
 now:k<n→∃l t,Pe (W k) l t∧wM (W k) l t≤m
 past:∀i,i<k→(W i).idle
 st:p.steps+(m:Int)≤501+300 * ((k:Int)+1)
theorem uu.start {n:Nat} {p:PS} {W:Nat→Wk} (h:uu n p W) (hs:p.steps≤501):SE n 0 300 p W :=
 ⟨h,Nat.le_refl _,fun hk=>by
   obtain ⟨l,t,H⟩:=h.pe 0 hk
   exact ⟨l,t,H,H.bound⟩,fun i hi=>absurd hi (Nat.not_lt_zero _),by omega⟩
theorem Yk {n:Nat} (hn:n≤6):Ends n (SE n) where
 acc:=fun k m p W h hk=>by
  obtain ⟨l,t,H⟩:=h.all.pe k hk
  obtain ⟨a,b,c⟩:=Ee H h.all.bare
  have:=h.st
  exact ⟨IP,QZ,a,b,by omega,c⟩
 step:=fun k m p W h hk=>by
  obtain ⟨l,t,H,hm⟩:=h.now hk
  obtain ⟨w',l',t',p',b,e,g1,g2,g3⟩:=LP H h.all.bare
  have hall:=(h.all.step hk).1
  have hs:=Q4 (Ee H h.all.bare).2.2
  rw [e] at hall hs
  have aad:=h.few
  have hst:=h.st
  have hpast:∀i,i<k→(lS W k w' i).idle:=fun i hi=>by
   rw [gq _ _ (Nat.ne_of_lt hi)]
   exact h.past i hi
  refine ⟨w',p',b,e,?_⟩
  rcases g3 with ⟨rfl,a1,a2⟩ | ⟨rfl,a2⟩
  ·have hp:p'=p:=hs.1 rfl
   subst hp
   exact .inr ⟨rfl,a1,m,hall,aad,fun _=>⟨l',t',by rw [dC];exact g1,by rw [dC];omega⟩,hpast,hst⟩
  ·have hs2:p'.steps≤p.steps+1:=hs.2
   exact .inl ⟨rfl,wM w' l' t',by omega,hall,by omega,fun _=>⟨l',t',by rw [dC];exact g1,by rw [dC];omega⟩,hpast,by omega⟩
 next:=fun k m p W h hk hid=>by
  have hst:=h.st
  refine ⟨300,by decide,h.all,Nat.le_refl _,fun hk1=>?_,fun i hi=>?_,by omega⟩
  ·obtain ⟨l,t,H⟩:=h.all.pe (k+1) hk1
   exact ⟨l,t,H,H.bound⟩
  ·rcases Nat.lt_or_ge i k with h1 | h1
   ·exact h.past i h1
   ·obtain rfl:i=k:=by omega
    exact hid
theorem SE.said {n m:Nat} {p:PS} {W:Nat→Wk} (h:SE n n m p W) {i:Nat} (hi:i<n):(W i).said=[(2,0),(2,0),(2,0)]:=by
 obtain ⟨l,t,H⟩:=h.all.pe i hi
 exact H.end (h.past i hi)
theorem Wh {p0 p:PS} {m:Int} (h:tN p0 85 m) (hm:0≤m∧m≤1024) (ha:p0.act xh=(p,some ⟨Wd.zero,true⟩)):kC p∧p.steps≤1:=by
 obtain ⟨p',hp,he⟩:=Gv h
 rw [ha] at hp
 simp only [Prod.mk.injEq] at hp
 have hpe:p={p0 with steps:=p0.steps+1,bd:=fun b=>if b=24 then ⟨0,0,0,1,false⟩ else p0.bd b}:=hp.1.trans he
 have hok:p.OK:=by
  have:=(h.ok hm ⟨by decide,by decide⟩).act xh
  rw [ha] at this
  exact this
 refine ⟨⟨hok,by rw [hpe];exact h.nb,by rw [hpe];exact h.gL,by rw [hpe];exact h.made,?_,?_⟩,?_⟩
 ·rw [hpe]
  show (if (0:Nat)=24 then (⟨0,0,0,1,false⟩:Wd) else p0.bd 0)=Wd.zero
  rw [if_neg (by decide)]
  exact h.bd 0
 ·rw [hpe]
  rfl
 ·rw [hpe]
  show p0.steps+1≤1
  rw [h.steps]
  decide
theorem TG {E:Int} {n:Nat} {p:PS} (hB:kC p) (hE:1≤E∧E≤5) (hn:1≤n∧n≤6):uu n p fun i=>Wk.new E i n 2 gF :=
 ⟨hB,fun i hi=>by
   obtain ⟨l,H⟩:=Pe.new (ak:=E) (me:=i) (threads:=n) (notes:=2) ⟨hE,⟨by omega,by omega⟩,⟨by omega,by omega⟩,by decide⟩
   exact ⟨l,_,H⟩⟩
end Go.Proofs.YthomdlajobnmnaaGreatDoor
