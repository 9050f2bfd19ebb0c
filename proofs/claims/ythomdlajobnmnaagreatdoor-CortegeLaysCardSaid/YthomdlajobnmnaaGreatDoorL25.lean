/- part 25 of the proof -/
import Derived.Test.YthomdlajobnmnaaGreatDoorChecked
import Derived.WalkKit
import Derived.LaidEql
import Derived.Stop.Asserts
import Derived.RowKitTokens
import Derived.Test.YthomdlajobnmnaaGreatDoorL10
import Derived.Test.YthomdlajobnmnaaGreatDoorL12
import Derived.Test.YthomdlajobnmnaaGreatDoorL17
import Derived.Test.YthomdlajobnmnaaGreatDoorL18
import Derived.Test.YthomdlajobnmnaaGreatDoorL24
namespace Go.Proofs.YthomdlajobnmnaaGreatDoor
open Go.RowKit Go.Extern.Stop Go.Stop Go.Extern
theorem UG (v:Value) (w:World):(Extern.ReflectliteType.typeOf #[.iface 224 v]).run Tryz.prog w=.ok (.iface 188 (.agg #[.pointer (some ⟨8,224,none⟩)])) w:=by kernel_rfl
def Zc:Array Value→Sem Value:=Extern.ReflectliteType.method fun t=>do Extern.Rtype.noPackHeld "Comparable" t;pure (.bool (←typeInfo t).comparable)
theorem KV (w:World):(Zc #[.agg #[.pointer (some ⟨8,224,none⟩)]]).run Tryz.prog w=.ok (.bool true) w:=by kernel_rfl
theorem zT (v:Value) (w:World):(Go.method 361 188 v "Comparable").run Tryz.prog w=.ok (174,v) w:=by kernel_rfl
theorem Zd:(Tryz.prog.info? 224).map (·.comparable)=some true:=by kernel_rfl
theorem Ze:(Tryz.prog.info? 249).map (·.size)=some 1:=by kernel_rfl
theorem Z7 (v:Value) (xT:TypeId) (w:World):(Instr.typeAssert (.iface 161 v) xT 190 true).run Tryz.prog w=.ok (.tuple #[.nilIface,.bool false]) w:=run_typeAssert_lacksB Tryz.underlying190 (by kernel_rfl) (by kernel_rfl) v xT w
theorem OY (v:Value) (xT:TypeId) (w:World):(Instr.typeAssert (.iface 161 v) xT 193 true).run Tryz.prog w=.ok (.tuple #[.iface 161 v,.bool true]) w:=run_typeAssert_hasB Tryz.underlying193 (by kernel_rfl) v xT w
theorem KW (v:Value) (w:World):(Go.method 361 161 v "Unwrap").run Tryz.prog w=.ok (170,v) w:=by kernel_rfl
theorem KX (a:Addr) (b:Addr) (w:World) (h1:w.cell? ⟨a.block,a.off+1,none⟩=some (.iface 224 (.pointer (some b)))) :
  Calls Tryz.prog 31 #[.iface 161 (.pointer (some a)),.iface 224 (.pointer (some b))] w fun e w'=>e=.returned (.bool true)∧w'=w:=by
 obtain ⟨i,hi,hcmp⟩:=Option.map_eq_some_iff.1 Zd
 obtain ⟨j,hj,hjs⟩:=Option.map_eq_some_iff.1 Ze
 have h8:=@run_callFunc_extern Tryz.prog 60 _ Extern.ReflectliteType.typeOf Tryz.func60 (by kernel_rfl) (by kernel_rfl) (by kernel_rfl) (by kernel_rfl)
 have h32:=@run_callFunc_extern Tryz.prog 174 _ Zc Tryz.func174 (by kernel_rfl) (by kernel_rfl) (by kernel_rfl) (by kernel_rfl)
 have tT:=UG
 have cT:=KV
 have mR:=zT
 have nW:=Z7
 have uW:=OY
 have mU:=KW
 have heq:=run_eql_iface_ptr_same (P:=Tryz.prog) w b Tryz.underlying36 Tryz.underlying224 hi hcmp hj
 have hty:=run_eql_iface_types (P:=Tryz.prog) 161 224 (.pointer (some a)) (.pointer (some b)) Tryz.underlying36 (by decide) w
 go_enter Tryz.func31,Tryz.ntmps31
 go_wp2
 refine wp_loop_rounds 2 ?_
 rw [rounds_succ]
 go_wp2
 rw [rounds_succ]
 go_wp2
 go_ret
 exact ⟨rfl,rfl⟩
end Go.Proofs.YthomdlajobnmnaaGreatDoor
set_option linter.unusedSimpArgs false
set_option linter.unusedVariables false
namespace Go.Proofs.YthomdlajobnmnaaGreatDoor
open Go.RowKit Go.Rex
def uy:Bool × List FK:=(false,[.int .i64])
theorem Xr:aV Tryz.prog Zb kE kE:=by
 refine Tv ⟨_,Tryz.func31,by kernel_rfl,by kernel_rfl⟩ rfl (fun ρ ν w gJ _ _=>?_) fun _ _=>trivial
 obtain ⟨-,cs,hcs,hrd⟩:=gJ.rd 0 _ rfl rfl rfl
 have h1:=hrd 1 _ (hcs.ex 1 _ rfl rfl)
 have e0:SA.den ρ ν {aC:=0}=ν 0:=by simp [SA.den,SA.off,IE.den,Addr.add_zero]
 have e1:SA.den ρ ν {aC:=1}=ν 1:=by simp [SA.den,SA.off,IE.den,Addr.add_zero]
 have h2:w.cell? ⟨(ν 0).block,(ν 0).off+1,none⟩=some (.iface 224 (.pointer (some (ν 1)))):=by
  have h1:w.cell? ((ν 0).add 1)=some (.iface 224 (.pointer (some (SA.den ρ ν {aC:=1})))):=h1
  rw [e1] at h1
  exact h1
 have hc:=KX (ν 0) (ν 1) w h2
 show Calls Tryz.prog 31 #[.iface 161 (.pointer (some (SA.den ρ ν {aC:=0}))),.iface 224 (.pointer (some (SA.den ρ ν {aC:=1})))] w _
 rw [e0,e1]
 exact hc
def Rd (w:World) (v:Value) (l:List Int):Prop :=
 ∃A c,v=.slice A l.length c∧l.length≤c∧c≤9223372036854775807∧∀k,k<l.length→∃ad,A=some ad∧w.cell? (ad.add k)=some (.int .i64 (l.getD k 0))
theorem LF (l:List SB):pQ (l.map fun _=>dI)=true:=by
 induction l with
 | nil=>rfl
 | cons x r ih=>simpa [pQ,dI] using ih
def IL:List SB:=ib 36 ssE 0
structure SrE (w:World) (ν:Nat→Addr):Prop where
 hp:∃ρ,aH ρ ν IL w
 gl:iF ν (fB ssE 0)
theorem SrE.lt {w:World} {ν:Nat→Addr} (h:SrE w ν) {k:Nat} (hk:k<14):(ν k).block<w.heap.size:=by
 obtain ⟨⟨ρ,h1⟩,h2⟩:=h
 have hl:k<IL.length:=hk
 have hd:∀sb∈IL,sb.dead ρ=false:=by
  have hg:(IL.all fun b=>!b.gone && (match b.nl with | .lit false=>true | _=>false))=true:=by kernel_rfl
  intro sb hsb
  have:=List.all_eq_true.1 hg sb hsb
  simp only [Bool.and_eq_true,Bool.not_eq_true'] at this
  obtain ⟨a,b⟩:=this
  unfold SB.dead
  rw [a]
  split at b
  ·rename_i he
   rw [he]
   rfl
  ·cases b
 exact h1.lt (List.getElem?_eq_getElem hl) (hd _ (List.getElem_mem hl))
def IM:List SB:=ib 36 ssT 0
structure SrT (w:World) (ν:Nat→Addr):Prop where
 hp:∃ρ,aH ρ ν IM w
 gl:iF ν (fB ssT 0)
theorem SrT.lt {w:World} {ν:Nat→Addr} (h:SrT w ν) {k:Nat} (hk:k<12):(ν k).block<w.heap.size:=by
 obtain ⟨⟨ρ,h1⟩,h2⟩:=h
 have hl:k<IM.length:=hk
 have hd:∀sb∈IM,sb.dead ρ=false:=by
  have hg:(IM.all fun b=>!b.gone && (match b.nl with | .lit false=>true | _=>false))=true:=by kernel_rfl
  intro sb hsb
  have:=List.all_eq_true.1 hg sb hsb
  simp only [Bool.and_eq_true,Bool.not_eq_true'] at this
  obtain ⟨a,b⟩:=this
  unfold SB.dead
  rw [a]
  split at b
  ·rename_i he
   rw [he]
   rfl
  ·cases b
 exact h1.lt (List.getElem?_eq_getElem hl) (hd _ (List.getElem_mem hl))
end Go.Proofs.YthomdlajobnmnaaGreatDoor
namespace Go.Proofs.YthomdlajobnmnaaGreatDoor.Cq
open Go.RowKit Go.Rex
def lT:List (Nat × TypeId × TypeId):=[(0,224,249),(1,224,249),(3,224,249),(4,224,249),(5,224,249),(7,224,249),(6,224,249),(2,224,249)]
def sZ:dJ:={f:=15,nv:=1,gl:=fB lT 0,args:=[],hp:=ib 36 lT 0,iC:=1,ret:=.w (.one (.bool (.lit true))),hp':=List.replicate 16 dI}
def CX:dJ:={f:=18,nv:=1,gl:=fB lT 0,args:=[.one .bI],hp:=ib 36 lT 0,iC:=1,ret:=.w (.one (.iface 224 (.ptr {aC:=3}))),hp':=List.replicate 16 dI}
def tq:dJ:={f:=19,nv:=1,gl:=fB lT 0,args:=[.one .bI],hp:=ib 36 lT 0,iC:=1,ret:=.gY [.one .bH,.one .bH,.one (.iface 224 (.ptr {aC:=3}))],hp':=List.replicate 16 dI}
def nQ:dJ:={f:=49,nv:=1,args:=[.one (iv 0)],hp:=[],iC:=1,ret:=.w (.agg [.int .i64 (.lit 0),.int .i64 (.lit 0),iv 0]),hp':=[]}
end Go.Proofs.YthomdlajobnmnaaGreatDoor.Cq
namespace Go.Proofs.YthomdlajobnmnaaGreatDoor.Cq
open Go.RowKit Go.Rex
noncomputable def M3:Ex:={sched:=sched,loops:=[],cons:=[Zb],fin:=sZ}
def HV:Out :=
 .call 0 {lo:=0,az:=0,iv:=[(0,.lit 8)],bk:=[(1,yb 1),(0,yb 111)]} 1 <|
 .fin {lo:=1,az:=16}
theorem OZ:exec tab M3 8000 [] (dZ sZ.f sZ.nv [] sZ.gl sZ.hp sZ.args)=HV:=by kernel_rfl
theorem O0:aV Tryz.prog sZ kE kE :=
 cK dF (E:=M3) (cs:=[(Zb,kE,kE)]) rfl (fun k pre post h=>by
   cases h with
   | head=>exact ⟨by kernel_rfl,Xr⟩
   | tail _ h=>cases h) bO rfl OZ (by kernel_rfl) (fun ρ _ p hp=>by cases hp) fun ρ _=>by
   unfold HV
   repeat' first
    | refine Sat.new fun _ _=>?_
    | refine Sat.call rfl trivial fun _ _=>?_
    | exact Sat.fin trivial
noncomputable def VY:Ex:={sched:=sched,loops:=[],cons:=[],fin:=CX}
def Xt:Out :=
 .fin {lo:=1,az:=16}
theorem UH:exec tab VY 8000 [] (dZ CX.f CX.nv [] CX.gl CX.hp CX.args)=Xt:=by kernel_rfl
theorem UI:aV Tryz.prog CX kE kE :=
 cK dF (E:=VY) (cs:=[]) rfl (fun k pre post h=>by cases h) bO rfl UH (by kernel_rfl) (fun ρ _ p hp=>by cases hp) (fun ρ _=>Sat.fin trivial)
noncomputable def M4:Ex:={sched:=sched,loops:=[],cons:=[],fin:=tq}
def Ru:Out :=
 .fin {lo:=1,az:=16}
theorem O1:exec tab M4 8000 [] (dZ tq.f tq.nv [] tq.gl tq.hp tq.args)=Ru:=by kernel_rfl
theorem O3:aV Tryz.prog tq kE kE :=
 cK dF (E:=M4) (cs:=[]) rfl (fun k pre post h=>by cases h) bO rfl O1 (by kernel_rfl) (fun ρ _ p hp=>by cases hp) (fun ρ _=>Sat.fin trivial)
def YS:Kn:=[(.bS (.var 0) (.lit 0),false),(.aA (.lit 24) (.var 0),false)]
noncomputable def Rv:Ex:={sched:=sched,loops:=[],cons:=[],fin:=nQ}
def CY:Out :=
 .ob (.inr .i64 (.var 0)) <|
 .fin {lo:=1,az:=0}
theorem Rw:exec tab Rv 8000 [] (dZ nQ.f nQ.nv YS nQ.gl nQ.hp nQ.args)=CY:=by kernel_rfl
def CZ (ρ:Env):Prop:=0≤ρ.iv 0∧ρ.iv 0<24
theorem Rx (ρ:Env) (hpre:CZ ρ.num):Sat kE [] [] ρ CY:=by
 replace hpre:CZ ρ:=hpre
 obtain ⟨a,b⟩:=hpre
 unfold CY
 refine Sat.ob ?_ (Sat.fin trivial)
 simp only [Da];omega
theorem Ry:aV Tryz.prog nQ CZ kE :=
 cK dF (E:=Rv) (cs:=[]) rfl (fun k pre post h=>by cases h) bO rfl Rw (by kernel_rfl) (fun ρ h p hp=>by
   obtain ⟨a,b⟩:=h
   simp only [YS,List.mem_cons,List.not_mem_nil,or_false] at hp
   rcases hp with rfl | rfl
   · exact decide_eq_false (by simp only [IE.den];omega)
   · exact decide_eq_false (by simp only [IE.den];omega)) Rx
theorem ry (w:World) (f:Int) (hf:0≤f∧f<24):Calls Tryz.prog 49 #[.int .i64 f] w fun e w'=>e=.returned (.agg #[.int .i64 0,.int .i64 0,.int .i64 f])∧Nw w w':=by
 refine Calls.mono (Ry.run (Rj fun _=>f) (fun _=>⟨0,0,none⟩) w EH ⟨fun g k _ h=>(by cases h),fun g g' k k' _ _ h=>(by cases h)⟩ hf) ?_
 rintro ev w' ⟨ρ',aI,hA,rfl,gJ,hwr,how,q1⟩
 refine ⟨?_,hwr.os,hwr.tape,hwr.output,hwr.size,fun k hk _=>hwr.block k hk fun h=>mq (by kernel_rfl) h⟩
 show Ending.returned (.agg #[.int .i64 0,.int .i64 0,.int .i64 (ρ'.iv 0)])=_
 rw [hA.iv 0 (by decide)]
 rfl
def xQ:List SB:=ib 36 lT 0
structure qF (w:World) (ν:Nat→Addr):Prop where
 hp:∃ρ,aH ρ ν xQ w
 gl:iF ν (fB lT 0)
def vS (k:Nat):Nat:=if k<2 then k else k+6
theorem Z8:(List.range gX.length).map (fun j=>xQ[vS j]?)=gX.map fun sb=>some (sb.aU id vS):=by kernel_rfl
theorem Xu:∀i j,i<gX.length→j<gX.length→vS i=vS j→i=j:=by
 intro i j _ _ h
 unfold vS at h
 split at h <;> split at h <;> omega
theorem abC (ν:Nat→Addr) (h:iF ν (fB lT 0)):iF (fun k=>ν (vS k)) (fB G9 0):=by
 have hm:∀g k,assoc g (fB G9 0)=some k→assoc g (fB lT 0)=some (vS k):=fun g k hk=>by
  have hmem:=jI hk
  have:∀x∈fB G9 0,assoc x.1 (fB lT 0)=some (vS x.2):=by decide
  exact this _ hmem
 exact ⟨fun g k hg hk=>h.at_ g _ hg (hm g k hk),fun g g' k k' h1 h2 h3 h4=>h.ne g g' _ _ h1 h2 (hm _ _ h3) (hm _ _ h4)⟩
theorem qF.sn {w:World} {ν:Nat→Addr} (h:qF w ν):jA w fun k=>ν (vS k):=by
 obtain ⟨⟨ρ,h1⟩,h2⟩:=h
 exact ⟨⟨ρ.pull id,h1.sub Z8 Xu⟩,abC ν h2⟩
theorem qF.lt {w:World} {ν:Nat→Addr} (h:qF w ν) {k:Nat} (hk:k<16):(ν k).block<w.heap.size:=by
 obtain ⟨⟨ρ,h1⟩,h2⟩:=h
 have hl:k<xQ.length:=hk
 have hd:∀sb∈xQ,sb.dead ρ=false:=by
  have hg:(xQ.all fun b=>!b.gone && (match b.nl with | .lit false=>true | _=>false))=true:=by kernel_rfl
  intro sb hsb
  have:=List.all_eq_true.1 hg sb hsb
  simp only [Bool.and_eq_true,Bool.not_eq_true'] at this
  obtain ⟨a,b⟩:=this
  unfold SB.dead
  rw [a]
  split at b
  ·rename_i he
   rw [he]
   rfl
  ·cases b
 exact h1.lt (List.getElem?_eq_getElem hl) (hd _ (List.getElem_mem hl))
theorem qF.nw {w w':World} {ν:Nat→Addr} (h:qF w ν) (hn:Nw w w'):qF w' ν:=by
 have hl:=fun k hk=>h.lt (k:=k) hk
 obtain ⟨⟨ρ,h1⟩,h2⟩:=h
 exact ⟨⟨ρ,h1.Cj hn.size fun k sb hk _=>hn.block _ (hl k (List.getElem?_eq_some_iff.1 hk).1) id⟩,h2⟩
theorem LG {w:World} {ν:Nat→Addr} (h:qF w ν):Calls Tryz.prog 15 #[] w fun e w'=>e=.returned (.bool true)∧Nw w w':=by
 obtain ⟨⟨ρ,h1⟩,h2⟩:=h
 refine Calls.mono (O0.run ρ ν w h1 h2 trivial) ?_
 rintro e w' ⟨ρ',aI,hA,rfl,gJ,hwr,how,-⟩
 exact ⟨rfl,hwr.os,hwr.tape,hwr.output,hwr.size,fun k hk _=>hwr.block k hk fun h=>mq (by kernel_rfl) h⟩
theorem Xv {f:FuncId} {sh:List (Bool × List FK)} (hf:∃fn,Tryz.prog.funcs[f]?=some fn∧fn.body.isSome=true∧(fn.name == "runtime.NumGoroutine")=false)
  (hrun:∀ρ ν w,aH ρ ν (iy 36 lT f sh).hp w→qF w ν→zB sh ρ.num→Calls Tryz.prog f ((iy 36 lT f sh).args.map (·.den ρ ν)).toArray w fun e w'=>e=.returned (.bool true)∧Nw w w') :
  aV Tryz.prog (iy 36 lT f sh) (zB sh) (xg lT sh):=by
 refine ⟨hf,fun ρ ν w gJ hgl hpre=>?_⟩
 have hsr:qF w ν:=by
  refine ⟨⟨ρ,?_⟩,hgl⟩
  have e:∀(k:Nat) (sb:SB),xQ[k]?=some sb→(iy 36 lT f sh).hp[k]?=some sb:=fun k sb hk=>by
   show (xQ ++ _)[k]?=some sb
   rw [List.getElem?_append_left (List.getElem?_eq_some_iff.1 hk).1]
   exact hk
  exact ⟨fun i j a b hi hj=>gJ.inj i j a b (e i a hi) (e j b hj),fun k sb hk=>gJ.aC k sb (e k sb hk),fun k sb hk=>gJ.rd k sb (e k sb hk)⟩
 refine (hrun ρ ν w gJ hsr hpre).mono ?_
 rintro e w' ⟨rfl,hw⟩
 obtain ⟨N,hN⟩:∃N,N=(iy 36 lT f sh).nv:=⟨_,rfl⟩
 have hd:∀(j:Nat) (sb:SB),(iy 36 lT f sh).hp'[j]?=some sb→∀q:Env,sb.dead q=true:=fun j sb hj q=>by
  unfold SB.dead
  rw [xe (LF _) hj]
  rfl
 refine ⟨{ρ with bv:=fun i=>if i=N then true else ρ.bv i},ν,⟨fun _ _=>rfl,fun i hi=>if_neg (by omega),fun _ _=>rfl,fun _ _=>rfl,fun _ _=>rfl,fun _ _=>rfl,fun _ _=>rfl⟩,?_,⟨fun i j a b hi hj da=>?_,fun j sb hj dj=>?_,fun j sb hj dj=>?_⟩,⟨hw.os,hw.tape,hw.output,hw.size,fun k hk _=>hw.block k hk id⟩,fun j sb hj _ dj=>?_,?_⟩
 ·show Ending.returned (.bool true)=.returned (.bool (if (iy 36 lT f sh).nv=N then true else _))
  rw [if_pos hN.symm]
 ·rw [hd i a hi] at da;cases da
 ·rw [hd j sb hj] at dj;cases dj
 ·rw [hd j sb hj] at dj;cases dj
 ·rw [hd j sb hj] at dj;cases dj
 ·show (if (iy 36 lT f sh).nv=N then true else _)=true
  rw [if_pos hN.symm]
theorem Rz {w:World} {ν:Nat→Addr} (h:qF w ν):Calls Tryz.prog 18 #[.pointer none] w fun e w'=>∃a,e=.returned (.iface 224 (.pointer (some a)))∧Nw w w':=by
 obtain ⟨⟨ρ,h1⟩,h2⟩:=h
 refine Calls.mono (UI.run ρ ν w h1 h2 trivial) ?_
 rintro e w' ⟨ρ',aI,hA,rfl,gJ,hwr,how,-⟩
 exact ⟨_,rfl,hwr.os,hwr.tape,hwr.output,hwr.size,fun k hk _=>hwr.block k hk fun h=>mq (by kernel_rfl) h⟩
theorem Bw {w:World} {ν:Nat→Addr} (h:qF w ν):Calls Tryz.prog 19 #[.pointer none] w fun e w'=>∃a,e=.returned (.tuple #[.slice none 0 0,.slice none 0 0,.iface 224 (.pointer (some a))])∧Nw w w':=by
 obtain ⟨⟨ρ,h1⟩,h2⟩:=h
 refine Calls.mono (O3.run ρ ν w h1 h2 trivial) ?_
 rintro e w' ⟨ρ',aI,hA,rfl,gJ,hwr,how,-⟩
 exact ⟨_,rfl,hwr.os,hwr.tape,hwr.output,hwr.size,fun k hk _=>hwr.block k hk fun h=>mq (by kernel_rfl) h⟩
theorem qF.full {w:World} {ν:Nat→Addr} (h:qF w ν):∃a,w.cell? ⟨3,0,none⟩=some (.iface 224 (.pointer (some a)))∧(ν 4).block=3:=by
 obtain ⟨⟨ρ,h1⟩,h2⟩:=h
 have e:=h2.at_ 3 4 (by decide) (by decide)
 obtain ⟨-,cs,hcs,hrd⟩:=h1.rd 4 _ rfl rfl rfl
 have h3:=hrd 0 _ (hcs.ex 0 _ rfl rfl)
 refine ⟨SA.den ρ ν {aC:=5},?_,by rw [e]⟩
 rw [e] at h3
 exact h3
theorem abD {f:FuncId} (hf:∃fn,Tryz.prog.funcs[f]?=some fn∧fn.body.isSome=true∧(fn.name == "runtime.NumGoroutine")=false)
  (h:∀w ν a0 a1,qF w ν→Calls Tryz.prog f #[.int .i64 a0,.int .i64 a1] w fun e w'=>e=.returned (.bool true)∧Nw w w') :
  aV Tryz.prog (iy 36 lT f [uy,uy]) (zB [uy,uy]) (xg lT [uy,uy]) :=
 Xv hf fun ρ ν w gJ hs hpre=>h w ν (ρ.iv 0) (ρ.iv 1) hs
end Go.Proofs.YthomdlajobnmnaaGreatDoor.Cq
namespace Go.Proofs.YthomdlajobnmnaaGreatDoor
open Go.Rex
structure Wb (k:Int) (w:Wd):Prop where
 s:-2000≤w.slot∧w.slot≤2000
 g:-k≤w.gen∧w.gen≤k
 t:-(2000 * k+3000)≤w.tag∧w.tag≤2000 * k+3000
 n:-(2000 * k+3000)≤w.num∧w.num≤2000 * k+3000
theorem Wb.mono {k k':Int} {w:Wd} (h:Wb k w) (hk:k≤k'):Wb k' w:=by
 obtain ⟨h1,h2,h3,h4⟩:=h
 exact ⟨h1,by omega,by omega,by omega⟩
theorem Wb.zero {k:Int} (h:0≤k):Wb k Wd.zero:=by
 refine ⟨?_,?_,?_,?_⟩ <;> simp [Wd.zero] <;> omega
theorem Wb.num {k n:Int} (h:0≤k) (hn:-(2000 * k+3000)≤n∧n≤2000 * k+3000):Wb k (Wd.fC n):=by
 refine ⟨?_,?_,?_,hn⟩ <;> simp [Wd.fC] <;> omega
theorem Wb.ref {k:Int} {w:Wd} (h0:0≤k) (h:Wb k w):Wb k w.gF:=by
 obtain ⟨h1,h2,h3,h4⟩:=h
 refine ⟨h1,h2,?_,?_⟩ <;> simp [Wd.gF] <;> omega
structure PS.wb (k:Int) (p:PS):Prop where
 bd:∀i,Wb k (p.bd i)
 cell:∀i j,Wb k (p.cell i j)
theorem PS.wb.mono {k k':Int} {p:PS} (h:p.wb k) (hk:k≤k'):p.wb k':=⟨fun i=>(h.bd i).mono hk,fun i j=>(h.cell i j).mono hk⟩
theorem PS.wb.at {k:Int} {p:PS} (h:p.wb k) (s f:Int):Wb k (p.at s f):=by
 unfold PS.at
 split
 ·exact h.bd _
 ·exact h.cell _ _
theorem PS.wb.put {k:Int} {p:PS} (h:p.wb k) {s f:Int} {w:Wd} (hw:Wb k w):(p.put s f w).wb k:=by
 unfold PS.put
 split
 ·refine ⟨fun i=>?_,h.cell⟩
  show Wb k (if i=f.toNat then w else p.bd i)
  split
  ·exact hw
  ·exact h.bd i
 ·refine ⟨h.bd,fun i j=>?_⟩
  show Wb k (if i=(s-1).toNat∧j=f.toNat then w else p.cell i j)
  split
  ·exact hw
  ·exact h.cell i j
theorem PS.wb.act {k:Int} {p:PS} {a:Ac} (h0:0≤k) (h:p.wb k) (hok:p.OK) (hs:p.steps≤k) (ha:Wb (k+1) a.new):(p.act a).1.wb (k+1)∧∀x,(p.act a).2=some x→Wb (k+1) x.word:=by
 have h':p.wb (k+1):=h.mono (by omega)
 have hz:Wb (k+1) Wd.zero:=Wb.zero (by omega)
 unfold PS.act
 by_cases hv:p.valid a
 ·rw [if_pos hv]
  by_cases hr:p.right a
  ·rw [if_pos hr]
   have q:(PS.wb (k+1) {p with steps:=p.steps+1}):=⟨h'.bd,h'.cell⟩
   suffices hm:(PS.makes {p with steps:=p.steps+1} a).1.wb (k+1)∧Wb (k+1) (PS.makes {p with steps:=p.steps+1} a).2.word from ⟨hm.1,fun x hx=>by cases hx;exact hm.2⟩
   unfold PS.makes
   split
   ·unfold PS.alloc
    split
    ·exact ⟨q,hz⟩
    ·rename_i hnf
     have acR:¬p.nf=0:=hnf
     have acS:=hok.nf
     have hfr:=hok.fr (p.nf-1).toNat (by omega)
     have hg:=hok.gen (p.fr (p.nf-1).toNat-1).toNat
     have hmd:=hok.made
     have hns:=hok.ns
     refine ⟨⟨h'.bd,fun i j=>?_⟩,?_⟩
     ·show Wb (k+1) (if i=(p.fr (p.nf-1).toNat-1).toNat∧j<10 then gQ a.new.num j else p.cell i j)
      split
      ·unfold gQ
       split
       ·exact ⟨hz.s,hz.g,hz.t,ha.n⟩
       ·exact hz
      ·exact h'.cell i j
     ·refine ⟨?_,?_,?_,?_⟩
      ·show -2000≤p.fr (p.nf-1).toNat∧p.fr (p.nf-1).toNat≤2000
       omega
      ·show -(k+1)≤p.gen (p.fr (p.nf-1).toNat-1).toNat+1∧p.gen (p.fr (p.nf-1).toNat-1).toNat+1≤k+1
       omega
      ·show -(2000 * (k+1)+3000)≤0∧0≤2000 * (k+1)+3000
       omega
      ·show -(2000 * (k+1)+3000)≤0∧0≤2000 * (k+1)+3000
       omega
   split
   ·exact ⟨⟨h'.bd,h'.cell⟩,hz⟩
   split
   ·exact ⟨q,q.at _ _⟩
   split
   ·exact ⟨q.put ha,hz⟩
   split
   ·exact ⟨q.put ha,q.at _ _⟩
   ·exact ⟨q,q.at _ _⟩
  ·rw [if_neg hr]
   refine ⟨⟨h'.bd,h'.cell⟩,fun x hx=>?_⟩
   cases hx
   unfold fq
   split
   ·exact ⟨hz.s,hz.g,hz.t,by show -(2000 * (k+1)+3000)≤-1∧(-1:Int)≤2000 * (k+1)+3000;omega⟩
   ·exact hz
 ·rw [if_neg hv]
  exact ⟨h',fun x hx=>by cases hx⟩
def RT.wb (k:Int):RT→Prop
 | .idle x=>Wb k x.word
 | .one a=>Wb (k+1) a.new
 | .fin a=>Wb (k+1) a.new
 | .jy _ w=>Wb k w
 | .iN _ a=>Wb (k+1) a.new
 | .nC old=>Wb k old
 | .ng old _=>Wb k old
 | .nO c=>Wb k c
 | .iL c _=>Wb k c
 | .qN c=>Wb k c
 | _=>True
structure Lo.wb (k:Int) (l:Lo):Prop where
 h:∀i,Wb k (l.h i)
 lo:-(2000 * k+3000)≤l.s.low∧l.s.low≤2000 * k+3000
 hi:-(2000 * k+3000)≤l.s.high∧l.s.high≤2000 * k+3000
structure uN (k:Int) (q:LR):Prop where
 l:q.1.wb k
 t:q.2.wb k
section
variable {k:Int} {l:Lo}
theorem Lo.wb.mono {k':Int} (h:l.wb k) (hk:k≤k'):l.wb k':=⟨fun i=>(h.h i).mono hk,by have:=h.lo;omega,by have:=h.hi;omega⟩
theorem Lo.wb.hold (h:l.wb k) {w:Wd} (hw:Wb k w) (n:Int):(l.hold n w).wb k:=by
 refine ⟨fun i=>?_,h.lo,h.hi⟩
 show Wb k (if i=n.toNat then w else l.h i)
 split
 ·exact hw
 ·exact h.h i
theorem fM {c:Prop} [Decidable c] {a b:LR} (h1:c→uN k a) (h2:¬c→uN k b):uN k (if c then a else b):=by
 split
 ·exact h1 (by assumption)
 ·exact h2 (by assumption)
theorem M5 (h0:0≤k) {s:Sp} (h1:-(2000 * k+3000)≤s.low∧s.low≤2000 * k+3000) (h2:-(2000 * k+3000)≤s.high∧s.high≤2000 * k+3000):Wb k (RS.qY s):=by
 unfold RS.qY
 split
 ·refine ⟨?_,?_,h2,h1⟩
  ·show (-2000:Int)≤0∧(0:Int)≤2000
   exact ⟨by decide,by decide⟩
  ·show -k≤0∧0≤k
   omega
 ·exact Wb.zero h0
theorem KY (h0:0≤k) (h:l.wb k) (n:Int):uN k (RT.leave l n):=by
 have hz:∀{k:Int},0≤k→Wb k Wd.zero:=Wb.zero
 unfold RT.leave
 refine fM (fun _=>⟨⟨h.h,by show -(2000 * k+3000)≤0∧0≤2000 * k+3000;omega,by show -(2000 * k+3000)≤0∧0≤2000 * k+3000;omega⟩,?_⟩) fun _=>fM (fun _=>?_) fun _=>⟨h,hz h0⟩
 ·exact hz (by omega)
 ·split
  ·exact ⟨h.hold (hz h0) _,trivial⟩
  ·exact ⟨h,hz h0⟩
theorem M6 (h0:0≤k) (h:l.wb k):uN k (RT.scan l):=by
 unfold RT.scan
 exact fM (fun _=>⟨h,Wb.zero h0⟩) fun _=>fM (fun _=>⟨h,trivial⟩) fun _=>⟨h,Wb.zero h0⟩
theorem C8 (h0:0≤k) (h:l.wb k):uN k (RT.dO l):=by
 unfold RT.dO
 exact fM (fun _=>M6 h0 h) fun _=>⟨h,Wb.zero h0⟩
theorem RA (h0:0≤k) (h:l.wb k) {w:Wd} (hw:Wb k w):uN k (RT.fU l w):=by
 unfold RT.fU
 exact fM (fun _=>C8 h0 ⟨h.h,h.lo,h.hi⟩) fun _=>fM (fun _=>⟨h,hw⟩) fun _=>fM (fun _=>⟨h,hw⟩) fun _=>⟨h,Wb.zero h0⟩
theorem UJ (h0:0≤k) (h:l.wb k) {c:Ca} (hn:Wb (k+1) c.new) (ho:Wb k c.old):uN k (RT.begin l c):=by
 have hz:∀{k:Int},0≤k→Wb k Wd.zero:=Wb.zero
 unfold RT.begin
 refine fM (fun _=>fM (fun _=>⟨h,trivial⟩) fun _=>⟨h,hz h0⟩) fun _=>fM (fun _=>KY h0 h 0) fun _=>fM (fun _=>⟨h,?_⟩) fun _=>fM (fun _=>⟨h,hn⟩) fun _=>fM (fun _=>⟨h,hn⟩) fun _=>fM (fun _=>⟨h,trivial⟩) fun _ =>
  fM (fun _=>fM (fun _=>⟨h.hold (h.h _) _,(h.h _).mono (by omega)⟩) fun _=>⟨h,hz h0⟩) fun _=>fM (fun _=>fM (fun _=>⟨h,trivial⟩) fun _=>⟨h,?_⟩) fun _=>fM (fun _=>⟨h,?_⟩) fun _=>fM (fun _=>RA h0 h ho) fun _=>M6 h0 h
 ·exact hz (by omega)
 ·exact hz (by omega)
 ·exact hz (by omega)
theorem Gc (h0:0≤k) (h:l.wb k) (r:List Nt):uN k (RT.eD l r):=by
 cases r
 ·exact ⟨h,Wb.zero h0⟩
 ·exact ⟨h,trivial⟩
theorem Xw (h0:0≤k) (h:l.wb k) {t:RT} (ht:t.wb k) {x:Rp} (hx:Wb (k+1) x.word):uN (k+1) (RT.bM l t x):=by
 have h':l.wb (k+1):=h.mono (by omega)
 have hz:∀{k:Int},0≤k→Wb k Wd.zero:=Wb.zero
 have hz1:Wb (k+1) Wd.zero:=hz (by omega)
 have xn:-(2000 * (k+1)+3000)≤x.word.num∧x.word.num≤2000 * (k+1)+3000:=hx.n
 have hs:Wb (k+1) (Wd.fC x.word.num):=Wb.num (by omega) xn
 cases t with
 | idle y=>exact ⟨h',Wb.mono ht (by omega)⟩
 | one a=>exact ⟨h',hx⟩
 | fin a=>exact ⟨h',hz1⟩
 | qL=>exact ⟨⟨h'.h,xn,xn⟩,(M5 (k:=k+1) (s:=⟨true,x.word.num,x.word.num⟩) (by omega) xn xn).mono (by omega)⟩
 | jo i=>exact KY (by omega) h' _
 | gV c =>
  exact fM (fun _=>⟨h',hx⟩) fun _=>fM (fun _=>⟨h'.hold (hx.ref (by omega)) _,(hx.ref (by omega):Wb (k+1) _).mono (by omega)⟩) fun _=>⟨h',hx⟩
 | jy c w =>
  refine fM (fun _=>⟨h',Wb.mono ht (by omega)⟩) fun _=>fM (fun _=>⟨h'.hold hs _,hs.mono (by omega)⟩) fun _=>?_
  have hl:-(2000 * (k+1)+3000)≤(if l.s.is=true then l.s.low else x.word.num)∧(if l.s.is=true then l.s.low else x.word.num)≤2000 * (k+1)+3000:=by
   split
   ·exact h'.lo
   ·exact xn
  exact ⟨⟨h'.h,hl,xn⟩,(M5 (k:=k+1) (s:=⟨true,if l.s.is=true then l.s.low else x.word.num,x.word.num⟩) (by omega) hl xn).mono (by omega)⟩
 | iN c a=>exact ⟨h',trivial⟩
 | xB=>exact ⟨h',hs.mono (by omega)⟩
 | nC old=>exact ⟨h',Wb.mono ht (by omega)⟩
 | ng old b=>exact fM (fun _=>⟨⟨h'.h,h'.lo,h'.hi⟩,hx⟩) fun _=>C8 (by omega) ⟨h'.h,h'.lo,h'.hi⟩
 | nO c=>exact C8 (by omega) h'
 | qM=>exact ⟨h',hx⟩
 | iL c seen =>
  exact fM (fun _=>⟨h',Wb.mono ht (by omega)⟩) fun _=>fM (fun _=>Gc (by omega) h' _) fun _=>fM (fun _=>⟨h',Wb.mono ht (by omega)⟩) fun _=>⟨h',trivial⟩
 | qN c=>exact ⟨h',trivial⟩
 | iZ=>exact Gc (by omega) h' _
 | lh d r=>exact Gc (l:={l with notes:=l.notes.erase d,freed:=l.freed+1}) (by omega) ⟨h'.h,h'.lo,h'.hi⟩ r
theorem Zf (h0:0≤k) {t:RT} (ht:t.wb k) (h:l.wb k):Wb (k+1) (t.acc l).new:=by
 have hz:Wb (k+1) Wd.zero:=Wb.zero (by omega)
 have eG:∀{c:Wd},Wb k c→Wb (k+1) ⟨0,0,c.tag+1,c.num+1,false⟩:=fun {c} hc=>by
  obtain ⟨a,b,d,e⟩:=hc
  refine ⟨⟨by show (-2000:Int)≤0;decide,by show (0:Int)≤2000;decide⟩,?_,?_,?_⟩
  ·show -(k+1)≤0∧0≤k+1
   omega
  ·show -(2000 * (k+1)+3000)≤c.tag+1∧c.tag+1≤2000 * (k+1)+3000
   omega
  ·show -(2000 * (k+1)+3000)≤c.num+1∧c.num+1≤2000 * (k+1)+3000
   omega
 cases t with
 | one a=>exact ht
 | fin a=>exact ht
 | iN c a=>exact ht
 | nO c=>exact eG ht
 | qN c=>exact eG ht
 | _=>exact hz
end
theorem iq {q:Prop} [Decidable q] {l:Lo} {a b:LR} (h1:a.1.freed=l.freed) (h2:b.1.freed=l.freed):(if q then a else b).1.freed=l.freed:=by
 by_cases h:q
 ·rw [if_pos h];exact h1
 ·rw [if_neg h];exact h2
theorem Bz (l:Lo) (k:Int):(RT.leave l k).1.freed=l.freed:=by
 refine iq rfl (iq ?_ rfl)
 cases RS.first l.h k.toNat (9-k.toNat) <;> rfl
theorem ES (l:Lo):(RT.scan l).1.freed=l.freed:=iq rfl (iq rfl rfl)
theorem uO (l:Lo):(RT.dO l).1.freed=l.freed:=iq (ES l) rfl
theorem LH (l:Lo) (c:Ca):(RT.begin l c).1.freed=l.freed :=
 iq (iq rfl rfl)<|iq (Bz l 0)<|iq rfl<|iq rfl<|iq rfl<|iq rfl<|iq (iq rfl rfl)<|iq (iq rfl rfl)<|iq rfl<|iq (iq (uO _)<|iq rfl<|iq rfl rfl) (ES l)
theorem xR (l:Lo) (r:List Nt):(RT.eD l r).1.freed=l.freed:=by cases r <;> rfl
theorem O4 (l:Lo) (t:RT) (x:Rp):l.freed≤(RT.bM l t x).1.freed∧(RT.bM l t x).1.freed≤l.freed+1:=by
 have e:∀{a:LR},a.1.freed=l.freed→l.freed≤a.1.freed∧a.1.freed≤l.freed+1:=fun h=>by omega
 cases t with
 | jo i=>exact e (Bz l _)
 | gV c=>exact e (iq rfl (iq rfl rfl))
 | jy c w=>exact e (iq rfl (iq rfl rfl))
 | ng old b=>exact e (iq rfl (uO _))
 | nO _=>exact e (uO l)
 | iL ck seen=>exact e (iq rfl (iq (xR _ _) (iq rfl rfl)))
 | iZ=>exact e (xR _ _)
 | lh d r =>
  have:=xR {l with notes:=l.notes.erase d,freed:=l.freed+1} r
  show l.freed≤(RT.eD _ _).1.freed∧(RT.eD _ _).1.freed≤l.freed+1
  rw [this]
  show l.freed≤l.freed+1∧l.freed+1≤l.freed+1
  omega
 | _=>exact e rfl
theorem iw {q:Prop} [Decidable q] {n:Nat} {a b:LR} (h1:a.1.notes.length≤n) (h2:b.1.notes.length≤n):(if q then a else b).1.notes.length≤n:=by
 by_cases h:q
 ·rw [if_pos h];exact h1
 ·rw [if_neg h];exact h2
theorem KZ {n:Nat} (l:Lo) (k:Int) (h:l.notes.length≤n):(RT.leave l k).1.notes.length≤n:=by
 refine iw h (iw ?_ h)
 cases RS.first l.h k.toNat (9-k.toNat) <;> exact h
theorem M7 {n:Nat} (l:Lo) (h:l.notes.length≤n):(RT.scan l).1.notes.length≤n:=iw h (iw h h)
theorem C9 {n:Nat} (l:Lo) (h:l.notes.length≤n):(RT.dO l).1.notes.length≤n:=iw (M7 l h) h
theorem Gd {n:Nat} (l:Lo) (w:Wd) (b d:Int) (h:l.notes.length≤n):(RT.note l w b d).notes.length≤n+1:=by
 show (l.notes ++ [_]).length≤n+1
 rw [List.length_append]
 exact Nat.succ_le_succ h
theorem UK {n:Nat} (l:Lo) (c:Ca) (h:l.notes.length≤n):(RT.begin l c).1.notes.length≤n+1:=by
 have h':l.notes.length≤n+1:=Nat.le_succ_of_le h
 exact iw (iw h' h')<|iw (KZ l 0 h')<|iw h'<|iw h'<|iw h'<|iw h'<|iw (iw h' h')<|iw (iw h' h')<|iw h'<|iw (iw (C9 _ (Gd _ _ _ _ h))<|iw h'<|iw h' h') (M7 l h')
theorem Gf {n:Nat} (l:Lo) (r:List Nt) (h:l.notes.length≤n):(RT.eD l r).1.notes.length≤n:=by cases r <;> exact h
theorem Xx {n:Nat} (l:Lo) (t:RT) (x:Rp) (h:l.notes.length≤n):(RT.bM l t x).1.notes.length≤n+1:=by
 have h':l.notes.length≤n+1:=Nat.le_succ_of_le h
 cases t with
 | jo i=>exact KZ l _ h'
 | gV c=>exact iw h' (iw h' h')
 | jy c w=>exact iw h' (iw h' h')
 | ng old b=>exact iw (Gd _ _ _ _ h) (C9 _ (Gd _ _ _ _ h))
 | nO _=>exact C9 l h'
 | iL ck seen=>exact iw h' (iw (Gf _ _ h') (iw h' h'))
 | iZ=>exact Gf _ _ h'
 | lh d r=>exact Gf (n:=n+1) {l with notes:=l.notes.erase d,freed:=l.freed+1} r (Nat.le_trans (List.length_erase_le ..) h')
 | _=>exact h'
def RT.kL (l:Lo):RT→Prop
 | .jo i=>0≤i∧i≤8
 | .gV c=>0≤c.i∧c.i<9
 | .jy c _=>l.bN∧0≤c.i∧c.i<9
 | .iN c _=>0≤c.i∧c.i<9
 | .qM | .qN _ | .iZ=>l.av=4
 | .iL _ seen=>l.av≠1∧seen.length≤60
 | .lh d r=>(d :: r).Sublist l.notes
 | _=>True
theorem RT.kL.fits {l:Lo} {t:RT} (h:t.kL l):t.fits l:=by
 cases t <;> first | trivial | exact h | exact h.1
theorem fO {c:Prop} [Decidable c] {a b:LR} (h1:c→a.2.kL a.1) (h2:¬c→b.2.kL b.1):(if c then a else b).2.kL (if c then a else b).1:=by
 by_cases h:c
 ·rw [if_pos h];exact h1 h
 ·rw [if_neg h];exact h2 h
theorem ET (l:Lo) (k:Int) (h:0≤k∧k≤9):(RT.leave l k).2.kL (RT.leave l k).1:=by
 refine fO (fun _=>trivial) fun _=>fO (fun _=>?_) fun _=>trivial
 cases hf:RS.first l.h k.toNat (9-k.toNat) with
 | none=>trivial
 | some n =>
  have:=uL l.h _ _ _ hf
  show (0:Int)≤n∧(n:Int)≤8
  omega
theorem HY (l:Lo):(RT.scan l).2.kL (RT.scan l).1 :=
 fO (fun _=>trivial) fun h1=>fO (fun h=>h) fun _=>⟨h1,Nat.zero_le _⟩
theorem xS (l:Lo):(RT.dO l).2.kL (RT.dO l).1:=fO (fun _=>HY l) fun _=>trivial
theorem O5 {l:Lo} {c:Ca} (hc:c.OK):(RT.begin l c).2.kL (RT.begin l c).1 :=
 fO (fun _=>fO (fun _=>trivial) fun _=>trivial) fun _=>fO (fun _=>ET l 0 (by decide)) fun _=>fO (fun _=>trivial) fun _=>fO (fun _=>trivial) fun _=>fO (fun _=>trivial) fun _=>fO (fun _=>⟨hc.2.2.1,hc.2.2.2.1⟩) fun _=>fO (fun _=>fO (fun _=>trivial) fun _=>trivial) fun _ =>
  fO (fun _=>fO (fun _=>trivial) fun _=>trivial) fun _=>fO (fun _=>trivial) fun _=>fO (fun _=>fO (fun _=>xS _) fun _=>fO (fun _=>trivial) fun _=>fO (fun _=>trivial) fun _=>trivial) fun _=>HY l
theorem zU (l:Lo) (r:List Nt) (h:r.Sublist l.notes):(RT.eD l r).2.kL (RT.eD l r).1:=by
 cases r with
 | nil=>trivial
 | cons d r=>exact h
theorem RB {l:Lo} {t:RT} (ho:l.OK) (h:t.kL l) (x:Rp):(RT.bM l t x).2.kL (RT.bM l t x).1:=by
 cases t with
 | jo i=>exact ET l _ (by have h:0≤i∧i≤8:=h;omega)
 | gV c=>exact fO (fun hd=>⟨hd,h⟩) fun _=>fO (fun _=>h) fun _=>trivial
 | jy c w=>exact fO (fun _=>trivial) fun _=>fO (fun _=>h.2) fun _=>h.2
 | iN c a=>exact h
 | ng old b=>exact fO (fun _=>trivial) fun _=>xS _
 | nO c=>exact xS _
 | qM =>
  have h4:l.av=4:=h
  exact ⟨fun e=>by
    have e:l.av=1:=e
    omega,Nat.zero_le _⟩
 | iL ck seen =>
  refine fO (fun hl=>⟨h.1,?_⟩) fun _=>fO (fun _=>zU _ _ List.filter_sublist) fun h4=>?_
  ·have ht:=ho.threads
   have:l.all≤54:=by
    unfold Lo.all
    split <;> omega
   rw [List.length_append,List.length_singleton]
   omega
  ·have h4':l.av=4:=by omega
   exact fO (fun _=>h4') fun _=>h4'
 | qN c=>exact h
 | iZ=>exact zU _ _ List.filter_sublist
 | lh d r =>
  refine zU {l with notes:=l.notes.erase d,freed:=l.freed+1} r ?_
  have:=List.Sublist.erase d (show (d :: r).Sublist l.notes from h)
  rwa [List.erase_cons_head] at this
 | _=>trivial
theorem RT.Xy (l:Lo) (t:RT) (x:Rp):Sm l (RT.bM l t x).1:=by
 cases t with
 | jo i=>exact RT.KR l _
 | gV c=>exact fK (Sm.refl l) (fK ⟨rfl,rfl,rfl,rfl⟩ (Sm.refl l))
 | jy c w=>exact fK (Sm.refl l) (fK ⟨rfl,rfl,rfl,rfl⟩ ⟨rfl,rfl,rfl,rfl⟩)
 | ng old b=>exact fK ⟨rfl,rfl,rfl,rfl⟩ (RT.MX ..)
 | nO c=>exact RT.KS l
 | iL ck seen=>exact fK (Sm.refl l) (fK (RT.F9 l _) (fK (Sm.refl l) (Sm.refl l)))
 | iZ=>exact RT.F9 l _
 | lh d r =>
  have h:=RT.F9 {l with notes:=l.notes.erase d,freed:=l.freed+1} r
  exact ⟨h.av,h.me,h.threads,h.most⟩
 | qL=>exact ⟨rfl,rfl,rfl,rfl⟩
 | _=>exact Sm.refl l
structure tu (k:Int) (l:Lo) (t:RT) (p:PS):Prop where
 ok:l.OK
 kL:t.kL l
 M8:p.OK
 lw:l.wb k
 tw:t.wb k
 pw:p.wb k
 fr:0≤l.freed∧l.freed≤k
 nl:(l.notes.length:Int)≤k
 st:p.steps≤k
 k0:0≤k
theorem RT.wb.mono {k k':Int} {t:RT} (h:t.wb k) (hk:k≤k'):t.wb k':=by
 revert h
 cases t <;> intro h <;> first | exact trivial | exact Wb.mono h (by omega)
theorem tu.mono {k k':Int} {l:Lo} {t:RT} {p:PS} (h:tu k l t p) (hk:k≤k'):tu k' l t p :=
 ⟨h.ok,h.kL,h.M8,h.lw.mono hk,h.tw.mono hk,h.pw.mono hk,by have:=h.fr;omega,by have:=h.nl;omega,by have:=h.st;omega,by have:=h.k0;omega⟩
theorem RD {p p':PS} {a:Ac} {x:Rp} (h:p.act a=(p',some x)):p'.steps=p.steps+1:=by
 unfold PS.act at h
 split at h
 ·split at h
  ·simp only [Prod.mk.injEq] at h
   rw [←h.1]
   unfold PS.makes
   split
   ·unfold PS.alloc
    split <;> rfl
   split
   ·rfl
   split
   ·rfl
   split
   ·unfold PS.put;split <;> rfl
   split
   ·unfold PS.put;split <;> rfl
   ·rfl
  ·simp only [Prod.mk.injEq] at h
   rw [←h.1]
 ·simp at h
theorem tu.bM {k:Int} {l:Lo} {t:RT} {p p':PS} {x:Rp} (h:tu k l t p) (hx:p.act (t.acc l)=(p',some x)):tu (k+1) (RT.bM l t x).1 (RT.bM l t x).2 p'∧Wb (k+1) x.word:=by
 have ha:=h.pw.act h.k0 h.M8 h.st (Zf h.k0 h.tw h.lw)
 have hok:=h.M8.act (t.acc l)
 rw [hx] at ha hok
 have hw:=Xw h.k0 h.lw h.tw (ha.2 x rfl)
 have hs:=RD hx
 have hf:=O4 l t x
 have hn:((RT.bM l t x).1.notes.length:Int)≤k+1:=by
  have:=Xx (n:=l.notes.length) l t x (Nat.le_refl _)
  have:=h.nl
  omega
 exact ⟨⟨(RT.Xy l t x).ok h.ok,RB h.ok h.kL x,hok,hw.l,hw.t,ha.1,by have:=h.fr;omega,hn,by have:=h.st;omega,by have:=h.k0;omega⟩,ha.2 x rfl⟩
theorem tu.begin {k:Int} {l:Lo} {y:Rp} {p:PS} {c:Ca} (h:tu k l (.idle y) p) (hc:c.OK) (hn:Wb (k+1) c.new) (ho:Wb k c.old):tu (k+1) (RT.begin l c).1 (RT.begin l c).2 p:=by
 have hw:=UJ h.k0 h.lw hn ho
 have hf:=LH l c
 have hnl:((RT.begin l c).1.notes.length:Int)≤k+1:=by
  have:=UK (n:=l.notes.length) l c (Nat.le_refl _)
  have:=h.nl
  omega
 exact ⟨RT.UB h.ok,O5 hc,h.M8,hw.l.mono (by omega),hw.t.mono (by omega),h.pw.mono (by omega),by have:=h.fr;omega,hnl,by have:=h.st;omega,by have:=h.k0;omega⟩
def CR (Post:Lo→Rp→PS→Prop):Nat→Lo→RT→PS→Prop
 | 0,l,t,p=>∃x,t=.idle x∧Post l x p
 | d+1,l,t,p=>(∃x,t=.idle x∧Post l x p)∨(t.ig≠0∧∃p' x,p.act (t.acc l)=(p',some x)∧CR Post d (RT.bM l t x).1 (RT.bM l t x).2 p')
section
variable {Post Post':Lo→Rp→PS→Prop} {d:Nat} {l:Lo} {t:RT} {p p':PS} {x:Rp}
theorem CR.idle (h:Post l x p):CR Post d l (.idle x) p:=by
 cases d with
 | zero=>exact ⟨x,rfl,h⟩
 | succ d=>exact .inl ⟨x,rfl,h⟩
theorem CR.acc (h0:t.ig≠0) (ha:p.act (t.acc l)=(p',some x)) (h:CR Post d (RT.bM l t x).1 (RT.bM l t x).2 p'):CR Post (d+1) l t p:=.inr ⟨h0,p',x,ha,h⟩
theorem CR.more:∀{d:Nat} {l:Lo} {t:RT} {p:PS},CR Post d l t p→∀{e:Nat},d≤e→CR Post e l t p
 | 0,l,t,p,h,e,_=>by
  obtain ⟨x,rfl,hp⟩:=h
  exact CR.idle hp
 | d+1,l,t,p,h,0,he=>absurd he (Nat.not_succ_le_zero _)
 | d+1,l,t,p,h,e+1,he=>by
  rcases h with ⟨x,rfl,hp⟩ | ⟨h0,p',x,ha,h⟩
  ·exact CR.idle hp
  ·exact CR.acc h0 ha (CR.more h (Nat.le_of_succ_le_succ he))
theorem CR.imp (hi:∀l x p,Post l x p→Post' l x p):∀{d:Nat} {l:Lo} {t:RT} {p:PS},CR Post d l t p→CR Post' d l t p
 | 0,l,t,p,h=>by
  obtain ⟨x,rfl,hp⟩:=h
  exact ⟨x,rfl,hi _ _ _ hp⟩
 | d+1,l,t,p,h=>by
  rcases h with ⟨x,rfl,hp⟩ | ⟨h0,p',x,ha,h⟩
  ·exact .inl ⟨x,rfl,hi _ _ _ hp⟩
  ·exact .inr ⟨h0,p',x,ha,CR.imp hi h⟩
theorem CR.ite {c:Prop} [Decidable c] {a b:LR} (h1:c→CR Post d a.1 a.2 p) (h2:¬c→CR Post d b.1 b.2 p):CR Post d (if c then a else b).1 (if c then a else b).2 p:=by
 by_cases h:c
 ·rw [if_pos h];exact h1 h
 ·rw [if_neg h];exact h2 h
end
structure Ap (p p':PS):Prop where
 nb:p'.nb=p.nb
 ns:p'.ns=p.ns
 nf:p'.nf=p.nf
 made:p'.made=p.made
 dD:p'.dD=p.dD
 gen:p'.gen=p.gen
 used:p'.used=p.used
 cell:p'.cell=p.cell
 fr:p'.fr=p.fr
 bd:∀i,i<24→p'.bd i=p.bd i
 Hy:1≤(p.bd 24).num→1≤(p'.bd 24).num
theorem Ap.refl (p:PS):Ap p p:=⟨rfl,rfl,rfl,rfl,rfl,rfl,rfl,rfl,rfl,fun _ _=>rfl,id⟩
theorem Ap.trans {a b c:PS} (h:Ap a b) (g:Ap b c):Ap a c :=
 ⟨g.nb.trans h.nb,g.ns.trans h.ns,g.nf.trans h.nf,g.made.trans h.made,g.dD.trans h.dD,g.gen.trans h.gen,g.used.trans h.used,g.cell.trans h.cell,g.fr.trans h.fr,fun i hi=>(g.bd i hi).trans (h.bd i hi),fun k=>g.Hy (h.Hy k)⟩
theorem Ap.steps (p:PS) (k:Int):Ap p {p with steps:=k}:=⟨rfl,rfl,rfl,rfl,rfl,rfl,rfl,rfl,rfl,fun _ _=>rfl,id⟩
section
variable {p:PS} {l:Lo}
theorem Gg (hn:p.nb=85) {f:Int} (h:0≤f∧f<85):p.has 0 0 f:=by
 unfold PS.has
 rw [if_pos rfl,hn]
 exact ⟨rfl,h⟩
theorem vT (hn:p.nb=85) {f:Int} (hf:25≤f∧f<85) (w:Wd):∃p',p.act (Ac.store 0 0 f w)=(p',some ⟨Wd.zero,true⟩)∧Ap p p'∧p'.bd 24=p.bd 24:=by
 refine ⟨_,oo (Gg hn (by omega)) (.inl rfl),?_⟩
 unfold PS.put
 rw [if_pos rfl]
 have hb:∀i:Nat,i≤24→(if i=f.toNat then w else p.bd i)=p.bd i:=fun i hi=>if_neg (by omega)
 refine ⟨⟨rfl,rfl,rfl,rfl,rfl,rfl,rfl,rfl,rfl,fun i hi=>hb i (by omega),fun h=>?_⟩,hb 24 (by omega)⟩
 show 1≤(if 24=f.toNat then w else p.bd 24).num
 rw [hb 24 (by omega)]
 exact h
theorem A8 (hn:p.nb=85) {f:Int} (hf:0≤f∧f<85):p.act (Ac.load 0 0 f)=({p with steps:=p.steps+1},some ⟨p.bd f.toNat,true⟩) :=
 KT (Gg hn hf) (.inl rfl)
theorem zV (hn:p.nb=85):p.act Ac.era=({p with steps:=p.steps+1},some ⟨p.bd 24,true⟩):=A8 hn (by decide)
structure Lk (l l':Lo):Prop where
 sm:Sm l l'
 notes:l'.notes=l.notes
theorem Lk.refl (l:Lo):Lk l l:=⟨Sm.refl l,rfl⟩
theorem Sm.trans {a b c:Lo} (h:Sm a b) (g:Sm b c):Sm a c:=⟨g.av.trans h.av,g.me.trans h.me,g.threads.trans h.threads,g.most.trans h.most⟩
theorem Lk.trans {a b c:Lo} (h:Lk a b) (g:Lk b c):Lk a c:=⟨h.sm.trans g.sm,g.notes.trans h.notes⟩
def PQ (l:Lo) (p:PS) (l':Lo) (x:Rp) (p':PS):Prop:=Ap p p'∧Lk l l'
theorem K3 (ho:l.OK) (hn:p.nb=85):CR (PQ l p) 2 (RT.begin l (Ca.of 1)).1 (RT.begin l (Ca.of 1)).2 p:=by
 have e:RT.begin l (Ca.of 1)=if l.bZ then (l,.qL) else (l,.idle Rp.yes):=rfl
 rw [e]
 refine CR.ite (fun _=>?_) fun _=>CR.idle ⟨Ap.refl p,Lk.refl l⟩
 refine CR.acc (t:=.qL) (show (3:Int)≠0 by decide) (zV hn) ?_
 have hm:=ho.me
 have ht:=ho.threads
 obtain ⟨p',h1,h2,-⟩:=vT (p:={p with steps:=p.steps+1}) hn (f:=79+l.me) (by omega) (RS.qY ⟨true,(p.bd 24).num,(p.bd 24).num⟩)
 refine CR.acc (t:=.fin _) (show (2:Int)≠0 by decide) h1 (CR.idle ⟨(Ap.steps p _).trans h2,⟨⟨rfl,rfl,rfl,rfl⟩,rfl⟩⟩)
theorem Db:∀(m:Nat) {l:Lo} {p:PS},l.OK→p.nb=85→∀n:Nat,n+m=9→CR (PQ l p) (m+1) (RT.leave l n).1 (RT.leave l n).2 p
 | m,l,p,ho,hn,n,hm=>by
  have h1:=ho.me
  have h2:=ho.threads
  unfold RT.leave
  refine CR.ite (fun _=>?_) fun _=>CR.ite (fun _=>?_) fun _=>CR.idle ⟨Ap.refl p,Lk.refl l⟩
  ·obtain ⟨p',g1,g2,-⟩:=vT hn (f:=79+l.me) (by omega) (RS.qY Sp.zero)
   refine CR.acc (t:=.fin _) (show (2:Int)≠0 by decide) g1 (CR.idle ⟨g2,⟨⟨rfl,rfl,rfl,rfl⟩,rfl⟩⟩)
  ·cases hf:RS.first l.h (n:Int).toNat (9-(n:Int).toNat) with
   | none=>exact CR.idle ⟨Ap.refl p,Lk.refl l⟩
   | some i =>
    have hr:=uL l.h _ _ _ hf
    obtain ⟨p',g1,g2,-⟩:=vT hn (f:=25+l.me * 9+i) (by omega) Wd.zero
    refine CR.acc (t:=.jo i) (show (4:Int)≠0 by decide) g1 ?_
    match m,hm with
    | 0,hm=>omega
    | m+1,hm =>
     have:=Db (8-i) (l:=l.hold i Wd.zero) (p:=p') ⟨ho.av,ho.me,ho.threads,ho.most⟩ (g2.nb.trans hn) (i+1) (by omega)
     refine ((CR.imp (fun l' x p'' hq=>?_) this).more (by omega):CR (PQ l p) (m+1) (RT.leave (l.hold i Wd.zero) ((i+1:Nat):Int)).1 (RT.leave (l.hold i Wd.zero) ((i+1:Nat):Int)).2 p')
     exact ⟨g2.trans hq.1,Lk.trans (b:=l.hold i Wd.zero) ⟨⟨rfl,rfl,rfl,rfl⟩,rfl⟩ hq.2⟩
end
section
variable {J:PS→List Nt→Prop} {p:PS} {l:Lo}
end
structure Vk where
 l:Lo
 t:RT
 ops:List Op
 j:Option Jb
 bu:Bool
 said:List (Int × Int)
structure VW (v:Vk) (w:Wk):Prop where
 rep:ik v.l v.t w.r
 ops:w.ops=v.ops
 j:w.j=v.j
 bu:w.bu=v.bu
 said:w.said=v.said
def Vk.with (v:Vk) (q:LR):Vk:={v with l:=q.1,t:=q.2}
def Vk.op (v:Vk):Op:=v.ops.getD v.said.length ⟨0,0,0,0⟩
def Vk.gL (v:Vk) (x:Rp):Vk :=
 match v.j with
 | none=>if v.bu=true then ({v with bu:=false}:Vk).with (RT.begin v.l (Ca.of 2)) else ({v with j:=some (Jb.new v.op),bu:=true}:Vk).with (RT.begin v.l (Ca.of 1))
 | some j=>if (j.next x).2.kind=12 then {v with said:=v.said ++ [((j.next x).2.code,(j.next x).2.val)],j:=none} else ({v with j:=some (j.next x).1}:Vk).with (RT.begin v.l (j.next x).2)
def Vk.done (v:Vk):Prop:=v.t.ig=0∧v.j=none∧v.bu=false∧v.said.length≥v.ops.length
def Vk.may (v:Vk) (x:Rp):Prop :=
 match v.j with
 | none=>v.bu=true∨(v.bu=false∧v.said.length<v.ops.length∧v.op.dD)
 | some j=>((j.next x).2.kind=12→v.said.length<v.ops.length)∧((j.next x).2.kind≠12→(j.next x).2.OK)
def Fin (Q:Vk→PS→Prop):Nat→Nat→Vk→PS→Prop
 | _,0,v,p=>v.done∧Q v p
 | c,n+1,v,p=>(v.done∧Q v p)∨(∃x,v.t=.idle x∧v.may x∧∃c',c=c'+1∧Fin Q c' n (v.gL x) p)∨(v.t.ig≠0∧∃p' x,p.act (v.t.acc v.l)=(p',some x)∧Fin Q 150 n (v.with (RT.bM v.l v.t x)) p')
section
variable {Q:Vk→PS→Prop}
theorem Fin.gL {c n:Nat} {v:Vk} {p:PS} {x:Rp} (ht:v.t=.idle x) (hm:v.may x) (h:Fin Q c n (v.gL x) p):Fin Q (c+1) (n+1) v p:=.inr (.inl ⟨x,ht,hm,c,rfl,h⟩)
end
structure AV (k:Int) (v:Vk) (p:PS):Prop where
 ou:tu k v.l v.t p
 uz:∀j,v.j=some j→(Wb k j.node∧Wb k j.top∧j.last.new=Wd.zero∧j.last.old=Wd.zero)∧0≤j.op.val∧j.op.val≤3000
 ops:v.ops.length≤100∧∀o∈v.ops,0≤o.val∧o.val≤3000
theorem O6 {k:Int} {j:Jb} {x:Rp} (h0:0≤k) (hn:Wb k j.node) (ht:Wb k j.top) (hl:j.last.new=Wd.zero∧j.last.old=Wd.zero) (hv:0≤j.op.val∧j.op.val≤3000) (hx:Wb k x.word) :
  ((Wb k (j.next x).1.node∧Wb k (j.next x).1.top∧(j.next x).1.last.new=Wd.zero∧(j.next x).1.last.old=Wd.zero)∧(j.next x).1.op=j.op)∧Wb (k+1) (j.next x).2.new∧Wb k (j.next x).2.old:=by
 have hz:Wb k Wd.zero:=Wb.zero h0
 have hz1:Wb (k+1) Wd.zero:=Wb.zero (by omega)
 have hval:Wb (k+1) (Wd.fC j.op.val):=Wb.num (by omega) (by omega)
 have hsw:∀{o r:Wd},Wb k o→Wb k r→Wb (k+1) (Ro o r).new:=fun {o r} a b=>by
  obtain ⟨a1,a2,a3,a4⟩:=a
  obtain ⟨b1,b2,b3,b4⟩:=b
  refine ⟨b1,?_,?_,?_⟩
  ·show -(k+1)≤r.gen∧r.gen≤k+1
   omega
  ·show -(2000 * (k+1)+3000)≤o.tag+1∧o.tag+1≤2000 * (k+1)+3000
   omega
  ·show -(2000 * (k+1)+3000)≤0∧0≤2000 * (k+1)+3000
   omega
 unfold Jb.next
 split
 ·unfold Jb.push
  split
  ·exact ⟨⟨⟨hn,ht,by first | exact hl | exact ⟨rfl,rfl⟩⟩,rfl⟩,hz1,hz⟩
  split
  ·split
   ·exact ⟨⟨⟨hn,ht,by first | exact hl | exact ⟨rfl,rfl⟩⟩,rfl⟩,hz1,hz⟩
   ·exact ⟨⟨⟨hx,ht,by first | exact hl | exact ⟨rfl,rfl⟩⟩,rfl⟩,hval,hz⟩
  split
  ·split
   ·exact ⟨⟨⟨hn,ht,by first | exact hl | exact ⟨rfl,rfl⟩⟩,rfl⟩,hz1,hz⟩
   ·exact ⟨⟨⟨hn,ht,by first | exact hl | exact ⟨rfl,rfl⟩⟩,rfl⟩,hz1,hz⟩
  split
  ·exact ⟨⟨⟨hn,ht,by first | exact hl | exact ⟨rfl,rfl⟩⟩,rfl⟩,hz1,hz⟩
  split
  ·exact ⟨⟨⟨hn,hx,by first | exact hl | exact ⟨rfl,rfl⟩⟩,rfl⟩,(hx.ref h0).mono (by omega),hz⟩
  split
  ·exact ⟨⟨⟨hn,ht,by first | exact hl | exact ⟨rfl,rfl⟩⟩,rfl⟩,hsw ht hn,ht⟩
  ·exact ⟨⟨⟨hn,ht,hl⟩,rfl⟩,by rw [hl.1];exact hz1,by rw [hl.2];exact hz⟩
 ·unfold Jb.pop
  split
  ·split
   ·exact ⟨⟨⟨hn,ht,by first | exact hl | exact ⟨rfl,rfl⟩⟩,rfl⟩,hz1,hz⟩
   ·exact ⟨⟨⟨hn,ht,by first | exact hl | exact ⟨rfl,rfl⟩⟩,rfl⟩,hz1,hz⟩
  split
  ·exact ⟨⟨⟨hn,ht,by first | exact hl | exact ⟨rfl,rfl⟩⟩,rfl⟩,hz1,hz⟩
  split
  ·split
   ·exact ⟨⟨⟨hn,hx,by first | exact hl | exact ⟨rfl,rfl⟩⟩,rfl⟩,hz1,hz⟩
   split
   ·exact ⟨⟨⟨hn,hx,by first | exact hl | exact ⟨rfl,rfl⟩⟩,rfl⟩,hz1,hz⟩
   ·exact ⟨⟨⟨hn,hx,by first | exact hl | exact ⟨rfl,rfl⟩⟩,rfl⟩,hz1,hz⟩
  split
  ·exact ⟨⟨⟨hn,ht,by first | exact hl | exact ⟨rfl,rfl⟩⟩,rfl⟩,hsw ht hx,ht⟩
  split
  ·split
   ·exact ⟨⟨⟨hn,ht,by first | exact hl | exact ⟨rfl,rfl⟩⟩,rfl⟩,hz1,hz⟩
   ·exact ⟨⟨⟨hn,ht,by first | exact hl | exact ⟨rfl,rfl⟩⟩,rfl⟩,hz1,ht⟩
  split
  ·exact ⟨⟨⟨hn,ht,by first | exact hl | exact ⟨rfl,rfl⟩⟩,rfl⟩,hz1,hz⟩
  ·exact ⟨⟨⟨hn,ht,hl⟩,rfl⟩,by rw [hl.1];exact hz1,by rw [hl.2];exact hz⟩
theorem Dc {k:Int} (h:1≤k∧k≤11):(Ca.of k).OK:=by
 have h9:(0:Int)≤0∧(0:Int)<9:=by decide
 exact ⟨h.1,h.2,h9.1,h9.2,h9.1,h9.2⟩
theorem AV.gL {k:Int} {v:Vk} {p:PS} {x:Rp} (h:AV k v p) (ht:v.t=.idle x) (hm:v.may x):AV (k+1) (v.gL x) p:=by
 have ha:=h.ou
 have h0:=ha.k0
 rw [ht] at ha
 have hz:Wb k Wd.zero:=Wb.zero h0
 have hz1:Wb (k+1) Wd.zero:=Wb.zero (by omega)
 have Zg:Wb k x.word:=ha.tw
 unfold Vk.gL
 unfold Vk.may at hm
 cases hj:v.j with
 | none =>
  rw [hj] at hm
  simp only at hm ⊢
  split
  ·exact ⟨ha.begin (c:=Ca.of 2) (Dc (by decide)) hz1 hz,fun j hj'=>(by cases hj'),h.ops⟩
  ·rename_i hi
   obtain ⟨-,hl,-⟩:=hm.resolve_left hi
   have ho:v.op∈v.ops:=by
    unfold Vk.op
    rw [List.getD_eq_getElem?_getD,List.getElem?_eq_getElem hl]
    exact List.getElem_mem _
   refine ⟨ha.begin (c:=Ca.of 1) (Dc (by decide)) hz1 hz,fun j hj'=>?_,h.ops⟩
   obtain rfl:Jb.new v.op=j:=Option.some.inj hj'
   exact ⟨⟨hz1,hz1,rfl,rfl⟩,h.ops.2 _ ho⟩
 | some j =>
  rw [hj] at hm
  simp only at hm ⊢
  obtain ⟨⟨q1,q2,q3⟩,q4⟩:=h.uz j hj
  obtain ⟨⟨⟨a1,a2,a3⟩,a4⟩,b,c⟩:=O6 (x:=x) h0 q1 q2 q3 q4 Zg
  split
  ·refine ⟨?_,fun j' hj'=>(by cases hj'),h.ops⟩
   have:=ha.mono (k':=k+1) (by omega)
   show tu (k+1) v.l v.t p
   rw [ht]
   exact this
  ·rename_i hk
   refine ⟨ha.begin (hm.2 hk) b c,fun j' hj'=>?_,h.ops⟩
   obtain rfl:(j.next x).1=j':=Option.some.inj hj'
   exact ⟨⟨a1.mono (by omega),a2.mono (by omega),a3⟩,by rw [a4];exact q4⟩
structure Nd where
 s:Int
 g:Int
 v:Int
def PS.pW (p:PS) (s g:Int):Prop:=p.is s∧p.used (s-1).toNat=true∧p.gen (s-1).toNat=g
theorem PS.pW.live {p:PS} {s g:Int} (h:p.pW s g):p.live s g:=.inr h.2
theorem PS.pW.has {p:PS} {s g f:Int} (h:p.pW s g) (hf:0≤f∧f<10):p.has s g f:=by
 unfold PS.has
 rw [if_neg (fun e=>by have:=h.1.1;omega)]
 exact ⟨h.1,hf⟩
theorem Xz {p p':PS} (h:Ap p p') {s g:Int} (hs:p.pW s g):p'.pW s g:=by
 obtain ⟨a,b,c⟩:=hs
 unfold PS.pW PS.is at *
 rw [h.ns,h.used,h.gen]
 exact ⟨a,b,c⟩
where
 Zh {N:List Nt} (h:(N.map fun d=>d.ref.slot).Nodup) {a b:Nt} (ha:a∈N) (hb:b∈N) (hab:a.ref.slot=b.ref.slot):a=b:=by
  induction N with
  | nil=>cases ha
  | cons x N ih =>
   rw [List.map_cons,List.nodup_cons] at h
   rcases List.mem_cons.1 ha with rfl | ha
   ·rcases List.mem_cons.1 hb with rfl | hb
    ·rfl
    ·exact absurd (List.mem_map.2 ⟨b,hb,hab.symm⟩) h.1
   ·rcases List.mem_cons.1 hb with hb | hb
    ·exact absurd (List.mem_map.2 ⟨a,ha,by rw [hab,hb]⟩) h.1
    ·exact ih h.2 ha hb
section
variable {p:PS} {tag n g m:Int} {st:List Nd} {N:List Nt}
theorem eX (w:Wd):je w w:=⟨rfl,rfl,rfl,rfl⟩
theorem RF (h:p.pW n g) {f:Int} (hf:0≤f∧f<10):p.act (Ac.load n g f)=({p with steps:=p.steps+1},some ⟨p.cell (n-1).toNat f.toNat,true⟩):=by
 have hn0:n≠0:=fun e=>by have:=h.1.1;omega
 have:p.at n f=p.cell (n-1).toNat f.toNat:=if_neg hn0
 rw [←this]
 exact KT (h.has hf) h.live
end
section
variable {Q:Vk→PS→Prop} {c n:Nat} {l:Lo} {ops:List Op} {j j':Jb} {bu:Bool} {said:List (Int × Int)} {p p':PS} {x x':Rp} {ca:Ca} {a:Ac}
end
theorem K4 {k s g f:Int} {o w:Wd} (h:1≤k∧k≤11):({Ca.of k with slot:=s,gen:=g,field:=f,old:=o,new:=w}:Ca).OK:=by
 have h9:(0:Int)≤0∧(0:Int)<9:=by decide
 exact ⟨h.1,h.2,h9.1,h9.2,h9.1,h9.2⟩
section
variable {Q:Vk→PS→Prop} {c n:Nat} {l:Lo} {ops:List Op} {said:List (Int × Int)} {p:PS} {y:Rp} {tag m val:Int} {st:List Nd}
end
section
variable {Q:Vk→PS→Prop} {v:Vk} {w:Wk} {p:PS} {x:Rp}
theorem VW.idle (h:VW v w) (ht:v.t=.idle x):ik v.l (.idle x) w.r∧w.r.step=0∧w.r.bV=x:=by
 have hr:=h.rep
 rw [ht] at hr
 exact ⟨hr,hr.step,hr.more⟩
structure TE (T:Int) (Q:Vk→PS→Prop) (w:Wk) (p:PS):Prop where
 ex:∃v K,v.done∧Q v p∧VW v w∧AV K v p∧K≤T+200
theorem TE.idle {T:Int} (h:TE T Q w p):w.idle:=by
 obtain ⟨v,K,⟨d1,d2,d3,d4⟩,-,hV,-⟩:=h.ex
 exact ⟨hV.rep.step.trans d1,hV.j.trans d2,hV.bu.trans d3,by rw [hV.ops,hV.said];exact d4⟩
end
end Go.Proofs.YthomdlajobnmnaaGreatDoor
namespace Go.Proofs.YthomdlajobnmnaaGreatDoor
open Go.RowKit Go.Rex
theorem RG {k:Int} {l:Lo} {t:RT} {p:PS} {r:RS} (h:tu k l t p) (hr:ik l t r) (hk:k≤900000):sU r:=by
 have ho:=h.ok
 have hk':=hr.keeps
 have hn:=h.nl
 exact ⟨⟨⟨by rw [hk'.me];exact ho.me.1,by rw [hk'.me];have:=ho.me;have:=ho.threads;omega⟩,by rw [hk'.threads];exact ho.threads.1,by rw [hk'.threads];exact ho.threads.2⟩,by rw [hk'.notes];omega⟩
theorem VZ {k:Int} {w:Wd} (h:Wb k w) (h0:0≤k) (hk:k≤900001):Y4 w:=by
 obtain ⟨a,b,c,d⟩:=h
 exact ⟨by omega,by omega⟩
theorem Zi {k:Int} {l:Lo} {t:RT} {p:PS} {r:RS} {x:Rp} (h:tu k l t p) (hr:ik l t r) (hk:k≤900000) (h0:t.ig≠0) (hx:Wb (k+1) x.word):oZ r x:=by
 have hm:=hr.more
 have hs:=hr.step
 have hf:=h.fr
 have hsn:=h.kL
 have hk0:=h.k0
 have t13:r.step=13→∃ck seen,t=.iL ck seen:=fun e=>by
  rw [hs] at e
  cases t with
  | iL c s=>exact ⟨_,_,rfl⟩
  | _=>cases e
 refine ⟨RG h hr hk,fun e=>?_,fun e=>?_,VZ hx (by omega) (by omega),by rw [hr.freed];omega,fun e=>?_,by rw [hs];exact h0,fun e=>?_,fun e=>?_⟩
 ·obtain ⟨ck,seen,rfl⟩:=t13 e
  obtain ⟨a,b,c⟩:=hm
  have hl:seen.length≤60:=hsn.2
  rw [b,c]
  refine ⟨by omega,by omega,fun e4=>?_⟩
  rw [a (by rw [←hr.av];exact e4)]
  exact VZ (show Wb k ck from h.tw) hk0 (by omega)
 ·rw [hs] at e
  cases t with
  | iZ=>rw [hr.av];exact hsn
  | _=>cases e
 ·rw [hs] at e
  cases t with
  | lh d q =>
   refine ⟨d,q,hm,?_⟩
   rw [hr.notes]
   exact List.Sublist.subset hsn (List.mem_cons_self ..)
  | _=>cases e
 ·rw [hs] at e
  cases t with
  | jo i =>
   rw [show r.index=i from hm]
   exact hsn
  | _=>cases e
 ·rw [hs] at e
  cases t with
  | gV c=>rw [show r.call=c from hm];exact hsn
  | jy c w=>rw [show r.call=c from hm.1];exact hsn.2
  | iN c a=>rw [show r.call=c from hm];exact hsn
  | _=>rcases e with e | e | e <;> cases e
where
 A9 {Q:Vk→PS→Prop} {c m:Nat} {v:Vk} {p:PS} {x:Rp} (hF:Fin Q c m v p) (ht:v.t=.idle x) (hd:¬v.done):∃c' m',v.may x∧Fin Q c' m' (v.gL x) p:=by
  cases m with
  | zero=>exact absurd hF.1 hd
  | succ m =>
   rcases hF with h | ⟨y,hy,hm,c',rfl,h⟩ | ⟨h0,-⟩
   ·exact absurd h.1 hd
   ·rw [ht] at hy
    cases hy
    exact ⟨c',m,hm,h⟩
   ·rw [ht] at h0
    exact absurd rfl h0
end Go.Proofs.YthomdlajobnmnaaGreatDoor
namespace Go.Proofs.YthomdlajobnmnaaGreatDoor.Cq
open Go.Rex
def MZ (v:Nat):SB:={t:=167,cs:=[iv v] ++ vG (v+1) ++ Gb (v+19) ++ iY (v+23) ++ iY (v+28) ++ iY (v+33) ++ iY (v+38) ++ [iv (v+43)],own:=true}
def lu:dJ:={f:=48,nv:=50,args:=[.one (.ptr {aC:=0}),.agg (vF 44)],hp:=[MZ 0],iC:=112,ret:=.w (.agg (vG 94)),hp':=[MZ 50]}
def fF:dJ:={f:=47,nv:=4,args:=[.agg (Gb 0)],hp:=[],iC:=48,ret:=.gY [.one (.ptr {aC:=0}),.one .dH],hp':=[MZ 4]}
end Go.Proofs.YthomdlajobnmnaaGreatDoor.Cq
namespace Go.Proofs.YthomdlajobnmnaaGreatDoor.Cq
open Go.Rex
structure Op where
 kind:Int
 key:Int
 val:Int
 xO:Int
 deriving DecidableEq
structure Jb where
 at':Int
 last:Ca
 op:Op
 node:Wd
 h:Wd
 t:Wd
 n:Wd
 val:Int
def Jb.new (o:Op):Jb:=⟨0,Ca.zero,o,Wd.zero,Wd.zero,Wd.zero,Wd.zero,0⟩
def Jb.ask (j:Jb) (s:Int) (c:Ca):Jb × Ca:=({j with at':=s},c)
def Jb.fin (j:Jb) (code val:Int):Jb × Ca:=({j with at':=-1,last:={Ca.of 12 with code:=code,val:=val}},{Ca.of 12 with code:=code,val:=val})
def Zj (o r:Wd):Wd:=⟨r.slot,r.gen,o.tag+1,0,false⟩
def RH (f:Int):Ca:={Ca.of 3 with field:=f}
def HZ (f:Int):Ca:={Ca.of 6 with field:=f}
def V3 (f:Int) (o r:Wd):Ca:={Ca.of 5 with field:=f,old:=o,new:=Zj o r}
def Ro (w:Wd) (f:Int) (o r:Wd):Ca:={Ca.of 5 with slot:=w.slot,gen:=w.gen,field:=f,old:=o,new:=Zj o r}
def Zk (w:Wd) (f i:Int):Ca:={Ca.of 6 with slot:=w.slot,gen:=w.gen,field:=f,i:=i}
def Jb.enq (j:Jb) (x:Rp):Jb × Ca :=
 if j.at'=0 then j.ask 1 (Ca.of 8)
 else if j.at'=1 then (if x.ok=false then j.fin 4 0 else {j with node:=x.word}.ask 2 (Y6 x.word 1 (Wd.fC j.op.val)))
 else if j.at'=3 then {j with t:=x.word}.ask 4 (Rn x.word 2)
 else if j.at'=4 then {j with n:=x.word}.ask 5 (RH 1)
 else if j.at'=5 then
  (if ¬je x.word j.t then j.ask 3 (HZ 1)
   else if j.n.slot≠0 then j.ask 6 (V3 1 j.t j.n)
   else j.ask 7 (Ro j.t 2 j.n j.node))
 else if j.at'=7 then (if x.ok=true then j.ask 8 (V3 1 j.t j.node) else j.ask 3 (HZ 1))
 else if j.at'=2∨j.at'=6 then j.ask 3 (HZ 1)
 else if j.at'=8 then j.fin 1 0
 else (j,j.last)
def Jb.deq (j:Jb) (x:Rp):Jb × Ca :=
 if j.at'=1 then {j with h:=x.word}.ask 2 (RH 1)
 else if j.at'=2 then {j with t:=x.word}.ask 3 (Zk j.h 2 1)
 else if j.at'=3 then {j with n:=x.word}.ask 4 (RH 0)
 else if j.at'=4 then
  (if ¬je x.word j.h then j.ask 1 (HZ 0)
   else if j.n.slot=0 then j.fin 2 0
   else if j.h.slot=j.t.slot then j.ask 5 (V3 1 j.t j.n)
   else j.ask 6 (Rn j.n 1))
 else if j.at'=6 then {j with val:=x.word.num}.ask 7 (V3 0 j.h j.n)
 else if j.at'=7 then (if x.ok=true then j.ask 8 {Ca.of 10 with old:=j.h} else j.ask 1 (HZ 0))
 else if j.at'=0∨j.at'=5 then j.ask 1 (HZ 0)
 else if j.at'=8 then j.fin 1 j.val
 else (j,j.last)
def Jb.next (j:Jb) (x:Rp):Jb × Ca:=if j.op.kind=4 then j.enq x else j.deq x
def Jb.tg (j:Jb):Prop:=(-1000000000000≤j.h.tag∧j.h.tag≤1000000000000)∧(-1000000000000≤j.t.tag∧j.t.tag≤1000000000000)∧(-1000000000000≤j.n.tag∧j.n.tag≤1000000000000)
def Op.dD (o:Op):Prop:=if o.kind=4 then o.key=0∧o.xO=0∧0≤o.val∧o.val≤1073741824 else o.kind=5∧o.key=0∧o.val=0∧o.xO=0
instance (o:Op):Decidable o.dD:=by unfold Op.dD;exact inferInstance
structure Wk where
 r:RS
 ops:List Op
 j:Option Jb
 bu:Bool
 said:List (Int × Int)
def Wk.go:Nat→Wk→Wk × Option Bool
 | 0,w=>(w,none)
 | k+1,w =>
  if w.r.step≠0 then (w,none)
  else match w.j with
  | none =>
   if w.bu=true then
    if (w.r.begin (Ca.of 2)).2=false then ({w with bu:=false,r:=(w.r.begin (Ca.of 2)).1},some false) else Wk.go k {w with bu:=false,r:=(w.r.begin (Ca.of 2)).1}
   else if w.said.length≥w.ops.length then (w,some false)
   else if ¬(w.ops.getD w.said.length ⟨0,0,0,0⟩).dD then Wk.go k {w with said:=w.said ++ [(0,0)]}
   else if (w.r.begin (Ca.of 1)).2=false then ({w with j:=some (Jb.new (w.ops.getD w.said.length ⟨0,0,0,0⟩)),bu:=true,r:=(w.r.begin (Ca.of 1)).1},some false)
   else Wk.go k {w with j:=some (Jb.new (w.ops.getD w.said.length ⟨0,0,0,0⟩)),bu:=true,r:=(w.r.begin (Ca.of 1)).1}
  | some j =>
   if (j.next w.r.bV).2.kind=12 then Wk.go k {w with said:=w.said ++ [((j.next w.r.bV).2.code,(j.next w.r.bV).2.val)],j:=none}
   else if (w.r.begin (j.next w.r.bV).2).2=false then ({w with j:=some (j.next w.r.bV).1,r:=(w.r.begin (j.next w.r.bV).2).1},some false)
   else Wk.go k {w with j:=some (j.next w.r.bV).1,r:=(w.r.begin (j.next w.r.bV).2).1}
def Wk.step (w:Wk) (p:PS):Wk × PS × Bool :=
 match w.go 200 with
 | (w,some b)=>(w,p,b)
 | (w,none) =>
  if w.r.step=0 then (w,p,false) else
  match p.act w.r.acc with
  | (p,none)=>(w,p,false)
  | (p,some x)=>({w with r:=(w.r.bM x).1},p,(w.r.bM x).2)
def Wk.idle (w:Wk):Prop:=w.r.step=0∧w.j=none∧w.bu=false∧w.said.length≥w.ops.length
instance (w:Wk):Decidable (w.j=none):=by
 cases h:w.j with
 | none=>exact isTrue rfl
 | some _=>exact isFalse (fun h=>by cases h)
instance (w:Wk):Decidable w.idle:=by unfold Wk.idle;exact inferInstance
def Wk.new (av me threads notes:Int) (ops:List Op):Wk:=⟨RS.new av me threads notes,ops,none,false,[]⟩
end Go.Proofs.YthomdlajobnmnaaGreatDoor.Cq
namespace Go.Proofs.YthomdlajobnmnaaGreatDoor.Cq
open Go.Rex
noncomputable def RI:Ex:={sched:=sched,loops:=[],cons:=[],fin:=lu}
def De:Out :=
 .br (.aB (.var 19) (.lit 4))
 (.br (.aB (.var 0) (.lit 0))
  (.fin {lo:=50,az:=1,iv:=yo [(93,yv 43)]<|yr 91 41 4<|yr 86 36 4<|yr 81 31 4<|yr 76 26 12<|yr 63 13 4<|yr 58 8 8<|[(50,.lit 1),(111,.lit 0),(110,.lit 0),(109,.lit 0),(108,.lit 0),(106,.lit 0),(105,.lit 0),(104,.lit 0),(103,.lit 0),(101,.lit 0),(100,.lit 0),(99,.lit 0),(98,.lit 0),(97,.lit 0),(96,.lit 0),(95,.lit 0),(94,.lit 8)],bv:=[(92,yw 42),(87,yw 37),(82,yw 32),(77,yw 27),(64,yw 14),(59,yw 9),(107,.lit false),(102,.lit false)]})
  (.br (.aB (.var 0) (.lit 1))
   (.br (.not (.var 49))
    (.fin {lo:=50,az:=1,iv:=yo [(93,yv 43)]<|yr 91 41 4<|yr 86 36 4<|yr 81 31 4<|yr 76 26 8<|[(68,.lit 0),(67,.lit 4),(66,.lit 0),(65,.lit 0),(63,.lit 0),(62,.lit 0),(61,.lit 0),(60,.lit 0),(58,.lit 0),(57,.lit 0),(56,.lit 0),(55,.lit 0),(54,.lit 0),(53,.lit 0),(52,.lit 0),(51,.lit 12),(50,.lit (-1)),(111,.lit 0),(110,.lit 4),(109,.lit 0),(108,.lit 0),(106,.lit 0),(105,.lit 0),(104,.lit 0),(103,.lit 0),(101,.lit 0),(100,.lit 0),(99,.lit 0),(98,.lit 0),(97,.lit 0),(96,.lit 0),(95,.lit 0),(94,.lit 12)],bv:=[(92,yw 42),(87,yw 37),(82,yw 32),(77,yw 27),(64,.lit false),(59,.lit false),(107,.lit false),(102,.lit false)]})
    (.fin {lo:=50,az:=1,iv:=yo [(93,yv 43)]<|yr 91 41 4<|yr 86 36 4<|yr 81 31 4<|yr 76 47 4<|yr 72 22 8<|yr 63 13 4<|yr 58 8 8<|[(50,.lit 2),(111,.lit 0),(110,.lit 0),(109,.lit 0),(108,.lit 0),(106,yv 21),(105,.lit 0),(104,.lit 0),(103,.lit 0),(101,.lit 0),(100,.lit 0),(99,.lit 0),(98,.lit 0),(97,.lit 1),(96,yv 45),(95,yv 44),(94,.lit 4)],bv:=[(92,yw 42),(87,yw 37),(82,yw 32),(77,yw 48),(64,yw 14),(59,yw 9),(107,.lit false),(102,.lit false)]}))
   (.br (.aB (.var 0) (.lit 3))
    (.fin {lo:=50,az:=1,iv:=yo [(93,yv 43)]<|yr 91 41 4<|yr 86 47 4<|yr 81 31 4<|yr 76 26 12<|yr 63 13 4<|yr 58 8 8<|[(50,.lit 4),(111,.lit 0),(110,.lit 0),(109,.lit 0),(108,.lit 0),(106,.lit 0),(105,.lit 0),(104,.lit 0),(103,.lit 0),(101,.lit 0),(100,.lit 0),(99,.lit 0),(98,.lit 0),(97,.lit 2),(96,yv 45),(95,yv 44),(94,.lit 3)],bv:=[(92,yw 42),(87,yw 48),(82,yw 32),(77,yw 27),(64,yw 14),(59,yw 9),(107,.lit false),(102,.lit false)]})
    (.br (.aB (.var 0) (.lit 4))
     (.fin {lo:=50,az:=1,iv:=yo [(93,yv 43)]<|yr 91 47 4<|yr 86 36 4<|yr 81 31 4<|yr 76 26 12<|yr 63 13 4<|yr 58 8 8<|[(50,.lit 5),(111,.lit 0),(110,.lit 0),(109,.lit 0),(108,.lit 0),(106,.lit 0),(105,.lit 0),(104,.lit 0),(103,.lit 0),(101,.lit 0),(100,.lit 0),(99,.lit 0),(98,.lit 0),(97,.lit 1),(96,.lit 0),(95,.lit 0),(94,.lit 3)],bv:=[(92,yw 48),(87,yw 37),(82,yw 32),(77,yw 27),(64,yw 14),(59,yw 9),(107,.lit false),(102,.lit false)]})
     (.br (.aB (.var 0) (.lit 5))
      (.br (.not (.and (.aB (.var 44) (.var 33)) (.and (.aB (.var 46) (.var 35)) (.and (.aB (.var 47) (.var 36)) (.beq (.var 48) (.var 37))))))
       (.fin {lo:=50,az:=1,iv:=yo [(93,yv 43)]<|yr 91 41 4<|yr 86 36 4<|yr 81 31 4<|yr 76 26 12<|yr 63 13 4<|yr 58 8 8<|[(50,.lit 3),(111,.lit 0),(110,.lit 0),(109,.lit 0),(108,.lit 0),(106,.lit 0),(105,.lit 0),(104,.lit 0),(103,.lit 0),(101,.lit 0),(100,.lit 0),(99,.lit 0),(98,.lit 0),(97,.lit 1),(96,.lit 0),(95,.lit 0),(94,.lit 6)],bv:=[(92,yw 42),(87,yw 37),(82,yw 32),(77,yw 27),(64,yw 14),(59,yw 9),(107,.lit false),(102,.lit false)]})
       (.br (.not (.aB (.var 38) (.lit 0)))
        (.ob (.inr .i64 (.add (.var 35) (.lit 1))) <|
         .fin {lo:=50,az:=1,iv:=yo [(93,yv 43)]<|yr 91 41 4<|yr 86 36 4<|yr 81 31 4<|yr 76 26 12<|yr 63 13 4<|yr 58 8 8<|yo [(50,.lit 6),(111,.lit 0),(110,.lit 0),(109,.lit 0),(108,.lit 0),(106,.lit 0),(105,.add (.var 35) (.lit 1)),(104,yv 39),(103,yv 38)]<|yr 101 36 4<|[(97,.lit 1),(96,.lit 0),(95,.lit 0),(94,.lit 5)],bv:=[(92,yw 42),(87,yw 37),(82,yw 32),(77,yw 27),(64,yw 14),(59,yw 9),(107,.lit false),(102,yw 37)]})
        (.ob (.inr .i64 (.add (.var 40) (.lit 1))) <|
         .fin {lo:=50,az:=1,iv:=yo [(93,yv 43)]<|yr 91 41 4<|yr 86 36 4<|yr 81 31 4<|yr 76 26 12<|yr 63 13 4<|yr 58 8 8<|yo [(50,.lit 7),(111,.lit 0),(110,.lit 0),(109,.lit 0),(108,.lit 0),(106,.lit 0),(105,.add (.var 40) (.lit 1)),(104,yv 24),(103,yv 23)]<|yr 101 41 4<|[(97,.lit 2),(96,yv 34),(95,yv 33),(94,.lit 5)],bv:=[(92,yw 42),(87,yw 37),(82,yw 32),(77,yw 27),(64,yw 14),(59,yw 9),(107,.lit false),(102,yw 42)]})))
      (.br (.aB (.var 0) (.lit 7))
       (.br (.var 49)
        (.ob (.inr .i64 (.add (.var 35) (.lit 1))) <|
         .fin {lo:=50,az:=1,iv:=yo [(93,yv 43)]<|yr 91 41 4<|yr 86 36 4<|yr 81 31 4<|yr 76 26 12<|yr 63 13 4<|yr 58 8 8<|yo [(50,.lit 8),(111,.lit 0),(110,.lit 0),(109,.lit 0),(108,.lit 0),(106,.lit 0),(105,.add (.var 35) (.lit 1)),(104,yv 24),(103,yv 23)]<|yr 101 36 4<|[(97,.lit 1),(96,.lit 0),(95,.lit 0),(94,.lit 5)],bv:=[(92,yw 42),(87,yw 37),(82,yw 32),(77,yw 27),(64,yw 14),(59,yw 9),(107,.lit false),(102,yw 37)]})
        (.fin {lo:=50,az:=1,iv:=yo [(93,yv 43)]<|yr 91 41 4<|yr 86 36 4<|yr 81 31 4<|yr 76 26 12<|yr 63 13 4<|yr 58 8 8<|[(50,.lit 3),(111,.lit 0),(110,.lit 0),(109,.lit 0),(108,.lit 0),(106,.lit 0),(105,.lit 0),(104,.lit 0),(103,.lit 0),(101,.lit 0),(100,.lit 0),(99,.lit 0),(98,.lit 0),(97,.lit 1),(96,.lit 0),(95,.lit 0),(94,.lit 6)],bv:=[(92,yw 42),(87,yw 37),(82,yw 32),(77,yw 27),(64,yw 14),(59,yw 9),(107,.lit false),(102,.lit false)]}))
       (.br (.aB (.var 0) (.lit 2))
        (.fin {lo:=50,az:=1,iv:=yo [(93,yv 43)]<|yr 91 41 4<|yr 86 36 4<|yr 81 31 4<|yr 76 26 12<|yr 63 13 4<|yr 58 8 8<|[(50,.lit 3),(111,.lit 0),(110,.lit 0),(109,.lit 0),(108,.lit 0),(106,.lit 0),(105,.lit 0),(104,.lit 0),(103,.lit 0),(101,.lit 0),(100,.lit 0),(99,.lit 0),(98,.lit 0),(97,.lit 1),(96,.lit 0),(95,.lit 0),(94,.lit 6)],bv:=[(92,yw 42),(87,yw 37),(82,yw 32),(77,yw 27),(64,yw 14),(59,yw 9),(107,.lit false),(102,.lit false)]})
        (.br (.aB (.var 0) (.lit 6))
         (.fin {lo:=50,az:=1,iv:=yo [(93,yv 43)]<|yr 91 41 4<|yr 86 36 4<|yr 81 31 4<|yr 76 26 12<|yr 63 13 4<|yr 58 8 8<|[(50,.lit 3),(111,.lit 0),(110,.lit 0),(109,.lit 0),(108,.lit 0),(106,.lit 0),(105,.lit 0),(104,.lit 0),(103,.lit 0),(101,.lit 0),(100,.lit 0),(99,.lit 0),(98,.lit 0),(97,.lit 1),(96,.lit 0),(95,.lit 0),(94,.lit 6)],bv:=[(92,yw 42),(87,yw 37),(82,yw 32),(77,yw 27),(64,yw 14),(59,yw 9),(107,.lit false),(102,.lit false)]})
         (.br (.aB (.var 0) (.lit 8))
          (.fin {lo:=50,az:=1,iv:=yo [(93,yv 43)]<|yr 91 41 4<|yr 86 36 4<|yr 81 31 4<|yr 76 26 8<|[(68,.lit 0),(67,.lit 1),(66,.lit 0),(65,.lit 0),(63,.lit 0),(62,.lit 0),(61,.lit 0),(60,.lit 0),(58,.lit 0),(57,.lit 0),(56,.lit 0),(55,.lit 0),(54,.lit 0),(53,.lit 0),(52,.lit 0),(51,.lit 12),(50,.lit (-1)),(111,.lit 0),(110,.lit 1),(109,.lit 0),(108,.lit 0),(106,.lit 0),(105,.lit 0),(104,.lit 0),(103,.lit 0),(101,.lit 0),(100,.lit 0),(99,.lit 0),(98,.lit 0),(97,.lit 0),(96,.lit 0),(95,.lit 0),(94,.lit 12)],bv:=[(92,yw 42),(87,yw 37),(82,yw 32),(77,yw 27),(64,.lit false),(59,.lit false),(107,.lit false),(102,.lit false)]})
          (.fin {lo:=50,az:=1,iv:=yo [(93,yv 43)]<|yr 91 41 4<|yr 86 36 4<|yr 81 31 4<|yr 76 26 12<|yr 63 13 4<|yr 58 8 9<|yr 111 18 4<|yr 106 13 4<|yr 101 8 8 [],bv:=[(92,yw 42),(87,yw 37),(82,yw 32),(77,yw 27),(64,yw 14),(59,yw 9),(107,yw 14),(102,yw 9)]}))))))))))
 (.br (.aB (.var 0) (.lit 1))
  (.fin {lo:=50,az:=1,iv:=yo [(93,yv 43)]<|yr 91 41 4<|yr 86 36 4<|yr 81 47 4<|yr 76 26 12<|yr 63 13 4<|yr 58 8 8<|[(50,.lit 2),(111,.lit 0),(110,.lit 0),(109,.lit 0),(108,.lit 0),(106,.lit 0),(105,.lit 0),(104,.lit 0),(103,.lit 0),(101,.lit 0),(100,.lit 0),(99,.lit 0),(98,.lit 0),(97,.lit 1),(96,.lit 0),(95,.lit 0),(94,.lit 3)],bv:=[(92,yw 42),(87,yw 37),(82,yw 48),(77,yw 27),(64,yw 14),(59,yw 9),(107,.lit false),(102,.lit false)]})
  (.br (.aB (.var 0) (.lit 2))
   (.fin {lo:=50,az:=1,iv:=yo [(93,yv 43)]<|yr 91 41 4<|yr 86 47 4<|yr 81 31 4<|yr 76 26 12<|yr 63 13 4<|yr 58 8 8<|[(50,.lit 3),(111,.lit 0),(110,.lit 0),(109,.lit 0),(108,.lit 1),(106,.lit 0),(105,.lit 0),(104,.lit 0),(103,.lit 0),(101,.lit 0),(100,.lit 0),(99,.lit 0),(98,.lit 0),(97,.lit 2),(96,yv 29),(95,yv 28),(94,.lit 6)],bv:=[(92,yw 42),(87,yw 48),(82,yw 32),(77,yw 27),(64,yw 14),(59,yw 9),(107,.lit false),(102,.lit false)]})
   (.br (.aB (.var 0) (.lit 3))
    (.fin {lo:=50,az:=1,iv:=yo [(93,yv 43)]<|yr 91 47 4<|yr 86 36 4<|yr 81 31 4<|yr 76 26 12<|yr 63 13 4<|yr 58 8 8<|[(50,.lit 4),(111,.lit 0),(110,.lit 0),(109,.lit 0),(108,.lit 0),(106,.lit 0),(105,.lit 0),(104,.lit 0),(103,.lit 0),(101,.lit 0),(100,.lit 0),(99,.lit 0),(98,.lit 0),(97,.lit 0),(96,.lit 0),(95,.lit 0),(94,.lit 3)],bv:=[(92,yw 48),(87,yw 37),(82,yw 32),(77,yw 27),(64,yw 14),(59,yw 9),(107,.lit false),(102,.lit false)]})
    (.br (.aB (.var 0) (.lit 4))
     (.br (.not (.and (.aB (.var 44) (.var 28)) (.and (.aB (.var 46) (.var 30)) (.and (.aB (.var 47) (.var 31)) (.beq (.var 48) (.var 32))))))
      (.fin {lo:=50,az:=1,iv:=yo [(93,yv 43)]<|yr 91 41 4<|yr 86 36 4<|yr 81 31 4<|yr 76 26 12<|yr 63 13 4<|yr 58 8 8<|[(50,.lit 1),(111,.lit 0),(110,.lit 0),(109,.lit 0),(108,.lit 0),(106,.lit 0),(105,.lit 0),(104,.lit 0),(103,.lit 0),(101,.lit 0),(100,.lit 0),(99,.lit 0),(98,.lit 0),(97,.lit 0),(96,.lit 0),(95,.lit 0),(94,.lit 6)],bv:=[(92,yw 42),(87,yw 37),(82,yw 32),(77,yw 27),(64,yw 14),(59,yw 9),(107,.lit false),(102,.lit false)]})
      (.br (.aB (.var 38) (.lit 0))
       (.fin {lo:=50,az:=1,iv:=yo [(93,yv 43)]<|yr 91 41 4<|yr 86 36 4<|yr 81 31 4<|yr 76 26 8<|[(68,.lit 0),(67,.lit 2),(66,.lit 0),(65,.lit 0),(63,.lit 0),(62,.lit 0),(61,.lit 0),(60,.lit 0),(58,.lit 0),(57,.lit 0),(56,.lit 0),(55,.lit 0),(54,.lit 0),(53,.lit 0),(52,.lit 0),(51,.lit 12),(50,.lit (-1)),(111,.lit 0),(110,.lit 2),(109,.lit 0),(108,.lit 0),(106,.lit 0),(105,.lit 0),(104,.lit 0),(103,.lit 0),(101,.lit 0),(100,.lit 0),(99,.lit 0),(98,.lit 0),(97,.lit 0),(96,.lit 0),(95,.lit 0),(94,.lit 12)],bv:=[(92,yw 42),(87,yw 37),(82,yw 32),(77,yw 27),(64,.lit false),(59,.lit false),(107,.lit false),(102,.lit false)]})
       (.br (.aB (.var 28) (.var 33))
        (.ob (.inr .i64 (.add (.var 35) (.lit 1))) <|
         .fin {lo:=50,az:=1,iv:=yo [(93,yv 43)]<|yr 91 41 4<|yr 86 36 4<|yr 81 31 4<|yr 76 26 12<|yr 63 13 4<|yr 58 8 8<|yo [(50,.lit 5),(111,.lit 0),(110,.lit 0),(109,.lit 0),(108,.lit 0),(106,.lit 0),(105,.add (.var 35) (.lit 1)),(104,yv 39),(103,yv 38)]<|yr 101 36 4<|[(97,.lit 1),(96,.lit 0),(95,.lit 0),(94,.lit 5)],bv:=[(92,yw 42),(87,yw 37),(82,yw 32),(77,yw 27),(64,yw 14),(59,yw 9),(107,.lit false),(102,yw 37)]})
        (.fin {lo:=50,az:=1,iv:=yo [(93,yv 43)]<|yr 91 41 4<|yr 86 36 4<|yr 81 31 4<|yr 76 26 12<|yr 63 13 4<|yr 58 8 8<|[(50,.lit 6),(111,.lit 0),(110,.lit 0),(109,.lit 0),(108,.lit 0),(106,.lit 0),(105,.lit 0),(104,.lit 0),(103,.lit 0),(101,.lit 0),(100,.lit 0),(99,.lit 0),(98,.lit 0),(97,.lit 1),(96,yv 39),(95,yv 38),(94,.lit 3)],bv:=[(92,yw 42),(87,yw 37),(82,yw 32),(77,yw 27),(64,yw 14),(59,yw 9),(107,.lit false),(102,.lit false)]}))))
     (.br (.aB (.var 0) (.lit 6))
      (.ob (.inr .i64 (.add (.var 30) (.lit 1))) <|
       .fin {lo:=50,az:=1,iv:=yo [(93,yv 47)]<|yr 91 41 4<|yr 86 36 4<|yr 81 31 4<|yr 76 26 12<|yr 63 13 4<|yr 58 8 8<|yo [(50,.lit 7),(111,.lit 0),(110,.lit 0),(109,.lit 0),(108,.lit 0),(106,.lit 0),(105,.add (.var 30) (.lit 1)),(104,yv 39),(103,yv 38)]<|yr 101 31 4<|[(97,.lit 0),(96,.lit 0),(95,.lit 0),(94,.lit 5)],bv:=[(92,yw 42),(87,yw 37),(82,yw 32),(77,yw 27),(64,yw 14),(59,yw 9),(107,.lit false),(102,yw 32)]})
      (.br (.aB (.var 0) (.lit 7))
       (.br (.var 49)
        (.fin {lo:=50,az:=1,iv:=yo [(93,yv 43)]<|yr 91 41 4<|yr 86 36 4<|yr 81 31 4<|yr 76 26 12<|yr 63 13 4<|yr 58 8 8<|yo [(50,.lit 8),(111,.lit 0),(110,.lit 0),(109,.lit 0),(108,.lit 0),(106,.lit 0),(105,.lit 0),(104,.lit 0),(103,.lit 0)]<|yr 101 31 4<|[(97,.lit 0),(96,.lit 0),(95,.lit 0),(94,.lit 10)],bv:=[(92,yw 42),(87,yw 37),(82,yw 32),(77,yw 27),(64,yw 14),(59,yw 9),(107,.lit false),(102,yw 32)]})
        (.fin {lo:=50,az:=1,iv:=yo [(93,yv 43)]<|yr 91 41 4<|yr 86 36 4<|yr 81 31 4<|yr 76 26 12<|yr 63 13 4<|yr 58 8 8<|[(50,.lit 1),(111,.lit 0),(110,.lit 0),(109,.lit 0),(108,.lit 0),(106,.lit 0),(105,.lit 0),(104,.lit 0),(103,.lit 0),(101,.lit 0),(100,.lit 0),(99,.lit 0),(98,.lit 0),(97,.lit 0),(96,.lit 0),(95,.lit 0),(94,.lit 6)],bv:=[(92,yw 42),(87,yw 37),(82,yw 32),(77,yw 27),(64,yw 14),(59,yw 9),(107,.lit false),(102,.lit false)]}))
       (.br (.aB (.var 0) (.lit 0))
        (.fin {lo:=50,az:=1,iv:=yo [(93,yv 43)]<|yr 91 41 4<|yr 86 36 4<|yr 81 31 4<|yr 76 26 12<|yr 63 13 4<|yr 58 8 8<|[(50,.lit 1),(111,.lit 0),(110,.lit 0),(109,.lit 0),(108,.lit 0),(106,.lit 0),(105,.lit 0),(104,.lit 0),(103,.lit 0),(101,.lit 0),(100,.lit 0),(99,.lit 0),(98,.lit 0),(97,.lit 0),(96,.lit 0),(95,.lit 0),(94,.lit 6)],bv:=[(92,yw 42),(87,yw 37),(82,yw 32),(77,yw 27),(64,yw 14),(59,yw 9),(107,.lit false),(102,.lit false)]})
        (.br (.aB (.var 0) (.lit 5))
         (.fin {lo:=50,az:=1,iv:=yo [(93,yv 43)]<|yr 91 41 4<|yr 86 36 4<|yr 81 31 4<|yr 76 26 12<|yr 63 13 4<|yr 58 8 8<|[(50,.lit 1),(111,.lit 0),(110,.lit 0),(109,.lit 0),(108,.lit 0),(106,.lit 0),(105,.lit 0),(104,.lit 0),(103,.lit 0),(101,.lit 0),(100,.lit 0),(99,.lit 0),(98,.lit 0),(97,.lit 0),(96,.lit 0),(95,.lit 0),(94,.lit 6)],bv:=[(92,yw 42),(87,yw 37),(82,yw 32),(77,yw 27),(64,yw 14),(59,yw 9),(107,.lit false),(102,.lit false)]})
         (.br (.aB (.var 0) (.lit 8))
          (.fin {lo:=50,az:=1,iv:=yo [(93,yv 43)]<|yr 91 41 4<|yr 86 36 4<|yr 81 31 4<|yr 76 26 8<|[(68,yv 43),(67,.lit 1),(66,.lit 0),(65,.lit 0),(63,.lit 0),(62,.lit 0),(61,.lit 0),(60,.lit 0),(58,.lit 0),(57,.lit 0),(56,.lit 0),(55,.lit 0),(54,.lit 0),(53,.lit 0),(52,.lit 0),(51,.lit 12),(50,.lit (-1)),(111,yv 43),(110,.lit 1),(109,.lit 0),(108,.lit 0),(106,.lit 0),(105,.lit 0),(104,.lit 0),(103,.lit 0),(101,.lit 0),(100,.lit 0),(99,.lit 0),(98,.lit 0),(97,.lit 0),(96,.lit 0),(95,.lit 0),(94,.lit 12)],bv:=[(92,yw 42),(87,yw 37),(82,yw 32),(77,yw 27),(64,.lit false),(59,.lit false),(107,.lit false),(102,.lit false)]})
          (.fin {lo:=50,az:=1,iv:=yo [(93,yv 43)]<|yr 91 41 4<|yr 86 36 4<|yr 81 31 4<|yr 76 26 12<|yr 63 13 4<|yr 58 8 9<|yr 111 18 4<|yr 106 13 4<|yr 101 8 8 [],bv:=[(92,yw 42),(87,yw 37),(82,yw 32),(77,yw 27),(64,yw 14),(59,yw 9),(107,yw 14),(102,yw 9)]}))))))))))
theorem RJ:exec tab RI 8000 [] (dZ lu.f lu.nv [] lu.gl lu.hp lu.args)=De:=by kernel_rfl
def sV (ρ:Env) (v:Nat):Op:=⟨ρ.iv v,ρ.iv (v+1),ρ.iv (v+2),ρ.iv (v+3)⟩
def j5 (ρ:Env) (v:Nat):Jb:=⟨ρ.iv v,iW ρ (v+1),sV ρ (v+19),ak ρ (v+23),ak ρ (v+28),ak ρ (v+33),ak ρ (v+38),ρ.iv (v+43)⟩
def K5 (ρ:Env):Prop:=(j5 ρ 0).tg
def uA (ρ:Env):Prop:=j5 ρ 50=((j5 ρ 0).next (aG ρ 44)).1∧iW ρ 94=((j5 ρ 0).next (aG ρ 44)).2
theorem RL (ρ:Env) (hpre:K5 ρ.num):Sat uA [] [] ρ De:=by
 have hpre:(-1000000000000≤ρ.iv 30∧ρ.iv 30≤1000000000000)∧(-1000000000000≤ρ.iv 35∧ρ.iv 35≤1000000000000)∧(-1000000000000≤ρ.iv 40∧ρ.iv 40≤1000000000000):=hpre
 obtain ⟨⟨h1,h2⟩,⟨h3,h4⟩,h5,h6⟩:=hpre
 unfold De
 have fin:∀{σ:Sub} (q:Jb × Ca),(j5 ρ 0).next (aG ρ 44)=q→j5 (σ.ag ρ) 0=j5 ρ 0→aG (σ.ag ρ) 44=aG ρ 44→j5 (σ.ag ρ) 50=q.1→iW (σ.ag ρ) 94=q.2→uA (σ.ag ρ):=by
  intro σ q hq e1 e2 e3 e4
  unfold uA
  rw [e1,e2,e3,e4,hq]
  exact ⟨rfl,rfl⟩
 refine Sat.br (fun a1=>?_) (fun a1=>?_)
 all_goals simp only [Da] at a1
 ·skip
  refine Sat.br (fun a2=>?_) (fun a2=>?_)
  all_goals simp only [Da] at a2
  ·skip
   exact Sat.fin (fin _ ((if_pos a1).trans (if_pos a2)) rfl rfl rfl rfl)
  ·skip
   refine Sat.br (fun a3=>?_) (fun a3=>?_)
   all_goals simp only [Da] at a3
   ·skip
    refine Sat.br (fun a4=>?_) (fun a4=>?_)
    all_goals simp only [Da] at a4
    ·skip
     exact Sat.fin (fin _ ((if_pos a1).trans ((if_neg a2).trans ((if_pos a3).trans (if_pos a4)))) rfl rfl rfl rfl)
    ·skip
     exact Sat.fin (fin _ ((if_pos a1).trans ((if_neg a2).trans ((if_pos a3).trans (if_neg (fun z:ρ.bv 49=_=>by rw [a4] at z;cases z))))) rfl rfl rfl rfl)
   ·skip
    refine Sat.br (fun a5=>?_) (fun a5=>?_)
    all_goals simp only [Da] at a5
    ·skip
     exact Sat.fin (fin _ ((if_pos a1).trans ((if_neg a2).trans ((if_neg a3).trans (if_pos a5)))) rfl rfl rfl rfl)
    ·skip
     refine Sat.br (fun a6=>?_) (fun a6=>?_)
     all_goals simp only [Da] at a6
     ·skip
      exact Sat.fin (fin _ ((if_pos a1).trans ((if_neg a2).trans ((if_neg a3).trans ((if_neg a5).trans (if_pos a6))))) rfl rfl rfl rfl)
     ·skip
      refine Sat.br (fun a7=>?_) (fun a7=>?_)
      all_goals simp only [Da] at a7
      ·skip
       refine Sat.br (fun a8=>?_) (fun a8=>?_)
       all_goals simp only [Da] at a8
       ·skip
        exact Sat.fin (fin _ ((if_pos a1).trans ((if_neg a2).trans ((if_neg a3).trans ((if_neg a5).trans ((if_neg a6).trans ((if_pos a7).trans (if_pos (fun z=>a8.elim (fun q=>q z.1) fun q=>q.elim (fun q=>q z.2.1) fun q=>q.elim (fun q=>q z.2.2.1) fun q=>q z.2.2.2)))))))) rfl rfl rfl rfl)
       ·skip
        refine Sat.br (fun a9=>?_) (fun a9=>?_)
        all_goals simp only [Da] at a9
        ·skip
         refine Sat.ob (by simp only [Da];omega) ?_
         exact Sat.fin (fin _ ((if_pos a1).trans ((if_neg a2).trans ((if_neg a3).trans ((if_neg a5).trans ((if_neg a6).trans ((if_pos a7).trans ((if_neg (fun z=>z a8)).trans (if_pos a9)))))))) rfl rfl rfl rfl)
        ·skip
         refine Sat.ob (by simp only [Da];omega) ?_
         exact Sat.fin (fin _ ((if_pos a1).trans ((if_neg a2).trans ((if_neg a3).trans ((if_neg a5).trans ((if_neg a6).trans ((if_pos a7).trans ((if_neg (fun z=>z a8)).trans (if_neg (fun z=>z a9))))))))) rfl rfl rfl rfl)
      ·skip
       refine Sat.br (fun Bv=>?_) (fun Bv=>?_)
       all_goals simp only [Da] at Bv
       ·skip
        refine Sat.br (fun MP=>?_) (fun MP=>?_)
        all_goals simp only [Da] at MP
        ·skip
         refine Sat.ob (by simp only [Da];omega) ?_
         exact Sat.fin (fin _ ((if_pos a1).trans ((if_neg a2).trans ((if_neg a3).trans ((if_neg a5).trans ((if_neg a6).trans ((if_neg a7).trans ((if_pos Bv).trans (if_pos MP)))))))) rfl rfl rfl rfl)
        ·skip
         exact Sat.fin (fin _ ((if_pos a1).trans ((if_neg a2).trans ((if_neg a3).trans ((if_neg a5).trans ((if_neg a6).trans ((if_neg a7).trans ((if_pos Bv).trans (if_neg (fun z:ρ.bv 49=_=>by rw [MP] at z;cases z))))))))) rfl rfl rfl rfl)
       ·skip
        refine Sat.br (fun a12=>?_) (fun a12=>?_)
        all_goals simp only [Da] at a12
        ·skip
         exact Sat.fin (fin _ ((if_pos a1).trans ((if_neg a2).trans ((if_neg a3).trans ((if_neg a5).trans ((if_neg a6).trans ((if_neg a7).trans ((if_neg Bv).trans (if_pos (.inl a12))))))))) rfl rfl rfl rfl)
        ·skip
         refine Sat.br (fun RN=>?_) (fun RN=>?_)
         all_goals simp only [Da] at RN
         ·skip
          exact Sat.fin (fin _ ((if_pos a1).trans ((if_neg a2).trans ((if_neg a3).trans ((if_neg a5).trans ((if_neg a6).trans ((if_neg a7).trans ((if_neg Bv).trans (if_pos (.inr RN))))))))) rfl rfl rfl rfl)
         ·skip
          refine Sat.br (fun V4=>?_) (fun V4=>?_)
          all_goals simp only [Da] at V4
          ·skip
           exact Sat.fin (fin _ ((if_pos a1).trans ((if_neg a2).trans ((if_neg a3).trans ((if_neg a5).trans ((if_neg a6).trans ((if_neg a7).trans ((if_neg Bv).trans ((if_neg (fun z=>z.elim a12 RN)).trans (if_pos V4))))))))) rfl rfl rfl rfl)
          ·skip
           exact Sat.fin (fin _ ((if_pos a1).trans ((if_neg a2).trans ((if_neg a3).trans ((if_neg a5).trans ((if_neg a6).trans ((if_neg a7).trans ((if_neg Bv).trans ((if_neg (fun z=>z.elim a12 RN)).trans (if_neg V4))))))))) rfl rfl rfl rfl)
 ·skip
  refine Sat.br (fun qP=>?_) (fun qP=>?_)
  all_goals simp only [Da] at qP
  ·skip
   exact Sat.fin (fin _ ((if_neg a1).trans (if_pos qP)) rfl rfl rfl rfl)
  ·skip
   refine Sat.br (fun a16=>?_) (fun a16=>?_)
   all_goals simp only [Da] at a16
   ·skip
    exact Sat.fin (fin _ ((if_neg a1).trans ((if_neg qP).trans (if_pos a16))) rfl rfl rfl rfl)
   ·skip
    refine Sat.br (fun a17=>?_) (fun a17=>?_)
    all_goals simp only [Da] at a17
    ·skip
     exact Sat.fin (fin _ ((if_neg a1).trans ((if_neg qP).trans ((if_neg a16).trans (if_pos a17)))) rfl rfl rfl rfl)
    ·skip
     refine Sat.br (fun vU=>?_) (fun vU=>?_)
     all_goals simp only [Da] at vU
     ·skip
      refine Sat.br (fun M9=>?_) (fun M9=>?_)
      all_goals simp only [Da] at M9
      ·skip
       exact Sat.fin (fin _ ((if_neg a1).trans ((if_neg qP).trans ((if_neg a16).trans ((if_neg a17).trans ((if_pos vU).trans (if_pos (fun z=>M9.elim (fun q=>q z.1) fun q=>q.elim (fun q=>q z.2.1) fun q=>q.elim (fun q=>q z.2.2.1) fun q=>q z.2.2.2))))))) rfl rfl rfl rfl)
      ·skip
       refine Sat.br (fun a20=>?_) (fun a20=>?_)
       all_goals simp only [Da] at a20
       ·skip
        exact Sat.fin (fin _ ((if_neg a1).trans ((if_neg qP).trans ((if_neg a16).trans ((if_neg a17).trans ((if_pos vU).trans ((if_neg (fun z=>z M9)).trans (if_pos a20))))))) rfl rfl rfl rfl)
       ·skip
        refine Sat.br (fun a21=>?_) (fun a21=>?_)
        all_goals simp only [Da] at a21
        ·skip
         refine Sat.ob (by simp only [Da];omega) ?_
         exact Sat.fin (fin _ ((if_neg a1).trans ((if_neg qP).trans ((if_neg a16).trans ((if_neg a17).trans ((if_pos vU).trans ((if_neg (fun z=>z M9)).trans ((if_neg a20).trans (if_pos a21)))))))) rfl rfl rfl rfl)
        ·skip
         exact Sat.fin (fin _ ((if_neg a1).trans ((if_neg qP).trans ((if_neg a16).trans ((if_neg a17).trans ((if_pos vU).trans ((if_neg (fun z=>z M9)).trans ((if_neg a20).trans (if_neg a21)))))))) rfl rfl rfl rfl)
     ·skip
      refine Sat.br (fun a22=>?_) (fun a22=>?_)
      all_goals simp only [Da] at a22
      ·skip
       refine Sat.ob (by simp only [Da];omega) ?_
       exact Sat.fin (fin _ ((if_neg a1).trans ((if_neg qP).trans ((if_neg a16).trans ((if_neg a17).trans ((if_neg vU).trans (if_pos a22)))))) rfl rfl rfl rfl)
      ·skip
       refine Sat.br (fun a23=>?_) (fun a23=>?_)
       all_goals simp only [Da] at a23
       ·skip
        refine Sat.br (fun a24=>?_) (fun a24=>?_)
        all_goals simp only [Da] at a24
        ·skip
         exact Sat.fin (fin _ ((if_neg a1).trans ((if_neg qP).trans ((if_neg a16).trans ((if_neg a17).trans ((if_neg vU).trans ((if_neg a22).trans ((if_pos a23).trans (if_pos a24)))))))) rfl rfl rfl rfl)
        ·skip
         exact Sat.fin (fin _ ((if_neg a1).trans ((if_neg qP).trans ((if_neg a16).trans ((if_neg a17).trans ((if_neg vU).trans ((if_neg a22).trans ((if_pos a23).trans (if_neg (fun z:ρ.bv 49=_=>by rw [a24] at z;cases z))))))))) rfl rfl rfl rfl)
       ·skip
        refine Sat.br (fun a25=>?_) (fun a25=>?_)
        all_goals simp only [Da] at a25
        ·skip
         exact Sat.fin (fin _ ((if_neg a1).trans ((if_neg qP).trans ((if_neg a16).trans ((if_neg a17).trans ((if_neg vU).trans ((if_neg a22).trans ((if_neg a23).trans (if_pos (.inl a25))))))))) rfl rfl rfl rfl)
        ·skip
         refine Sat.br (fun a26=>?_) (fun a26=>?_)
         all_goals simp only [Da] at a26
         ·skip
          exact Sat.fin (fin _ ((if_neg a1).trans ((if_neg qP).trans ((if_neg a16).trans ((if_neg a17).trans ((if_neg vU).trans ((if_neg a22).trans ((if_neg a23).trans (if_pos (.inr a26))))))))) rfl rfl rfl rfl)
         ·skip
          refine Sat.br (fun a27=>?_) (fun a27=>?_)
          all_goals simp only [Da] at a27
          ·skip
           exact Sat.fin (fin _ ((if_neg a1).trans ((if_neg qP).trans ((if_neg a16).trans ((if_neg a17).trans ((if_neg vU).trans ((if_neg a22).trans ((if_neg a23).trans ((if_neg (fun z=>z.elim a25 a26)).trans (if_pos a27))))))))) rfl rfl rfl rfl)
          ·skip
           exact Sat.fin (fin _ ((if_neg a1).trans ((if_neg qP).trans ((if_neg a16).trans ((if_neg a17).trans ((if_neg vU).trans ((if_neg a22).trans ((if_neg a23).trans ((if_neg (fun z=>z.elim a25 a26)).trans (if_neg a27))))))))) rfl rfl rfl rfl)
theorem RO:aV Tryz.prog lu K5 uA :=
 cK dF (E:=RI) (cs:=[]) rfl (fun k pre post h=>by cases h) bO rfl RJ (by kernel_rfl) (fun ρ _ p hp=>by cases hp) RL
end Go.Proofs.YthomdlajobnmnaaGreatDoor.Cq
namespace Go.Proofs.YthomdlajobnmnaaGreatDoor.Cq
open Go.Rex
def H5 (ρ:Env):Prop:=(sV ρ 0).dD
def o5 (ρ:Env):Prop:=j5 ρ 4=Jb.new (sV ρ 0)
noncomputable def Bb:Ex:={sched:=sched,loops:=[],cons:=[],fin:=fF}
def UC:Kn:=[(.aB (.var 0) (.lit 4),true),(.aB (.var 1) (.lit 0),true),(.aB (.var 3) (.lit 0),true),(.aA (.lit 0) (.var 2),true),(.aA (.var 2) (.lit 1073741824),true)]
def O7:Out :=
 .fin {lo:=4,az:=0,iv:=yo [(47,.lit 0),(45,.lit 0),(44,.lit 0),(43,.lit 0),(42,.lit 0),(40,.lit 0),(39,.lit 0),(38,.lit 0),(37,.lit 0),(35,.lit 0),(34,.lit 0),(33,.lit 0),(32,.lit 0),(30,.lit 0),(29,.lit 0),(28,.lit 0),(27,.lit 0)]<|yr 26 3 4<|[(22,.lit 0),(21,.lit 0),(20,.lit 0),(19,.lit 0),(17,.lit 0),(16,.lit 0),(15,.lit 0),(14,.lit 0),(12,.lit 0),(11,.lit 0),(10,.lit 0),(9,.lit 0),(8,.lit 0),(7,.lit 0),(6,.lit 0),(5,.lit 0),(4,.lit 0)],bv:=[(46,.lit false),(41,.lit false),(36,.lit false),(31,.lit false),(18,.lit false),(13,.lit false)],bk:=[(0,yb 1)]}
theorem LJ:exec tab Bb 8000 [] (dZ fF.f fF.nv UC fF.gl fF.hp fF.args)=O7:=by kernel_rfl
def O8 (ρ:Env):Prop:=ρ.iv 0=4∧ρ.iv 1=0∧ρ.iv 3=0∧0≤ρ.iv 2∧ρ.iv 2≤1073741824
theorem LK:aV Tryz.prog fF O8 o5 :=
 cK dF (E:=Bb) (cs:=[]) rfl (fun k pre post h=>by cases h) bO rfl LJ (by kernel_rfl) (fun ρ h p hp=>by
   obtain ⟨f0,f1,f2,f3,f4⟩:=h
   simp only [UC,List.mem_cons,List.not_mem_nil,or_false] at hp
   rcases hp with rfl | rfl | rfl | rfl | rfl
   · exact beq_iff_eq.2 f0
   · exact beq_iff_eq.2 f1
   · exact beq_iff_eq.2 f2
   · exact decide_eq_true f3
   · exact decide_eq_true f4
   ) fun ρ h=>Sat.fin (show o5 _ from rfl)
def UD:Kn:=[(.aB (.var 0) (.lit 4),false),(.aB (.var 0) (.lit 5),true),(.aB (.var 1) (.lit 0),true),(.aB (.var 2) (.lit 0),true),(.aB (.var 3) (.lit 0),true)]
def O9:Out :=
 .fin {lo:=4,az:=0,iv:=yo [(47,.lit 0),(45,.lit 0),(44,.lit 0),(43,.lit 0),(42,.lit 0),(40,.lit 0),(39,.lit 0),(38,.lit 0),(37,.lit 0),(35,.lit 0),(34,.lit 0),(33,.lit 0),(32,.lit 0),(30,.lit 0),(29,.lit 0),(28,.lit 0),(27,.lit 0)]<|yr 26 3 4<|[(22,.lit 0),(21,.lit 0),(20,.lit 0),(19,.lit 0),(17,.lit 0),(16,.lit 0),(15,.lit 0),(14,.lit 0),(12,.lit 0),(11,.lit 0),(10,.lit 0),(9,.lit 0),(8,.lit 0),(7,.lit 0),(6,.lit 0),(5,.lit 0),(4,.lit 0)],bv:=[(46,.lit false),(41,.lit false),(36,.lit false),(31,.lit false),(18,.lit false),(13,.lit false)],bk:=[(0,yb 1)]}
theorem LM:exec tab Bb 8000 [] (dZ fF.f fF.nv UD fF.gl fF.hp fF.args)=O9:=by kernel_rfl
def Pb (ρ:Env):Prop:=¬ρ.iv 0=4∧ρ.iv 0=5∧ρ.iv 1=0∧ρ.iv 2=0∧ρ.iv 3=0
theorem LP:aV Tryz.prog fF Pb o5 :=
 cK dF (E:=Bb) (cs:=[]) rfl (fun k pre post h=>by cases h) bO rfl LM (by kernel_rfl) (fun ρ h p hp=>by
   obtain ⟨f0,f1,f2,f3,f4⟩:=h
   simp only [UD,List.mem_cons,List.not_mem_nil,or_false] at hp
   rcases hp with rfl | rfl | rfl | rfl | rfl
   · exact beq_eq_false_iff_ne.2 f0
   · exact beq_iff_eq.2 f1
   · exact beq_iff_eq.2 f2
   · exact beq_iff_eq.2 f3
   · exact beq_iff_eq.2 f4
   ) fun ρ h=>Sat.fin (show o5 _ from rfl)
theorem XA {P:Program} {k:dJ} {pre Ky Kz post:Env→Prop} (h1:aV P k Ky post) (h2:aV P k Kz post) (hp:∀ρ,pre ρ→Ky ρ∨Kz ρ):aV P k pre post :=
 ⟨h1.fn,fun ρ ν w a b c=>(hp _ c).elim (h1.run ρ ν w a b) (h2.run ρ ν w a b)⟩
theorem Pf:aV Tryz.prog fF H5 o5 :=
 XA LK LP fun ρ h=>by
  unfold H5 Op.dD at h
  by_cases h1:ρ.iv 0=4
  ·rw [if_pos (show (sV ρ 0).kind=4 from h1)] at h
   obtain ⟨a,b,c,d⟩:=h
   exact .inl ⟨h1,a,b,c,d⟩
  ·rw [if_neg (show ¬(sV ρ 0).kind=4 from h1)] at h
   obtain ⟨a,b,c,d⟩:=h
   exact .inr ⟨h1,a,b,c,d⟩
end Go.Proofs.YthomdlajobnmnaaGreatDoor.Cq
namespace Go.Proofs.YthomdlajobnmnaaGreatDoor.Cq
open Go.RowKit Go.Rex
def kK:List SB:=[MZ 0]
theorem EL:nE kK=true:=by kernel_rfl
structure jB (w:World) (a:Addr) (j:Jb) (B:Nat→Prop):Prop where
 ex:∃ρ ν,ν 0=a∧aH ρ ν kK w∧j5 ρ 0=j∧∀b,gP ρ ν kK b→B b
section
variable {w w':World} {a:Addr} {j:Jb} {B B':Nat→Prop}
theorem jB.frame (h:jB w a j B) (hk:∀b,B b→w'.heap[b]?=w.heap[b]?):jB w' a j B:=by
 obtain ⟨ρ,ν,h1,h2,h3,h5⟩:=h.ex
 exact ⟨ρ,ν,h1,h2.zR EL fun b hb=>hk b (h5 b hb),h3,h5⟩
theorem jB.mono (h:jB w a j B) (hk:∀b,B b→b<w.heap.size→B' b):jB w a j B':=by
 obtain ⟨ρ,ν,h1,h2,h3,h5⟩:=h.ex
 exact ⟨ρ,ν,h1,h2,h3,fun b hb=>hk b (h5 b hb) (nP h2 hb)⟩
end
def V5 (o:Op):Value:=.agg #[.int .i64 o.kind,.int .i64 o.key,.int .i64 o.val,.int .i64 o.xO]
def V6 (o:Op):Env:=CU (fun i=>([o.kind,o.key,o.val,o.xO]:List Int).getD i 0) fun _=>false
theorem UL {w:World} {o:Op} (h:o.dD) :
  Calls Tryz.prog 47 #[V5 o] w fun ev w'=>∃a B,ev=.returned (.tuple #[.pointer (some a),.nilIface])∧jB w' a (Jb.new o) B∧(∀b,B b→w.heap.size≤b)∧Nw w w':=by
 have hrun:=Pf.run (V6 o) (fun _=>⟨0,0,none⟩) w EH ⟨fun g k _ h=>(by cases h),fun g g' k k' _ _ h=>(by cases h)⟩ h
 refine Calls.mono hrun ?_
 rintro e w' ⟨ρ,ν,hA,rfl,gJ,hwr,how,q1⟩
 have hn:∀b,¬iU (V6 o) (fun _=>(⟨0,0,none⟩:Addr)) fF.hp b:=fun b ⟨k,sb,hk,_⟩=>by
  have hk:([]:List SB)[k]?=some sb:=hk
  simp at hk
 have e0:sV ρ 0=o:=by
  unfold sV
  rw [hA.iv 0 (by decide),hA.iv 1 (by decide),hA.iv 2 (by decide),hA.iv 3 (by decide)]
  rfl
 have sub:(List.range kK.length).map (fun j=>fF.hp'[id j]?)=kK.map fun sb=>some (sb.aU (·+4) id):=by kernel_rfl
 replace q1:j5 ρ 4=Jb.new (sV ρ 0):=q1
 rw [e0] at q1
 refine ⟨ν 0,_,rfl,⟨ρ.pull (·+4),fun k=>ν (id k),rfl,gJ.sub sub fun i j _ _ h=>h,q1,fun _ h=>h⟩,fun b hb=>((how.sub sub).aC EL hb).elim id fun h=>absurd h (hn b),hwr.os,hwr.tape,hwr.output,hwr.size,fun k hk _=>hwr.block k hk (hn k)⟩
theorem XB {w:World} {a:Addr} {j:Jb} {B:Nat→Prop} {x:Rp} (h:jB w a j B) (ht:j.tg) :
  Calls Tryz.prog 48 #[.pointer (some a),iM x] w fun ev w'=>ev=.returned (qg (j.next x).2)∧∃B',jB w' a (j.next x).1 B'∧(∀b,B' b→w.heap.size≤b∨B b)∧bC w B w':=by
 obtain ⟨ρ,ν,rfl,hh0,rfl,hB⟩:=h.ex
 have hA:dC 44 1 ρ (ρ.cat 44 (IK x)) ν ν:=⟨fun _ h=>if_pos h,fun _ h=>if_pos h,fun _ h=>if_pos h,fun _ h=>if_pos h,fun _ h=>if_pos h,fun _ h=>if_pos h,fun _ _=>rfl⟩
 obtain ⟨q,hq⟩:∃q,q=ρ.cat 44 (IK x):=⟨_,rfl⟩
 rw [←hq] at hA
 have hh:aH q ν kK w:=hh0.ext hA (by kernel_rfl) (by decide)
 have e1:j5 q 0=j5 ρ 0:=by rw [hq];rfl
 have e2:aG q 44=x:=by rw [hq];rfl
 rw [←e1] at ht
 have hrun:=RO.run q ν w hh ⟨fun g k _ h=>(by cases h),fun g g' k k' _ _ h=>(by cases h)⟩ ht
 have hargs:(lu.args.map (·.den q ν)).toArray=#[.pointer (some (ν 0)),iM x]:=by
  rw [hq]
  rfl
 rw [hargs] at hrun
 refine Calls.mono hrun ?_
 rintro ev w' ⟨ρ',aI,hA',rfl,gJ,hwr,how,q1,q2⟩
 have e0:j5 ρ' 0=j5 q 0:=by
  unfold j5 iW sV ak
  simp (disch:=decide) only [hA'.iv,hA'.bv]
 have e3:aG ρ' 44=aG q 44:=by
  unfold aG ak
  simp (disch:=decide) only [hA'.iv,hA'.bv]
 replace q1:j5 ρ' 50=((j5 ρ' 0).next (aG ρ' 44)).1:=q1
 replace q2:iW ρ' 94=((j5 ρ' 0).next (aG ρ' 44)).2:=q2
 rw [e0,e3,e1,e2] at q1 q2
 have sub:(List.range kK.length).map (fun j=>lu.hp'[id j]?)=kK.map fun sb=>some (sb.aU (·+50) id):=by kernel_rfl
 have lN:∀x,iU q ν kK x→B x:=fun x h=>hB x ((qE hA (by kernel_rfl) (by decide)).1 (mo h))
 refine ⟨?_,_,⟨ρ'.pull (·+50),fun k=>aI (id k),?_,gJ.sub sub (fun i j _ _ h=>h),q1,fun _ h=>h⟩,fun b hb=>((how.sub sub).aC EL hb).imp id (lN b),hwr.os,hwr.tape,hwr.output,hwr.size,fun b hb hn=>hwr.block b hb fun h=>hn (lN b h)⟩
 ·rw [←q2]
  rfl
 ·show aI 0=ν 0
  exact hA'.bl 0 (by decide)
end Go.Proofs.YthomdlajobnmnaaGreatDoor.Cq
