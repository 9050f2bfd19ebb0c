/- part 31 of the proof -/
import Derived.Test.YthomdlajobnmnaaGreatDoorChecked
import Derived.WalkKit
import Derived.LaidEql
import Derived.Stop.Asserts
import Derived.RowKitTokens
import Derived.Deep.RegionHeld3
import Derived.Maps.AppendAt
import Derived.Test.YthomdlajobnmnaaGreatDoorX11
import Derived.Test.YthomdlajobnmnaaGreatDoorX16
import Derived.Test.YthomdlajobnmnaaGreatDoorX17
import Derived.Test.YthomdlajobnmnaaGreatDoorX18
import Derived.Test.YthomdlajobnmnaaGreatDoorX24
import Derived.Test.YthomdlajobnmnaaGreatDoorX30
import Derived.Test.YthomdlajobnmnaaGreatDoorX9
namespace Go.Proofs.YthomdlajobnmnaaGreatDoor
open Go.RowKit Go.Extern.Stop Go.Stop Go.Extern
theorem Zw (v:Value) (w:World):(Extern.ReflectliteType.typeOf #[.iface 224 v]).run Tryz.prog w=.ok (.iface 188 (.agg #[.pointer (some ⟨8,224,none⟩)])) w:=by kernel_rfl
def afz:Array Value→Sem Value:=Extern.ReflectliteType.method fun t=>do Extern.Rtype.noPackHeld "Comparable" t;pure (.bool (←typeInfo t).comparable)
theorem Ov (w:World):(afz #[.agg #[.pointer (some ⟨8,224,none⟩)]]).run Tryz.prog w=.ok (.bool true) w:=by kernel_rfl
theorem Cs (v:Value) (w:World):(Go.method 361 188 v "Comparable").run Tryz.prog w=.ok (174,v) w:=by kernel_rfl
theorem afA:(Tryz.prog.info? 224).map (·.comparable)=some true:=by kernel_rfl
theorem afB:(Tryz.prog.info? 249).map (·.size)=some 1:=by kernel_rfl
theorem agn (v:Value) (xT:TypeId) (w:World):(Instr.typeAssert (.iface 161 v) xT 190 true).run Tryz.prog w=.ok (.tuple #[.nilIface,.bool false]) w:=run_typeAssert_lacksB Tryz.underlying190 (by kernel_rfl) (by kernel_rfl) v xT w
theorem TR (v:Value) (xT:TypeId) (w:World):(Instr.typeAssert (.iface 161 v) xT 193 true).run Tryz.prog w=.ok (.tuple #[.iface 161 v,.bool true]) w:=run_typeAssert_hasB Tryz.underlying193 (by kernel_rfl) v xT w
theorem Ow (v:Value) (w:World):(Go.method 361 161 v "Unwrap").run Tryz.prog w=.ok (170,v) w:=by kernel_rfl
theorem Ox (a:Addr) (b:Addr) (w:World) (h1:w.cell? ⟨a.block,a.off+1,none⟩=some (.iface 224 (.pointer (some b)))) :
  Calls Tryz.prog 31 #[.iface 161 (.pointer (some a)),.iface 224 (.pointer (some b))] w fun e w'=>e=.returned (.bool true)∧w'=w:=by
 obtain ⟨i,hi,hcmp⟩:=Option.map_eq_some_iff.1 afA
 obtain ⟨j,hj,hjs⟩:=Option.map_eq_some_iff.1 afB
 have h8:=@run_callFunc_extern Tryz.prog 60 _ Extern.ReflectliteType.typeOf Tryz.func60 (by kernel_rfl) (by kernel_rfl) (by kernel_rfl) (by kernel_rfl)
 have h32:=@run_callFunc_extern Tryz.prog 174 _ afz Tryz.func174 (by kernel_rfl) (by kernel_rfl) (by kernel_rfl) (by kernel_rfl)
 have tT:=Zw
 have cT:=Ov
 have mR:=Cs
 have nW:=agn
 have uW:=TR
 have mU:=Ow
 have heq:=run_eql_iface_ptr_same (P:=Tryz.prog) w b Tryz.underlying36 Tryz.underlying224 hi hcmp hj
 have hty:=run_eql_iface_types (P:=Tryz.prog) 161 224 (.pointer (some a)) (.pointer (some b)) Tryz.underlying36 (by decide) w
 go_enter Tryz.func31,Tryz.ntmps31
 go_wp2
 refine wp_loop_rounds 2 ?_
 rw [rounds_succ]
 go_wp2
 rw [rounds_succ]
 go_wp2
 go_ret
 exact ⟨rfl,rfl⟩
end Go.Proofs.YthomdlajobnmnaaGreatDoor
set_option linter.unusedSimpArgs false
set_option linter.unusedVariables false
namespace Go.Proofs.YthomdlajobnmnaaGreatDoor
open Go.RowKit Go.Rex
def afC:Bool × List FK:=(false,[.sl 3 [.int .i64]])
theorem acr:bg Tryz.prog isE nO nO:=by
 refine X5 ⟨_,Tryz.func31,by kernel_rfl,by kernel_rfl⟩ rfl (fun ρ ν w iw _ _=>?_) fun _ _=>trivial
 obtain ⟨-,cs,hcs,hrd⟩:=iw.rd 0 _ rfl rfl rfl
 have h1:=hrd 1 _ (hcs.ex 1 _ rfl rfl)
 have e0:SA.den ρ ν {aC:=0}=ν 0:=by simp [SA.den,SA.off,IE.den,Addr.add_zero]
 have e1:SA.den ρ ν {aC:=1}=ν 1:=by simp [SA.den,SA.off,IE.den,Addr.add_zero]
 have h2:w.cell? ⟨(ν 0).block,(ν 0).off+1,none⟩=some (.iface 224 (.pointer (some (ν 1)))):=by
  have h1:w.cell? ((ν 0).add 1)=some (.iface 224 (.pointer (some (SA.den ρ ν {aC:=1})))):=h1
  rw [e1] at h1
  exact h1
 have hc:=Ox (ν 0) (ν 1) w h2
 show Calls Tryz.prog 31 #[.iface 161 (.pointer (some (SA.den ρ ν {aC:=0}))),.iface 224 (.pointer (some (SA.den ρ ν {aC:=1})))] w _
 rw [e0,e1]
 exact hc
def Rd (w:World) (v:Value) (l:List Int):Prop :=
 ∃A c,v=.slice A l.length c∧l.length≤c∧c≤9223372036854775807∧∀k,k<l.length→∃ad,A=some ad∧w.cell? (ad.add k)=some (.int .i64 (l.getD k 0))
theorem agp {ρ:Env} {ν:Nat→Addr} {w:World} {b k:Nat} {H:List SB} (hp:aH ρ ν H w) (hb:H[k]?=some {t:=3,aX:=[{r:=b+3,n1:=.var (b+1),s1:=1,ks:=[.int .i64]}],ro:=true,nl:=.var b})
  (h:(ρ.bv b=true→ρ.iv (b+1)=0∧ρ.iv (b+2)=0)∧0≤ρ.iv (b+1)∧ρ.iv (b+1)≤ρ.iv (b+2)∧ρ.iv (b+2)≤9223372036854775807) :
  Rd w (SC.den ρ ν (.fw (.var b) {aC:=k,i1:=.lit 0,s1:=1} (.var (b+1)) (.var (b+2)))) ((List.range (ρ.iv (b+1)).toNat).map fun i=>ρ.ic (b+3) i 0 0):=by
 obtain ⟨h1,h2,h3,h4⟩:=h
 have hlen:((List.range (ρ.iv (b+1)).toNat).map fun i=>ρ.ic (b+3) i 0 0).length=(ρ.iv (b+1)).toNat:=by simp
 have hden:SC.den ρ ν (.fw (.var b) {aC:=k,i1:=.lit 0,s1:=1} (.var (b+1)) (.var (b+2)))=if ρ.bv b=true then .slice none 0 0 else .slice (some (ν k)) (ρ.iv (b+1)).toNat (ρ.iv (b+2)).toNat:=by
  simp [SC.den,BE.den,IE.den,SA.den,SA.off,Addr.add_zero]
 cases hnil:ρ.bv b with
 | true =>
  obtain ⟨z1,z2⟩:=h1 hnil
  refine ⟨none,0,?_,?_,by omega,fun j hj=>?_⟩
  ·rw [hden,hlen,z1,if_pos hnil]
   rfl
  ·rw [hlen,z1]
   decide
  ·rw [hlen,z1] at hj
   exact absurd hj (Nat.not_lt_zero _)
 | false =>
  refine ⟨some (ν k),(ρ.iv (b+2)).toNat,?_,?_,by omega,fun j hj=>⟨ν k,rfl,?_⟩⟩
  ·rw [hden,hlen,hnil,if_neg (by decide)]
  ·rw [hlen]
   omega
  ·rw [hlen] at hj
   obtain ⟨-,cs,hcs,hcell⟩:=hp.rd k _ hb (by simp [SB.dead,BE.den,hnil]) rfl
   have:=hcs.sg 0 _ rfl j 0 0 (by show (j:Int)<ρ.iv (b+1);omega) (by show 0<1;decide) (by show 0<1;decide)
   have h0:=hcell _ _ this
   simp only [Nat.mul_one,Nat.zero_mul,Nat.add_zero] at h0
   rw [h0]
   simp [cK,ae.base,hj]
theorem Pk (l:List SB):qF (l.map fun _=>ed)=true:=by
 induction l with
 | nil=>rfl
 | cons x r ih=>simpa [qF,ed] using ih
def Lf:List SB:=jd 36 ssE 0
structure SrE (w:World) (ν:Nat→Addr):Prop where
 hp:∃ρ,aH ρ ν Lf w
 gl:iQ ν (gK ssE 0)
theorem SrE.lt {w:World} {ν:Nat→Addr} (h:SrE w ν) {k:Nat} (hk:k<14):(ν k).block<w.heap.size:=by
 obtain ⟨⟨ρ,h1⟩,h2⟩:=h
 have hl:k<Lf.length:=hk
 have hd:∀sb∈Lf,sb.dead ρ=false:=by
  have hg:(Lf.all fun b=>!b.gone && (match b.nl with | .lit false=>true | _=>false))=true:=by kernel_rfl
  intro sb hsb
  have:=List.all_eq_true.1 hg sb hsb
  simp only [Bool.and_eq_true,Bool.not_eq_true'] at this
  obtain ⟨a,b⟩:=this
  unfold SB.dead
  rw [a]
  split at b
  ·rename_i he
   rw [he]
   rfl
  ·cases b
 exact h1.lt (List.getElem?_eq_getElem hl) (hd _ (List.getElem_mem hl))
def Lg:List SB:=jd 36 ssT 0
structure SrT (w:World) (ν:Nat→Addr):Prop where
 hp:∃ρ,aH ρ ν Lg w
 gl:iQ ν (gK ssT 0)
theorem SrT.lt {w:World} {ν:Nat→Addr} (h:SrT w ν) {k:Nat} (hk:k<12):(ν k).block<w.heap.size:=by
 obtain ⟨⟨ρ,h1⟩,h2⟩:=h
 have hl:k<Lg.length:=hk
 have hd:∀sb∈Lg,sb.dead ρ=false:=by
  have hg:(Lg.all fun b=>!b.gone && (match b.nl with | .lit false=>true | _=>false))=true:=by kernel_rfl
  intro sb hsb
  have:=List.all_eq_true.1 hg sb hsb
  simp only [Bool.and_eq_true,Bool.not_eq_true'] at this
  obtain ⟨a,b⟩:=this
  unfold SB.dead
  rw [a]
  split at b
  ·rename_i he
   rw [he]
   rfl
  ·cases b
 exact h1.lt (List.getElem?_eq_getElem hl) (hd _ (List.getElem_mem hl))
end Go.Proofs.YthomdlajobnmnaaGreatDoor
namespace Go.Proofs.YthomdlajobnmnaaGreatDoor.Cq
open Go.RowKit Go.Rex
def o8:List (Nat × TypeId × TypeId):=[(0,224,249),(1,224,249),(3,224,249),(4,224,249),(5,224,249),(7,224,249),(6,224,249),(2,224,249)]
def uI:dQ:={f:=15,nv:=1,gl:=gK o8 0,args:=[],hp:=jd 36 o8 0,jf:=1,ret:=.w (.one (.bool (.lit true))),hp':=List.replicate 16 ed}
def oI:dQ:={f:=49,nv:=1,args:=[.one (iv 0)],hp:=[],jf:=1,ret:=.w (.agg [.int .i64 (.lit 0),.int .i64 (.lit 0),iv 0]),hp':=[]}
end Go.Proofs.YthomdlajobnmnaaGreatDoor.Cq
namespace Go.Proofs.YthomdlajobnmnaaGreatDoor.Cq
open Go.RowKit Go.Rex
noncomputable def QT:Ex:={sched:=sched,loops:=[],cons:=[isE],fin:=uI}
def KA:Out :=
 .call 0 {lo:=0,ah:=0,iv:=[(0,.lit 8)],bk:=[(1,yb 1),(0,yb 111)]} 1 <|
 .fin {lo:=1,ah:=16}
theorem TS:exec tab QT 8000 [] (fE uI.f uI.nv [] uI.gl uI.hp uI.args)=KA:=by kernel_rfl
theorem TT:bg Tryz.prog uI nO nO :=
 dA dO (E:=QT) (cs:=[(isE,nO,nO)]) rfl (fun k pre post h=>by
   cases h with
   | head=>exact ⟨by kernel_rfl,acr⟩
   | tail _ h=>cases h) bX rfl TS (by kernel_rfl) (fun ρ _ p hp=>by cases hp) fun ρ _=>by
   unfold KA
   repeat' first
    | refine Sat.new fun _ _=>?_
    | refine Sat.call rfl trivial fun _ _=>?_
    | exact Sat.fin trivial
def knR:Kn:=[(.bO (.var 0) (.lit 0),false),(.ai (.lit 24) (.var 0),false)]
noncomputable def WU:Ex:={sched:=sched,loops:=[],cons:=[],fin:=oI}
def Fe:Out :=
 .ob (.inr .i64 (.var 0)) <|
 .fin {lo:=1,ah:=0}
theorem WV:exec tab WU 8000 [] (fE oI.f oI.nv knR oI.gl oI.hp oI.args)=Fe:=by kernel_rfl
def Ff (ρ:Env):Prop:=0≤ρ.iv 0∧ρ.iv 0<24
theorem WW (ρ:Env) (hpre:Ff ρ.num):Sat nO [] [] ρ Fe:=by
 replace hpre:Ff ρ:=hpre
 obtain ⟨a,b⟩:=hpre
 unfold Fe
 refine Sat.ob ?_ (Sat.fin trivial)
 simp only [Da];omega
theorem WX:bg Tryz.prog oI Ff nO :=
 dA dO (E:=WU) (cs:=[]) rfl (fun k pre post h=>by cases h) bX rfl WV (by kernel_rfl) (fun ρ h p hp=>by
   obtain ⟨a,b⟩:=h
   simp only [knR,List.mem_cons,List.not_mem_nil,or_false] at hp
   rcases hp with rfl | rfl
   · exact decide_eq_false (by simp only [IE.den];omega)
   · exact decide_eq_false (by simp only [IE.den];omega)) WW
theorem zK (w:World) (f:Int) (hf:0≤f∧f<24):Calls Tryz.prog 49 #[.int .i64 f] w fun e w'=>e=.returned (.agg #[.int .i64 0,.int .i64 0,.int .i64 f])∧Nw w w':=by
 refine Calls.mono (WX.run (V9 fun _=>f) (fun _=>⟨0,0,none⟩) w G8 ⟨fun g k _ h=>(by cases h),fun g g' k k' _ _ h=>(by cases h)⟩ hf) ?_
 rintro ev w' ⟨ρ',aK,hA,rfl,iw,hwr,how,q1⟩
 refine ⟨?_,hwr.os,hwr.tape,hwr.output,hwr.size,fun k hk _=>hwr.block k hk fun h=>uC (by kernel_rfl) h⟩
 show Ending.returned (.agg #[.int .i64 0,.int .i64 0,.int .i64 (ρ'.iv 0)])=_
 rw [hA.iv 0 (by decide)]
 rfl
def zL:List SB:=jd 36 o8 0
structure vS (w:World) (ν:Nat→Addr):Prop where
 hp:∃ρ,aH ρ ν zL w
 gl:iQ ν (gK o8 0)
def uJ (k:Nat):Nat:=if k<2 then k else k+6
theorem agq:(List.range iC.length).map (fun j=>zL[uJ j]?)=iC.map fun sb=>some (sb.aU id uJ):=by kernel_rfl
theorem acs:∀i j,i<iC.length→j<iC.length→uJ i=uJ j→i=j:=by
 intro i j _ _ h
 unfold uJ at h
 split at h <;> split at h <;> omega
theorem ah9 (ν:Nat→Addr) (h:iQ ν (gK o8 0)):iQ (fun k=>ν (uJ k)) (gK J4 0):=by
 have hm:∀g k,assoc g (gK J4 0)=some k→assoc g (gK o8 0)=some (uJ k):=fun g k hk=>by
  have hmem:=j5 hk
  have:∀x∈gK J4 0,assoc x.1 (gK o8 0)=some (uJ x.2):=by decide
  exact this _ hmem
 exact ⟨fun g k hg hk=>h.at_ g _ hg (hm g k hk),fun g g' k k' h1 h2 h3 h4=>h.ne g g' _ _ h1 h2 (hm _ _ h3) (hm _ _ h4)⟩
theorem vS.sn {w:World} {ν:Nat→Addr} (h:vS w ν):lH w fun k=>ν (uJ k):=by
 obtain ⟨⟨ρ,h1⟩,h2⟩:=h
 exact ⟨⟨ρ.pull id,h1.sub agq acs⟩,ah9 ν h2⟩
theorem vS.lt {w:World} {ν:Nat→Addr} (h:vS w ν) {k:Nat} (hk:k<16):(ν k).block<w.heap.size:=by
 obtain ⟨⟨ρ,h1⟩,h2⟩:=h
 have hl:k<zL.length:=hk
 have hd:∀sb∈zL,sb.dead ρ=false:=by
  have hg:(zL.all fun b=>!b.gone && (match b.nl with | .lit false=>true | _=>false))=true:=by kernel_rfl
  intro sb hsb
  have:=List.all_eq_true.1 hg sb hsb
  simp only [Bool.and_eq_true,Bool.not_eq_true'] at this
  obtain ⟨a,b⟩:=this
  unfold SB.dead
  rw [a]
  split at b
  ·rename_i he
   rw [he]
   rfl
  ·cases b
 exact h1.lt (List.getElem?_eq_getElem hl) (hd _ (List.getElem_mem hl))
theorem vS.nw {w w':World} {ν:Nat→Addr} (h:vS w ν) (hn:Nw w w'):vS w' ν:=by
 have hl:=fun k hk=>h.lt (k:=k) hk
 obtain ⟨⟨ρ,h1⟩,h2⟩:=h
 exact ⟨⟨ρ,h1.qB hn.size fun k sb hk _=>hn.block _ (hl k (List.getElem?_eq_some_iff.1 hk).1) id⟩,h2⟩
theorem Pm {w:World} {ν:Nat→Addr} (h:vS w ν):Calls Tryz.prog 15 #[] w fun e w'=>e=.returned (.bool true)∧Nw w w':=by
 obtain ⟨⟨ρ,h1⟩,h2⟩:=h
 refine Calls.mono (TT.run ρ ν w h1 h2 trivial) ?_
 rintro e w' ⟨ρ',aK,hA,rfl,iw,hwr,how,-⟩
 exact ⟨rfl,hwr.os,hwr.tape,hwr.output,hwr.size,fun k hk _=>hwr.block k hk fun h=>uC (by kernel_rfl) h⟩
theorem acu {f:FuncId} {sh:List (Bool × List FK)} (hf:∃fn,Tryz.prog.funcs[f]?=some fn∧fn.body.isSome=true∧(fn.name == "runtime.NumGoroutine")=false)
  (hrun:∀ρ ν w,aH ρ ν (iK 36 o8 f sh).hp w→vS w ν→Bz sh ρ.num→Calls Tryz.prog f ((iK 36 o8 f sh).args.map (·.den ρ ν)).toArray w fun e w'=>e=.returned (.bool true)∧Nw w w') :
  bg Tryz.prog (iK 36 o8 f sh) (Bz sh) (za o8 sh):=by
 refine ⟨hf,fun ρ ν w iw hgl hpre=>?_⟩
 have hsr:vS w ν:=by
  refine ⟨⟨ρ,?_⟩,hgl⟩
  have e:∀(k:Nat) (sb:SB),zL[k]?=some sb→(iK 36 o8 f sh).hp[k]?=some sb:=fun k sb hk=>by
   show (zL ++ _)[k]?=some sb
   rw [List.getElem?_append_left (List.getElem?_eq_some_iff.1 hk).1]
   exact hk
  exact ⟨fun i j a b hi hj=>iw.inj i j a b (e i a hi) (e j b hj),fun k sb hk=>iw.aC k sb (e k sb hk),fun k sb hk=>iw.rd k sb (e k sb hk)⟩
 refine (hrun ρ ν w iw hsr hpre).mono ?_
 rintro e w' ⟨rfl,hw⟩
 obtain ⟨N,hN⟩:∃N,N=(iK 36 o8 f sh).nv:=⟨_,rfl⟩
 have hd:∀(j:Nat) (sb:SB),(iK 36 o8 f sh).hp'[j]?=some sb→∀q:Env,sb.dead q=true:=fun j sb hj q=>by
  unfold SB.dead
  rw [yZ (Pk _) hj]
  rfl
 refine ⟨{ρ with bv:=fun i=>if i=N then true else ρ.bv i},ν,⟨fun _ _=>rfl,fun i hi=>if_neg (by omega),fun _ _=>rfl,fun _ _=>rfl,fun _ _=>rfl,fun _ _=>rfl,fun _ _=>rfl⟩,?_,⟨fun i j a b hi hj da=>?_,fun j sb hj dj=>?_,fun j sb hj dj=>?_⟩,⟨hw.os,hw.tape,hw.output,hw.size,fun k hk _=>hw.block k hk id⟩,fun j sb hj _ dj=>?_,?_⟩
 ·show Ending.returned (.bool true)=.returned (.bool (if (iK 36 o8 f sh).nv=N then true else _))
  rw [if_pos hN.symm]
 ·rw [hd i a hi] at da;cases da
 ·rw [hd j sb hj] at dj;cases dj
 ·rw [hd j sb hj] at dj;cases dj
 ·rw [hd j sb hj] at dj;cases dj
 ·show (if (iK 36 o8 f sh).nv=N then true else _)=true
  rw [if_pos hN.symm]
end Go.Proofs.YthomdlajobnmnaaGreatDoor.Cq
namespace Go.Proofs.YthomdlajobnmnaaGreatDoor.Cq
open Go.RowKit Go.Rex
theorem Oy (d:Wd) (w:World):Calls Tryz.prog 46 #[.agg #[.int .i64 d.slot,.int .i64 d.gen,.int .i64 d.tag,.int .i64 d.num,.bool d.mark]] w fun ev w'=>ev=.returned (.agg #[.int .i64 d.slot,.int .i64 d.gen,.int .i64 0,.int .i64 0,.bool false])∧Nw w w':=by
 go_enter Tryz.func46,Tryz.ntmps46
 go_wp2
 simp [bodyPost,results,Tryz.results46,go_sem]
 exact ((bA.refl w _).alloc _).alloc _
structure uK (w wr:World) (aP:Addr) (p:PS) (B:Nat→Prop) (bx:Nat):Prop where
 ex:∃B1,gL wr aP p B1∧(∀b,B1 b→(w.heap.size≤b∨B b)∧b≠bx∧b<wr.heap.size)
 Cc:bA w B wr
def qc (bx:Nat) (wx:World):Prop:=wx.cell? ⟨bx,0,none⟩=some (.int .i64 1)∧wx.cell? ⟨bx,1,none⟩=some (.int .i64 1)∧wx.cell? ⟨bx,2,none⟩=some (.int .i64 0)∧wx.cell? ⟨bx,3,none⟩=some (.int .i64 0)∧wx.cell? ⟨bx,4,none⟩=some (.bool false)
abbrev afD:Obj:=.cells #[.int .i64 0,.int .i64 0,.int .i64 0,.int .i64 0,.bool false,.bool false] 86
structure Oz (wr:World) (bx:Nat) (wx:World):Prop where
 nw:Nw wr wx
 c:qc bx wx
structure QLy (wr:World) (bx a:Nat) (wx:World):Prop where
 nw:Nw wr wx
 c:qc bx wx
 ge:wr.heap.size≤a
 z:wx.heap[a]?=some afD
theorem qc.nw {bx:Nat} {a b:World} (h:qc bx a) (hn:Nw a b):qc bx b:=⟨hn.bJ h.1,hn.bJ h.2.1,hn.bJ h.2.2.1,hn.bJ h.2.2.2.1,hn.bJ h.2.2.2.2⟩
theorem qc.aC {bx:Nat} {a b:World} (h:qc bx a) (hn:b.heap[bx]?=a.heap[bx]?):qc bx b:=⟨(oH hn 0).trans h.1,(oH hn 1).trans h.2.1,(oH hn 2).trans h.2.2.1,(oH hn 3).trans h.2.2.2.1,(oH hn 4).trans h.2.2.2.2⟩
theorem qc.al {bx:Nat} {a:World} (h:qc bx a) (o:Obj):qc bx (a.alloc o):=h.nw ((bA.refl _ _).alloc o)
theorem Oz.n {wr:World} {bx:Nat} {x y:World} (h:Oz wr bx x) (hn:Nw x y):Oz wr bx y:=⟨h.nw.trans hn,h.c.nw hn⟩
theorem Oz.q {wr:World} {bx:Nat} {x:World} (h:Oz wr bx x):QLy wr bx x.heap.size (x.alloc afD):=⟨h.nw.trans ((bA.refl _ _).alloc _),h.c.al _,h.nw.size,nk _ _⟩
theorem fI {a:Nat} {x:World} {o:Obj} (h:x.heap[a]?=some o):a<x.heap.size:=by
 rcases Nat.lt_or_ge a x.heap.size with h' | h'
 ·exact h'
 ·rw [Array.getElem?_eq_none h'] at h
  cases h
theorem QLy.n {wr:World} {bx a:Nat} {x y:World} (h:QLy wr bx a x) (hn:Nw x y):QLy wr bx a y :=
 ⟨h.nw.trans hn,h.c.nw hn,h.ge,by
   rw [hn.block a ?_ id]
   · exact h.z
   · rcases Nat.lt_or_ge a x.heap.size with h' | h'
     · exact h'
     · have:=h.z
       rw [Array.getElem?_eq_none h'] at this
       cases this⟩
set_option maxHeartbeats 3000000 in
set_option maxRecDepth 100000 in
theorem afE {w:World} {aP:Addr} {p1 p2 p3 p:PS} {B:Nat→Prop} {dC:Nat→Addr} (hs:lH w dC) (hp:gL w aP p1 B) (hz:∀k,k<8→¬B (dC k).block) (hz':∀k,k<8→(dC k).block<w.heap.size) (ho:p1.OK∧p2.OK∧p3.OK) (hst:p1.steps≤1000000∧p2.steps≤1000000∧p3.steps≤1000000)
  (h2:p1.act ⟨4,0,0,0,Wd.zero,Wd.zero⟩=(p2,some ⟨⟨1,1,0,0,false⟩,true⟩)) (h3:p2.act (Ac.store 0 0 0 ⟨1,1,0,0,false⟩)=(p3,some ⟨Wd.zero,true⟩)) (h4:p3.act (Ac.store 0 0 1 ⟨1,1,0,0,false⟩)=(p,some ⟨Wd.zero,true⟩)) :
  Calls Tryz.prog 18 #[.pointer (some aP)] w fun e w'=>e=.returned .nilIface∧∃B',gL w' aP p B'∧(∀b,B' b→w.heap.size≤b∨B b)∧bA w B w':=by
 have hd:=K8 hs hp hz ho.1 hst.1 h2
 rw [show oq ⟨4,0,0,0,Wd.zero,Wd.zero⟩=.agg #[.int .i64 4,.int .i64 0,.int .i64 0,.int .i64 0,.int .i64 0,.int .i64 0,.int .i64 0,.int .i64 0,.bool false,.int .i64 0,.int .i64 0,.int .i64 0,.int .i64 0,.bool false] from rfl] at hd
 rw [show jl ⟨⟨1,1,0,0,false⟩,true⟩=.agg #[.int .i64 1,.int .i64 1,.int .i64 0,.int .i64 0,.bool false,.bool true] from rfl] at hd
 have OA:=fun w=>zK w 0 (by decide)
 have OB:=fun w=>zK w 1 (by decide)
 have OC:=Oy ⟨1,1,0,0,false⟩
 have i0:∀w,(Instr.index 22 (.agg #[.int .i64 0,.int .i64 1]) (.int .i64 0)).run Tryz.prog w=.ok (.int .i64 0) w:=fun _=>by kernel_rfl
 have i1:∀w,(Instr.index 22 (.agg #[.int .i64 0,.int .i64 1]) (.int .i64 1)).run Tryz.prog w=.ok (.int .i64 1) w:=fun _=>by kernel_rfl
 have TU:∀(wr:World) (bx:Nat) (q q':PS) (f:Int),uK w wr aP q B bx→q.OK→q.steps≤1000000→q.act (Ac.store 0 0 f ⟨1,1,0,0,false⟩)=(q',some ⟨Wd.zero,true⟩)→∀wx,Nw wr wx→qc bx wx→bx<wr.heap.size →
   Calls Tryz.prog 32 #[.pointer (some aP),.agg #[.int .i64 2,.int .i64 0,.int .i64 0,.int .i64 f,.int .i64 0,.int .i64 0,.int .i64 0,.int .i64 0,.bool false,.int .i64 1,.int .i64 1,.int .i64 0,.int .i64 0,.bool false]] wx fun e w'=>e=.returned (.tuple #[.agg #[.int .i64 0,.int .i64 0,.int .i64 0,.int .i64 0,.bool false,.bool true],.nilIface])∧qc bx w'∧(∀y,wr.heap.size≤y→y<wx.heap.size→w'.heap[y]?=wx.heap[y]?)∧Aside (∀w5,bA w' (fun y=>wr.heap.size≤y∧y<wx.heap.size) w5→uK w w5 aP q' B bx):=by
  intro wr bx q q' f hL hok hq ha wx hn hc hbx
  obtain ⟨⟨B1,g1,g2⟩,g3⟩:=hL
  have hP:=(g1.mono (B':=fun b=>B1 b∧b<wr.heap.size) fun b x y=>⟨x,y⟩).frame (w':=wx) fun b hb=>hn.block b hb.2 id
  have hW:bA w B wx:=iW g3 hn fun x hx _=>absurd hx id
  have hsx:lH wx dC:=hs.frame hW.size fun k hk=>hW.block _ (hz' k hk) (hz k hk)
  refine (K8 hsx hP (fun k hk hb=>?_) hok hq ha).mono ?_
  ·rcases (g2 _ hb.1).1 with h | h
   ·exact absurd (hz' k hk) (Nat.not_lt.2 h)
   ·exact hz k hk h
  ·rintro e w' ⟨rfl,B',x1,x2,x3⟩
   have hbw:bx<wx.heap.size:=Nat.lt_of_lt_of_le hbx hn.size
   have hbB:∀b,B' b→(w.heap.size≤b∨B b)∧b≠bx∧(wx.heap.size≤b∨b<wr.heap.size):=fun b hb=>by
    rcases x2 b hb with h | h
    ·exact ⟨.inl (Nat.le_trans hW.size h),by omega,.inl h⟩
    ·exact ⟨(g2 b h.1).1,(g2 b h.1).2.1,.inr h.2⟩
   refine ⟨rfl,hc.aC (x3.block bx hbw fun h=>(g2 bx h.1).2.1 rfl),fun y h1 h2=>x3.block y h2 fun h=>by omega,fun w5 h5=>⟨⟨fun b=>B' b∧b<w'.heap.size,(x1.mono fun b x y=>⟨x,y⟩).frame fun b hb=>h5.block b hb.2 fun h=>?_,fun b hb=>?_⟩,?_⟩⟩
   ·have:=(hbB b hb.1).2.2
    omega
   ·exact ⟨(hbB b hb.1).1,(hbB b hb.1).2.1,Nat.lt_of_lt_of_le hb.2 h5.size⟩
   ·exact iW (iW hW x3 fun x hx _=>(g2 x hx.1).1.symm) h5 fun x hx _=>.inr (by have:=g3.size;omega)
 have A0:Aside ((p1.OK∧p2.OK∧p3.OK)∧(p1.steps≤1000000∧p2.steps≤1000000∧p3.steps≤1000000)∧p2.act (Ac.store 0 0 0 ⟨1,1,0,0,false⟩)=(p3,some ⟨Wd.zero,true⟩)∧p3.act (Ac.store 0 0 1 ⟨1,1,0,0,false⟩)=(p,some ⟨Wd.zero,true⟩)):=⟨ho,hst,h3,h4⟩
 clear hs hp hz hz' ho hst h2 h3 h4
 go_enter Tryz.func18,Tryz.ntmps18
 go_wp2_with (first
   | (go_at_call 32;(with_reducible refine hd.mono ?_);intro ev w2 hp2;obtain ⟨rfl,B',qb,hB',hw2⟩:=hp2;have A1:Aside (gL w2 aP p2 B'∧(∀b,B' b→w.heap.size≤b∨B b)∧bA w B w2):=⟨qb,hB',hw2⟩;clear qb hB' hw2 hd))
 go_loopg [27] 2 (fun k i wr=>((i=.int .i64 0∧k=2∧Aside (uK w wr aP p2 B w2.heap.size))∨(i=.int .i64 1∧k=1∧Aside (uK w wr aP p3 B w2.heap.size))∨(i=.int .i64 2∧k=0∧Aside (uK w wr aP p B w2.heap.size)))∧(wr.cell? ⟨w2.heap.size,0,none⟩=some (.int .i64 1)∧wr.cell? ⟨w2.heap.size,1,none⟩=some (.int .i64 1)∧wr.cell? ⟨w2.heap.size,2,none⟩=some (.int .i64 0)∧wr.cell? ⟨w2.heap.size,3,none⟩=some (.int .i64 0)∧wr.cell? ⟨w2.heap.size,4,none⟩=some (.bool false)))
 case atStart =>
  obtain ⟨q1,q2,q3⟩:=A1.out
  have n4:∀o,Nw w2 (w2.alloc o):=fun o=>(bA.refl w2 _).alloc o
  refine ⟨.inl ⟨rfl,rfl,⟨⟨fun b=>B' b∧b<w2.heap.size,(q1.mono (B':=fun b=>B' b∧b<w2.heap.size) fun b x y=>⟨x,y⟩).frame fun b hb=>(n4 _).block b hb.2 id,fun b hb=>⟨q2 b hb.1,Nat.ne_of_lt hb.2,Nat.lt_of_lt_of_le hb.2 (n4 _).size⟩⟩,iW q3 (n4 _) fun x hx _=>absurd hx id⟩⟩,by simp,by simp,by simp,by simp,by simp⟩
 case round =>
  rename World=>wr
  obtain ⟨⟨rfl,rfl,hL⟩ | ⟨rfl,rfl,hL⟩ | ⟨rfl,rfl,hL⟩,c0,c1,c2,c3,c4⟩:=hrel
  ·have hdo:=TU wr w2.heap.size p2 p3 0 hL.out A0.out.1.2.1 A0.out.2.1.2.1 A0.out.2.2.1
   have hbx:w2.heap.size<wr.heap.size:=World.block_lt_of_cell? _ _ c0
   have xQ:Oz wr w2.heap.size wr.drew:=⟨Nw.drew (bA.refl _ _),⟨c0,c1,c2,c3,c4⟩⟩
   have hroot:=OA
   clear OA OB TU
   clear c0 c1 c2 c3 c4 hL
   go_wp2_with fail
   go_region_held3 (fun wx=>wx.cell? ⟨w2.heap.size,0,none⟩=some (.int .i64 1)∧wx.cell? ⟨w2.heap.size,1,none⟩=some (.int .i64 1)∧wx.cell? ⟨w2.heap.size,2,none⟩=some (.int .i64 0)∧wx.cell? ⟨w2.heap.size,3,none⟩=some (.int .i64 0)∧wx.cell? ⟨w2.heap.size,4,none⟩=some (.bool false))
    (first | exact xQ.c | exact kH.c | exact kJ.c | exact nu.c | exact ny.c | exact xQ.q.c | exact kH.q.c | exact kJ.q.c | exact kK | exact kK.al _ | exact hS5)
    (first
      | (go_at_call 49;(with_reducible refine (hroot _).mono ?_);rintro ev w7 ⟨rfl,hw7⟩;first | have kH:=xQ.n hw7 | have kH:=kJ.n hw7 | have nu:=xQ.q.n hw7 | have nu:=kJ.q.n hw7 | have nu:=ny.n hw7)
      | (go_at_call 46;(with_reducible refine (OC _).mono ?_);rintro ev w8 ⟨rfl,hw8⟩;first | have kJ:=xQ.n hw8 | have kJ:=kH.n hw8 | have ny:=xQ.q.n hw8 | have ny:=kH.q.n hw8 | have ny:=nu.n hw8)
      | (go_at_call 32;(first | (with_reducible refine (hdo _ kJ.nw kJ.c hbx).mono ?_) | (with_reducible refine (hdo _ kH.nw kH.c hbx).mono ?_));rintro ev w9 ⟨rfl,kK,-,oh⟩;have kK:qc w2.heap.size w9:=kK)
      | (go_at_call 32;(first | (with_reducible refine (hdo _ kJ.q.nw kJ.q.c hbx).mono ?_;rintro ev w9 ⟨rfl,kK,uL,oh⟩;have Hz:=(uL _ kJ.q.ge (fI kJ.q.z)).trans kJ.q.z;have Ab:=kJ.q.ge;have HV:=fI kJ.q.z) | (with_reducible refine (hdo _ kH.q.nw kH.q.c hbx).mono ?_;rintro ev w9 ⟨rfl,kK,uL,oh⟩;have Hz:=(uL _ kH.q.ge (fI kH.q.z)).trans kH.q.z;have Ab:=kH.q.ge;have HV:=fI kH.q.z) | (with_reducible refine (hdo _ ny.nw ny.c hbx).mono ?_;rintro ev w9 ⟨rfl,kK,uL,oh⟩;have Hz:=(uL _ ny.ge (fI ny.z)).trans ny.z;have Ab:=ny.ge;have HV:=fI ny.z) | (with_reducible refine (hdo _ nu.nw nu.c hbx).mono ?_;rintro ev w9 ⟨rfl,kK,uL,oh⟩;have Hz:=(uL _ nu.ge (fI nu.z)).trans nu.z;have Ab:=nu.ge;have HV:=fI nu.z));have kK:qc w2.heap.size w9:=kK)
      | ((with_reducible change Oper.upon _ _ _ _ _ _);refine uF [.int .i64 0,.int .i64 0,.int .i64 0,.int .i64 0,.bool false,.bool true] Hz rfl ?_;intro w5 jG hh5;have hS5:qc w2.heap.size w5:=kK.aC (jG.block _ (World.block_lt_of_cell? _ _ kK.1) (fun e=>by omega))))
   all_goals (
     first
       | (have hLn:uK w w5 aP p3 B w2.heap.size:=oh.out w5 ⟨jG.os,jG.tape,jG.output,jG.size,fun y hy hn=>jG.block y hy fun e=>hn (by rw [e];exact ⟨Ab,HV⟩)⟩;have hSw:=hS5)
       | (have hLn:uK w (w9.alloc (.cells #[.int .i64 0,.int .i64 0,.int .i64 0,.int .i64 0,.bool false,.bool true] 86)) aP p3 B w2.heap.size:=oh.out _ ((bA.refl _ _).alloc _);have hSw:=kK.al (.cells #[.int .i64 0,.int .i64 0,.int .i64 0,.int .i64 0,.bool false,.bool true] 86))
     have AL:Aside (uK w _ aP p3 B w2.heap.size):=hLn
     clear hLn oh kK hdo
     go_wp2_with fail
     go_roundg 1
     case measure=>omega
     case rel=>exact ⟨.inr (.inl ⟨by go_num,rfl,AL.out⟩),hSw⟩)
  ·have hdo:=TU wr w2.heap.size p3 p 1 hL.out A0.out.1.2.2 A0.out.2.1.2.2 A0.out.2.2.2
   have hbx:w2.heap.size<wr.heap.size:=World.block_lt_of_cell? _ _ c0
   have xQ:Oz wr w2.heap.size wr.drew:=⟨Nw.drew (bA.refl _ _),⟨c0,c1,c2,c3,c4⟩⟩
   have hroot:=OB
   clear OA OB TU
   clear c0 c1 c2 c3 c4 hL
   go_wp2_with fail
   go_region_held3 (fun wx=>wx.cell? ⟨w2.heap.size,0,none⟩=some (.int .i64 1)∧wx.cell? ⟨w2.heap.size,1,none⟩=some (.int .i64 1)∧wx.cell? ⟨w2.heap.size,2,none⟩=some (.int .i64 0)∧wx.cell? ⟨w2.heap.size,3,none⟩=some (.int .i64 0)∧wx.cell? ⟨w2.heap.size,4,none⟩=some (.bool false))
    (first | exact xQ.c | exact kH.c | exact kJ.c | exact nu.c | exact ny.c | exact xQ.q.c | exact kH.q.c | exact kJ.q.c | exact kK | exact kK.al _ | exact hS5)
    (first
      | (go_at_call 49;(with_reducible refine (hroot _).mono ?_);rintro ev w7 ⟨rfl,hw7⟩;first | have kH:=xQ.n hw7 | have kH:=kJ.n hw7 | have nu:=xQ.q.n hw7 | have nu:=kJ.q.n hw7 | have nu:=ny.n hw7)
      | (go_at_call 46;(with_reducible refine (OC _).mono ?_);rintro ev w8 ⟨rfl,hw8⟩;first | have kJ:=xQ.n hw8 | have kJ:=kH.n hw8 | have ny:=xQ.q.n hw8 | have ny:=kH.q.n hw8 | have ny:=nu.n hw8)
      | (go_at_call 32;(first | (with_reducible refine (hdo _ kJ.nw kJ.c hbx).mono ?_) | (with_reducible refine (hdo _ kH.nw kH.c hbx).mono ?_));rintro ev w9 ⟨rfl,kK,-,oh⟩;have kK:qc w2.heap.size w9:=kK)
      | (go_at_call 32;(first | (with_reducible refine (hdo _ kJ.q.nw kJ.q.c hbx).mono ?_;rintro ev w9 ⟨rfl,kK,uL,oh⟩;have Hz:=(uL _ kJ.q.ge (fI kJ.q.z)).trans kJ.q.z;have Ab:=kJ.q.ge;have HV:=fI kJ.q.z) | (with_reducible refine (hdo _ kH.q.nw kH.q.c hbx).mono ?_;rintro ev w9 ⟨rfl,kK,uL,oh⟩;have Hz:=(uL _ kH.q.ge (fI kH.q.z)).trans kH.q.z;have Ab:=kH.q.ge;have HV:=fI kH.q.z) | (with_reducible refine (hdo _ ny.nw ny.c hbx).mono ?_;rintro ev w9 ⟨rfl,kK,uL,oh⟩;have Hz:=(uL _ ny.ge (fI ny.z)).trans ny.z;have Ab:=ny.ge;have HV:=fI ny.z) | (with_reducible refine (hdo _ nu.nw nu.c hbx).mono ?_;rintro ev w9 ⟨rfl,kK,uL,oh⟩;have Hz:=(uL _ nu.ge (fI nu.z)).trans nu.z;have Ab:=nu.ge;have HV:=fI nu.z));have kK:qc w2.heap.size w9:=kK)
      | ((with_reducible change Oper.upon _ _ _ _ _ _);refine uF [.int .i64 0,.int .i64 0,.int .i64 0,.int .i64 0,.bool false,.bool true] Hz rfl ?_;intro w5 jG hh5;have hS5:qc w2.heap.size w5:=kK.aC (jG.block _ (World.block_lt_of_cell? _ _ kK.1) (fun e=>by omega))))
   all_goals (
     first
       | (have hLn:uK w w5 aP p B w2.heap.size:=oh.out w5 ⟨jG.os,jG.tape,jG.output,jG.size,fun y hy hn=>jG.block y hy fun e=>hn (by rw [e];exact ⟨Ab,HV⟩)⟩;have hSw:=hS5)
       | (have hLn:uK w (w9.alloc (.cells #[.int .i64 0,.int .i64 0,.int .i64 0,.int .i64 0,.bool false,.bool true] 86)) aP p B w2.heap.size:=oh.out _ ((bA.refl _ _).alloc _);have hSw:=kK.al (.cells #[.int .i64 0,.int .i64 0,.int .i64 0,.int .i64 0,.bool false,.bool true] 86))
     have AL:Aside (uK w _ aP p B w2.heap.size):=hLn
     clear hLn oh kK hdo
     go_wp2_with fail
     go_roundg 0
     case measure=>omega
     case rel=>exact ⟨.inr (.inr ⟨by go_num,rfl,AL.out⟩),hSw⟩)
  ·clear c0 c1 c2 c3 c4
   go_wp2
   go_ret
   obtain ⟨⟨B1,g1,g2⟩,g3⟩:=hL.out
   exact ⟨rfl,B1,g1,fun b hb=>(g2 b hb).1,g3⟩
end Go.Proofs.YthomdlajobnmnaaGreatDoor.Cq
namespace Go.Proofs.YthomdlajobnmnaaGreatDoor.Cq
open Go.RowKit Go.Rex
def qY:dQ:={lJ with nv:=15,args:=[.one (.ptr {aC:=8}),.agg [iv 12,iv 13,iv 14]],jf:=20,ret:=.iF [.agg (jy 15),.one (.bool (.lit true))]}
noncomputable def WY:Ex:={sched:=sched,loops:=[],cons:=[],fin:=qY}
def OD:Out :=
 .ob (.or (.not (.ai y1 (.var 12))) (.ai y0 (.var 1))) <|
 .br (.and (.and (.and (.ai y1 (.var 12)) (.ai (.var 12) (.var 1))) (.ai y0 (.var 14))) (.bO (.var 14) (.lit 10)))
 (.ob (.inr .i64 (.sub (.var 12) y1)) <|
  .ob (.ai y0 (.sub (.var 12) y1)) <|
  .ob (.bO (.sub (.var 12) y1) (.var 1)) <|
  .br (.not (.cell 9 (.sub (.var 12) y1) y0 1))
  (.bad 45)
  (.br (.not (.aA (.cell 9 (.sub (.var 12) y1) y0 0) (.var 13)))
   (.bad 45)
   (.fin {lo:=15,ah:=13,iv:=[(18,.cell 10 (.sub (.var 12) y1) (.var 14) 3),(17,.cell 10 (.sub (.var 12) y1) (.var 14) 2),(16,.cell 10 (.sub (.var 12) y1) (.var 14) 1),(15,.cell 10 (.sub (.var 12) y1) (.var 14) 0)],bv:=[(19,.cell 10 (.sub (.var 12) y1) (.var 14) 4)]})))
 (.bad 45)
def afG:Kn:=[(.aA (.var 12) (.lit 0),false)]
theorem WZ:exec tab WY 8000 [] (fE qY.f qY.nv afG qY.gl qY.hp qY.args)=OD:=by kernel_rfl
def OE (ρ:Env):Prop:=(1≤ρ.iv 12∧ρ.iv 12≤1024)∧ρ.iv 12≤ρ.iv 1∧(0≤ρ.iv 14∧ρ.iv 14<10)∧ρ.bc 9 (ρ.iv 12-1).toNat 0 1=true∧ρ.ic 9 (ρ.iv 12-1).toNat 0 0=ρ.iv 13
def W9 (ρ:Env):Prop:=az ρ 15=aO (ρ.ic 10 (ρ.iv 12-1).toNat (ρ.iv 14).toNat) (ρ.bc 10 (ρ.iv 12-1).toNat (ρ.iv 14).toNat)
theorem Xa:bg Tryz.prog qY OE W9 :=
 dA dO (E:=WY) (cs:=[]) rfl (fun k pre post h=>by cases h) bX rfl WZ (by kernel_rfl) (fun ρ h p hp=>by
   have h1:1≤ρ.iv 12:=h.1.1
   simp only [afG,List.mem_cons,List.not_mem_nil,or_false] at hp
   rcases hp with rfl
   exact beq_eq_false_iff_ne.2 (show ρ.iv 12≠0 by omega)) fun ρ h=>by
  replace h:(1≤ρ.iv 12∧ρ.iv 12≤1024)∧ρ.iv 12≤ρ.iv 1∧(0≤ρ.iv 14∧ρ.iv 14<10)∧ρ.bc 9 (ρ.iv 12-1).toNat 0 1=true∧ρ.ic 9 (ρ.iv 12-1).toNat 0 0=ρ.iv 13:=h
  obtain ⟨⟨h1,h1b⟩,h2,⟨h3,h4⟩,h5,h6⟩:=h
  unfold OD
  refine Sat.ob (by simp only [Da];omega) (Sat.br (fun k=>?_) fun k=>?_)
  all_goals simp only [Da] at k
  ·refine Sat.ob (by simp only [Da];omega) (Sat.ob (by simp only [Da];omega) (Sat.ob (by simp only [Da];omega) (Sat.br (fun k1=>?_) fun k1=>?_)))
   all_goals simp only [Da] at k1
   ·exact absurd h5 (by rw [k1];decide)
   ·refine Sat.br (fun k2=>?_) fun k2=>?_
    all_goals simp only [Da] at k2
    ·exact absurd h6 k2
    ·exact Sat.fin rfl
  ·exfalso
   omega
theorem Zx {w:World} {aP:Addr} {p:PS} {B:Nat→Prop} {dC:Nat→Addr} {s g f:Int} (hs:lH w dC) (hp:gL w aP p B) (h0:0≤f∧f<10) (h1:p.jc s g) (hok:p.OK) :
  Calls Tryz.prog 41 #[.pointer (some aP),.agg #[.int .i64 s,.int .i64 g,.int .i64 f]] w fun ev w'=>ev=.returned (.tuple #[K6 (p.cell (s-1).toNat f.toNat),.bool true])∧Nw w w':=by
 obtain ⟨cB,fA,rfl,We,rfl,hpo,hpb⟩:=hp.ex
 obtain ⟨⟨Wh,hsh⟩,hgl⟩:=hs
 obtain ⟨q,hq⟩:∃q:Env,q={cB with iv:=fun i=>if i=12 then s else if i=13 then g else if i=14 then f else cB.iv i}:=⟨_,rfl⟩
 obtain ⟨ν,lu⟩:∃ν,ν=uB iC.length dC fA:=⟨_,rfl⟩
 have hro:aH q fA zF w:=aH.ext (nv:=12) (n:=5) ⟨fun i hi=>by rw [hq];exact (if_neg (by omega)).trans ((if_neg (by omega)).trans (if_neg (by omega))),fun _ _=>by rw [hq],fun _ _=>by rw [hq],fun _ _=>by rw [hq],fun _ _=>by rw [hq],fun _ _=>by rw [hq],fun _ _=>rfl⟩ (by kernel_rfl) (by decide) (Wj We)
 have hsh':aH q ν iC w:=aH.ext (nv:=0) (n:=8) ⟨fun i h=>absurd h (Nat.not_lt_zero _),fun i h=>absurd h (Nat.not_lt_zero _),fun i h=>absurd h (Nat.not_lt_zero _),fun i h=>absurd h (Nat.not_lt_zero _),fun i h=>absurd h (Nat.not_lt_zero _),fun i h=>absurd h (Nat.not_lt_zero _),fun i h=>by rw [lu,qI _ _ _ (Nat.lt_of_lt_of_le h (by decide))]⟩ (by kernel_rfl) (by decide) hsh
 have e1:(fun k=>ν (iC.length+k))=fA:=by rw [lu];exact funext fun k=>xD ..
 have hall:=hsh'.app (f:=id) (hq:=zF) (by rw [e1];exact hro) fun i j a b hi hj _ _ hr _=>by
  have ha:a.ro=true:=by
   have:(iC.all fun b=>b.ro)=true:=by kernel_rfl
   exact List.all_eq_true.1 this a (List.mem_of_getElem? hi)
  have hb:b.ro=true:=by
   have:(zF.all fun b=>b.ro)=true:=by kernel_rfl
   exact List.all_eq_true.1 this b (List.mem_of_getElem? hj)
  rw [ha,hb] at hr
  rcases hr with h | h <;> cases h
 have eL:qY.hp=iC ++ zF.map (SB.aU id (iC.length+·)):=by kernel_rfl
 rw [←eL] at hall
 have hG:iQ ν qY.gl:=by
  refine iQ.ext (nv:=0) (n:=8) (ρ:=Wh) (ρ':=q) (ν:=dC) ⟨fun i h=>absurd h (Nat.not_lt_zero _),fun i h=>absurd h (Nat.not_lt_zero _),fun i h=>absurd h (Nat.not_lt_zero _),fun i h=>absurd h (Nat.not_lt_zero _),fun i h=>absurd h (Nat.not_lt_zero _),fun i h=>absurd h (Nat.not_lt_zero _),fun i h=>?_⟩ (by kernel_rfl) hgl
  rw [lu,qI _ _ _ (Nat.lt_of_lt_of_le h (by decide))]
 have e12:q.iv 12=s:=by rw [hq];rfl
 have e13:q.iv 13=g:=by rw [hq];rfl
 have e14:q.iv 14=f:=by rw [hq];rfl
 have e0:q.iv 1=cB.iv 1:=by rw [hq];rfl
 have eb:q.bc=cB.bc:=by rw [hq]
 have ec:q.ic=cB.ic:=by rw [hq]
 obtain ⟨⟨g1,g2⟩,g3,g4⟩:=h1
 replace g2:s≤cB.iv 1:=g2
 replace g3:cB.bc 9 (s-1).toNat 0 1=true:=g3
 replace g4:cB.ic 9 (s-1).toNat 0 0=g:=g4
 have hrun:=Xa.run q ν w hall hG (show OE q from ⟨⟨by rw [e12];exact g1,by rw [e12];have:=hok.ns.2;replace this:cB.iv 1≤1024:=this;omega⟩,by rw [e12,e0];exact g2,by rw [e14];exact h0,by rw [e12,eb];exact g3,by rw [e12,e13,ec];exact g4⟩)
 have hargs:(qY.args.map (·.den q ν)).toArray=#[.pointer (some (fA 0)),.agg #[.int .i64 s,.int .i64 g,.int .i64 f]]:=by
  rw [←e12,←e13,←e14,show fA 0=ν 8 by rw [←e1];rfl]
  rfl
 rw [hargs] at hrun
 refine Calls.mono hrun ?_
 rintro ev w' ⟨ρ',aK,hA,rfl,iw,hwr,how,q1⟩
 replace q1:az ρ' 15=aO (ρ'.ic 10 (ρ'.iv 12-1).toNat (ρ'.iv 14).toNat) (ρ'.bc 10 (ρ'.iv 12-1).toNat (ρ'.iv 14).toNat):=q1
 refine ⟨?_,hwr.os,hwr.tape,hwr.output,hwr.size,fun k hk _=>hwr.block k hk fun h=>uC (by kernel_rfl) h⟩
 have e2:(ay cB (cB.iv 0) (cB.iv 1) 2).cell (s-1).toNat f.toNat=az ρ' 15:=by
  rw [q1,hA.iv 12 (by decide),hA.iv 14 (by decide),hA.ic 10 (by decide),hA.bc 10 (by decide),e12,e14,hq]
  rfl
 rw [e2]
 rfl
end Go.Proofs.YthomdlajobnmnaaGreatDoor.Cq
namespace Go.Proofs.YthomdlajobnmnaaGreatDoor.Cq
open Go.RowKit Go.Rex
theorem TV (s g t n f:Int) (m:Bool) (w:World):Calls Tryz.prog 44 #[.agg #[.int .i64 s,.int .i64 g,.int .i64 t,.int .i64 n,.bool m],.int .i64 f] w fun ev w'=>ev=.returned (.agg #[.int .i64 s,.int .i64 g,.int .i64 f])∧Nw w w':=by
 go_enter Tryz.func44,Tryz.ntmps44
 go_wp2
 simp [bodyPost,results,Tryz.results44,go_sem]
 exact ((bA.refl w _).alloc _).alloc _
theorem Zy:(Tryz.prog.info? 79).map (fun i=>(i.zero,i.size,i.bytes))=some (some (.agg #[.int .i64 0,.int .i64 0,.int .i64 0,.int .i64 0,.bool false]),5,40):=by kernel_rfl
theorem OG (w:World) (x y z u v:Value) (t:TypeId):∀j q,[x,y,z,u,v][j]?=some q→(w.alloc (.cells #[x,y,z,u,v] t)).cell? ((⟨w.heap.size,0,none⟩:Addr).add j)=some q:=by
 intro j q hj
 match j,hj with
 | 0,hj=>simp at hj;subst hj;simp [Addr.add]
 | 1,hj=>simp at hj;subst hj;simp [Addr.add]
 | 2,hj=>simp at hj;subst hj;simp [Addr.add]
 | 3,hj=>simp at hj;subst hj;simp [Addr.add]
 | 4,hj=>simp at hj;subst hj;simp [Addr.add]
 | j+5,hj=>simp at hj
theorem OH (x y z u:Int) (b:Bool):∀v∈[Value.int .i64 x,.int .i64 y,.int .i64 z,.int .i64 u,.bool b],v.oneCell'=true:=by
 intro v hv
 simp at hv
 rcases hv with rfl | rfl | rfl | rfl | rfl <;> rfl
theorem jJ {a b:World} {x:Nat} {o:Obj} (h:a.heap[x]?=some o) (hn:Nw a b):b.heap[x]?=some o:=(hn.block x (fI h) id).trans h
end Go.Proofs.YthomdlajobnmnaaGreatDoor.Cq
namespace Go.Proofs.YthomdlajobnmnaaGreatDoor.Cq
open Go.RowKit Go.Rex
theorem OJ {p:PS}:∀{l:List Nd} {j:Nat} {a:Nd},qP p l→l[j]?=some a→(∃b,l[j+1]?=some b∧nx p a=lk b)∨(j+1=l.length∧nx p a=Wd.zero)
 | [],j,a,_,h=>by simp at h
 | [x],0,a,hc,h=>by
  obtain rfl:x=a:=by simpa using h
  exact .inr ⟨rfl,hc⟩
 | [x],j+1,a,hc,h=>by simp at h
 | x :: b :: r,0,a,hc,h=>by
  obtain rfl:x=a:=by simpa using h
  exact .inl ⟨b,rfl,hc.1⟩
 | x :: b :: r,j+1,a,hc,h=>by
  rcases OJ (l:=b :: r) (j:=j) (a:=a) hc.2 (by simpa using h) with ⟨c,h1,h2⟩ | ⟨h1,h2⟩
  ·exact .inl ⟨c,by simpa using h1,h2⟩
  ·exact .inr ⟨by simpa using h1,h2⟩
def ItW (G:Gh) (j:Nat) (s g:Int):Prop:=(∃n,G.ns[j]?=some n∧n.s=s∧n.g=g)∨(j=G.ns.length∧s=0)
theorem Xb (G:Gh):G.ns.length=G.fr.length+1:=by unfold Gh.ns;simp
theorem ags (G:Gh):G.ns[0]?=some G.hd:=by
 unfold Gh.hd Gh.ns
 cases G.fr <;> rfl
theorem Qs.it {p:PS} {G:Gh} {N:List Nt} (h:Qs p G N) {j:Nat} {s g:Int} (hw:ItW G j s g) (hj:j<G.ns.length):p.jc s g∧s≠0∧∃s' g' t',p.cell (s-1).toNat 2=⟨s',g',t',0,false⟩∧ItW G (j+1) s' g':=by
 rcases hw with ⟨n,h1,rfl,rfl⟩ | ⟨h1,-⟩
 ·have hm:=h.use n (nV (List.mem_of_getElem? h1))
  refine ⟨hm,by have:=hm.1.1;omega,?_⟩
  rcases OJ h.chain h1 with ⟨b,h2,h3⟩ | ⟨h2,h3⟩
  ·exact ⟨b.s,b.g,1,h3,.inl ⟨b,h2,rfl,rfl⟩⟩
  ·exact ⟨0,0,0,h3,.inr ⟨h2,rfl⟩⟩
 ·omega
abbrev afH (s g t:Int):Obj:=.cells #[.int .i64 s,.int .i64 g,.int .i64 t,.int .i64 0,.bool false] 79
structure Zz (w w6 wr:World) (j:Nat) (s g t:Int) (u u':Value):Prop where
 a:∃xs,wr.ownsRow (w6.heap.size+1) 3 1 u (j-1) xs
 b:∃ys,wr.ownsRow (w6.heap.size+1) 79 5 u' j ys
 z:j=0→u'=.slice none 0 0
 ne:∀g,u.ownBlock=some g→u'.ownBlock≠some g
 aC:wr.heap[w6.heap.size]?=some (afH s g t)
 nw:Nw w wr
def CW (bx:Nat) (s g t:Int) (wx:World):Prop:=wx.cell? ⟨bx,0,none⟩=some (.int .i64 s)∧wx.cell? ⟨bx,1,none⟩=some (.int .i64 g)∧wx.cell? ⟨bx,2,none⟩=some (.int .i64 t)∧wx.cell? ⟨bx,3,none⟩=some (.int .i64 0)∧wx.cell? ⟨bx,4,none⟩=some (.bool false)
theorem Lh {bx:Nat} {s g t:Int} {w:World} (h:w.heap[bx]?=some (afH s g t)):CW bx s g t w:=by
 unfold CW World.cell?
 rw [h]
 exact ⟨rfl,rfl,rfl,rfl,rfl⟩
theorem CW.nw {bx:Nat} {s g t:Int} {a b:World} (h:CW bx s g t a) (hn:Nw a b):CW bx s g t b:=⟨hn.bJ h.1,hn.bJ h.2.1,hn.bJ h.2.2.1,hn.bJ h.2.2.2.1,hn.bJ h.2.2.2.2⟩
theorem CW.al {bx:Nat} {s g t:Int} {a:World} (h:CW bx s g t a) (o:Obj):CW bx s g t (a.alloc o):=h.nw ((bA.refl _ _).alloc o)
theorem acv:(Tryz.prog.info? 3).map (fun i=>(i.zero,i.size,i.bytes))=some (some (.int .i64 0),1,8):=by kernel_rfl
theorem Ct {w:World} {base n size:Nat} {e:TypeId} {v:Value} {xs:List Value} (h:w.ownsRow base e size v n xs) {x:Nat} (hx:x<base):v.ownBlock≠some x:=fun e=>by
 have:=(h.lt _ e).1
 omega
theorem acw (x:Int):∀u∈[Value.int .i64 x],u.oneCell'=true:=by
 intro u hu
 simp at hu
 subst hu
 rfl
theorem Xc (w:World) (o:Obj) (x:Value) (t:TypeId):∀j u,[x][j]?=some u→((w.alloc o).alloc (.cells #[x] t)).cell? ((⟨w.heap.size+1,0,none⟩:Addr).add j)=some u:=by
 have:=cell_one_new (w.alloc o) x t
 rwa [show (w.alloc o).heap.size=w.heap.size+1 by simp] at this
theorem OL {w wa wb:World} {c base n n2 size aa8:Nat} {e e2:TypeId} {o:Obj} {v v2:Value} {xs ys:List Value} (hn:Nw w wa) (hg:wa.grownBy wb v.ownBlock) (hv:wa.ownsRow base e size v n xs) (h2:wa.ownsRow base e2 aa8 v2 n2 ys) (hne:∀g,v.ownBlock=some g→v2.ownBlock≠some g) (hc:wa.heap[c]?=some o) (hcb:c<base) (hw:w.heap.size≤base):Nw w wb∧wb.heap[c]?=some o∧wb.ownsRow base e2 aa8 v2 n2 ys :=
 ⟨xH hn hg fun y hy=>Nat.le_trans hw (hv.lt y hy).1,(hg.block c (fI hc) fun e=>Ct hv hcb e.symm).trans hc,fe h2 fun y hy ho=>hg.block y hy fun e=>hne y e.symm ho⟩
theorem Xd {v v' v2:Value} {k:Nat} (hat:v'.ownBlock=v.ownBlock∨v'.ownBlock=some k) (hne:∀g,v.ownBlock=some g→v2.ownBlock≠some g) (hlt:∀g,v2.ownBlock=some g→g<k):∀g,v'.ownBlock=some g→v2.ownBlock≠some g:=fun g h h2=>by
 rcases hat with q | q
 ·exact hne g (q.symm.trans h) h2
 ·have:=hlt g h2
  rw [h,Option.some.injEq] at q
  omega
set_option maxHeartbeats 3000000 in
set_option maxRecDepth 100000 in
theorem afI {w:World} {aP:Addr} {p:PS} {B:Nat→Prop} {dC:Nat→Addr} {G:Gh} {N:List Nt} (hs:lH w dC) (hz:∀k,k<8→(dC k).block<w.heap.size) (hp:gL w aP p B) (q:Qs p G N) (hok:p.OK) (hm:G.fr.length≤12) :
  Calls Tryz.prog 19 #[.pointer (some aP)] w fun e w'=>(∃a r c,e=.returned (.tuple #[.slice a G.fr.length c,r,.nilIface]))∧Nw w w':=by
 obtain ⟨i0,hi,hy0,hy1,hy2⟩:=info_parts Zy
 obtain ⟨j0,hj,hx0,hx1,hx2⟩:=info_parts acv
 obtain ⟨b,rfl,-⟩:=hp.cells q.bT
 have hr:=fun w=>zK w 0 (by decide)
 have hn0:∀w g t,Calls Tryz.prog 43 #[.agg #[.int .i64 0,.int .i64 g,.int .i64 t,.int .i64 0,.bool false]] w fun e w'=>e=.returned (.bool true)∧Nw w w':=fun w g t=>NY ⟨0,g,t,0,false⟩ w
 have hn1:∀s g t,s≠0→∀w,Calls Tryz.prog 43 #[.agg #[.int .i64 s,.int .i64 g,.int .i64 t,.int .i64 0,.bool false]] w fun e w'=>e=.returned (.bool false)∧Nw w w':=fun s g t h w=>by
  have:=NY ⟨s,g,t,0,false⟩ w
  rw [show decide ((⟨s,g,t,0,false⟩:Wd).slot=0)=false from decide_eq_false h] at this
  exact this
 have OC:∀s g t w,Calls Tryz.prog 46 #[.agg #[.int .i64 s,.int .i64 g,.int .i64 t,.int .i64 0,.bool false]] w fun e w'=>e=.returned (.agg #[.int .i64 s,.int .i64 g,.int .i64 0,.int .i64 0,.bool false])∧Nw w w':=fun s g t w=>Oy ⟨s,g,t,0,false⟩ w
 have FD:∀s g t f w,Calls Tryz.prog 44 #[.agg #[.int .i64 s,.int .i64 g,.int .i64 t,.int .i64 0,.bool false],.int .i64 f] w fun e w'=>e=.returned (.agg #[.int .i64 s,.int .i64 g,.int .i64 f])∧Nw w w':=fun s g t f w=>TV s g t 0 f false w
 have hpk:∀w',Nw w w'→Calls Tryz.prog 41 #[.pointer (some ⟨b,0,none⟩),.agg #[.int .i64 0,.int .i64 0,.int .i64 0]] w' fun ev w''=>ev=.returned (.tuple #[.agg #[.int .i64 G.hd.s,.int .i64 G.hd.g,.int .i64 G.ht,.int .i64 0,.bool false],.bool true])∧Nw w' w'':=fun w' h=>by
  have:=ab3 (hs.frame h.size fun k hk=>h.block _ (hz k hk) id) ((hp.mono (B':=fun b=>b<w.heap.size) fun _ _ h=>h).frame fun x hx=>h.block x hx id) (f:=0) (by decide) (by rw [q.nb];decide)
  rw [show p.bd (0:Int).toNat=_ from q.head] at this
  exact this
 have hpc:∀s g f:Int,∀x:Wd,p.jc s g→0≤f∧f<10→p.cell (s-1).toNat f.toNat=x→∀w',Nw w w'→Calls Tryz.prog 41 #[.pointer (some ⟨b,0,none⟩),.agg #[.int .i64 s,.int .i64 g,.int .i64 f]] w' fun ev w''=>ev=.returned (.tuple #[.agg #[.int .i64 x.slot,.int .i64 x.gen,.int .i64 x.tag,.int .i64 x.num,.bool x.mark],.bool true])∧Nw w' w'':=fun s g f x hsg hf hx w' h=>by
  have:=Zx (s:=s) (g:=g) (hs.frame h.size fun k hk=>h.block _ (hz k hk) id) ((hp.mono (B':=fun b=>b<w.heap.size) fun _ _ h=>h).frame fun x hx=>h.block x hx id) hf hsg hok
  rw [hx] at this
  exact this
 have AP:Aside ((∀s g f:Int,∀x:Wd,p.jc s g→0≤f∧f<10→p.cell (s-1).toNat f.toNat=x→∀w',Nw w w'→Calls Tryz.prog 41 #[.pointer (some ⟨b,0,none⟩),.agg #[.int .i64 s,.int .i64 g,.int .i64 f]] w' fun ev w''=>ev=.returned (.tuple #[.agg #[.int .i64 x.slot,.int .i64 x.gen,.int .i64 x.tag,.int .i64 x.num,.bool x.mark],.bool true])∧Nw w' w'')∧Qs p G N):=⟨hpc,q⟩
 have AN:Aside ((∀s g t,s≠0→∀w,Calls Tryz.prog 43 #[.agg #[.int .i64 s,.int .i64 g,.int .i64 t,.int .i64 0,.bool false]] w fun e w'=>e=.returned (.bool false)∧Nw w w')∧G.fr.length≤12):=⟨hn1,hm⟩
 clear hs hz hp q hpc hn1 hok hm
 go_enter Tryz.func19,Tryz.ntmps19
 go_wp2_with (first
   | (go_at_call 49;(with_reducible refine (hr _).mono ?_);rintro ev w5 ⟨rfl,jG⟩)
   | (go_at_call 41;(with_reducible refine (hpk _ jG).mono ?_);rintro ev w6 ⟨rfl,hw6⟩;have A1:Aside (Nw w w6):=Nw.trans jG hw6))
 have A0:Aside (w.heap.size≤w6.heap.size):=A1.out.size
 go_loopg [5,6] G.ns.length (fun k i r wr=>∃(j:Nat) (s g t:Int),(j+k=G.ns.length∧ItW G j s g)∧Aside (Zz w w6 wr j s g t i r))
 case atStart=>exact ⟨0,G.hd.s,G.hd.g,G.ht,⟨by omega,.inl ⟨G.hd,ags G,rfl,rfl⟩⟩,⟨[],rfl,.inl ⟨rfl,rfl⟩⟩,⟨[],rfl,.inl ⟨rfl,rfl⟩⟩,fun _=>rfl,(fun g h=>nomatch h),nk _ _,Nw.trans A1.out ((bA.refl _ _).alloc _)⟩
 case round =>
  rename World=>wr
  obtain ⟨j,s,g,t,⟨hjk,hit⟩,hT⟩:=hrel
  by_cases hjl:j<G.ns.length
  ·obtain ⟨q1,q2,s',g',t',q3,afJ⟩:=AP.out.2.it hit hjl
   have hb0:w6.heap.size<w6.heap.size+1:=Nat.lt_succ_self _
   obtain ⟨⟨xs,ha⟩,⟨ys,hb⟩,hz0,hne,hbl,hw⟩:=hT.out
   have hhs:w6.heap.size<wr.heap.size:=fI hbl
   have hlen:G.ns.length≤13:=by have:=AN.out.2;have:=Xb G;omega
   obtain ⟨x,hx⟩:∃x,x=p.cell (s-1).toNat (1:Int).toNat:=⟨_,rfl⟩
   have hp1:=AP.out.1 s g 1 x q1 (by decide) hx.symm
   have hp2:=AP.out.1 s g 2 ⟨s',g',t',0,false⟩ q1 (by decide) q3
   have hN1:=AN.out.1 s g t q2
   obtain ⟨x0,x1,x2,x3,x4⟩:=x
   have hm1:j+1≤maxLen:=by unfold maxLen;omega
   have hm2:(j+1) * 40≤140737488355328:=by omega
   have A3:Aside ((j+gk=G.ns.length∧j<G.ns.length∧ItW G (j+1) s' g')∧(∀g,u5.ownBlock=some g→u6.ownBlock≠some g)):=⟨⟨hjk,hjl,afJ⟩,hne⟩
   clear hx hit q1 q2 q3 afJ hT hne hjk
   obtain ⟨c0,c1,c2,c3,c4⟩:=Lh hbl
   by_cases hj0:j=0
   ·subst hj0
    obtain rfl:=hz0 rfl
    go_wp2_with (first
      | (go_at_call 43;(with_reducible refine (hN1 _).mono ?_);rintro ev w7 ⟨rfl,hw7⟩;have n7:Nw w w7:=Nw.trans hw hw7;have h7b:=jJ hbl hw7;replace c0:=hw7.bJ c0;replace c1:=hw7.bJ c1;replace c2:=hw7.bJ c2;replace c3:=hw7.bJ c3;replace c4:=hw7.bJ c4)
      | (go_at_call 44;(with_reducible refine (FD _ _ _ _ w7).mono ?_);rintro ev w8 ⟨rfl,hw8⟩;have n8:Nw w w8:=Nw.trans n7 hw8)
      | (go_at_call 41;(with_reducible refine (hp1 _ n8).mono ?_);rintro ev w9 ⟨rfl,oh⟩;have n9:Nw w w9:=Nw.trans n8 oh;have Jf:Nw w7 w9:=Nw.trans hw8 oh;have QU:Nw wr w9:=Nw.trans hw7 Jf;have h9b:=jJ h7b Jf;have QV:CW w6.heap.size s g t w9:=CW.nw ⟨c0,c1,c2,c3,c4⟩ Jf;have d0:=(fun o=>(QV.al o).1);have d1:=(fun o=>(QV.al o).2.1);have d2:=(fun o=>(QV.al o).2.2.1);have d3:=(fun o=>(QV.al o).2.2.2.1);have d4:=(fun o=>(QV.al o).2.2.2.2);clear c0 c1 c2 c3 c4)
      | (go_at_call 46;(with_reducible refine (OC _ _ _ _).mono ?_);rintro ev w10 ⟨rfl,Jg⟩;have n10:Nw w9 w10:=Nw.trans ((bA.refl _ _).alloc _) Jg;have aia:CW w6.heap.size s g t w10:=QV.nw n10;have OM:=jJ h9b n10;have TY:=nZ hb (Nw.trans QU n10);have Hy:∀o,w6.heap.size+1≤(w10.alloc o).heap.size:=(fun o=>by have h1:=fI OM;simp;omega);clear d0 d1 d2 d3 d4)
      | (at_builtin;refine wpList_append_own_at _ rfl _ _ 49 rfl (w6.heap.size+1) 79 i0 (.agg #[.int .i64 0,.int .i64 0,.int .i64 0,.int .i64 0,.bool false]) 5 40 Tryz.underlying49 hi hy0 hy1 hy2 rfl (by decide) _ _ _ rfl (TY.alloc _) _ 1 1 [.int .i64 s,.int .i64 g,.int .i64 0,.int .i64 0,.bool false] rfl rfl (OG _ _ _ _ _ _ _) (OH _ _ _ _ _) hm1 hm2 (Hy _) ?_;intro v' w11 hown' hgrow _ hat;have n11:Nw w10 w11:=xH ((bA.refl _ _).alloc _) hgrow (fun y hy=>nomatch hy);have TZ:=jJ OM n11;obtain ⟨e0,e1,e2,e3,e4⟩:=aia.nw n11)
      | (go_at_call 44;(with_reducible refine (FD _ _ _ _ w11).mono ?_);rintro ev w12 ⟨rfl,wI⟩;have n12:Nw w w12:=Nw.trans (Nw.trans n9 n10) (Nw.trans n11 wI);have ajk:CW w6.heap.size s g t w12:=CW.nw ⟨e0,e1,e2,e3,e4⟩ wI)
      | (go_at_call 41;(with_reducible refine (hp2 _ n12).mono ?_);rintro ev w13 ⟨rfl,zM⟩;have n13:Nw w w13:=Nw.trans n12 zM;have ZA:=jJ (jJ TZ wI) zM;clear e0 e1 e2 e3 e4)
      | ((with_reducible change Oper.upon _ _ _ _ _ _);refine uF [.int .i64 s',.int .i64 g',.int .i64 t',.int .i64 0,.bool false] ZA rfl ?_;intro w14 zN OO;have ZB:=fe (nZ hown' (Nw.trans wI zM)) (fun y hy ho=>zN.block y hy (fun e=>Ct hown' hb0 (e ▸ ho)));have ZC:=fe (nZ ha (Nw.trans (Nw.trans QU n10) (Nw.trans n11 (Nw.trans wI zM)))) (fun y hy ho=>zN.block y hy (fun e=>Ct ha hb0 (e ▸ ho)));have AE:Aside (Zz w w6 w14 1 s' g' t' u5 v'):=⟨⟨_,ZC⟩,⟨_,ZB⟩,(fun h=>nomatch h),(fun y hy ho=>hat.elim (fun h=>by rw [h] at ho;cases ho) fun h=>by rw [h,Option.some.injEq] at ho;have h1:=(ha.lt _ hy).2;have h2:=QU.size;have h3:=n10.size;simp at ho;omega),OO,Cb n13 zN (fun x hx=>hx ▸ A0.out)⟩;clear zN OO)
      | fail)
    go_roundg (gk-1)
    case measure=>have:=A3.out.1;omega
    case rel=>exact ⟨1,s',g',t',⟨by have:=A3.out.1;omega,A3.out.1.2.2⟩,AE⟩
   ·obtain ⟨j1,rfl⟩:∃j1,j=j1+1:=⟨j-1,by omega⟩
    obtain ⟨g6,c6,rfl⟩:=vQ hb
    replace ha:wr.ownsRow (w6.heap.size+1) 3 1 u5 j1 xs:=ha
    have hz6:¬((j1+1:Nat):Int)=1024:=by omega
    have hz7:(0:Int)<((j1+1:Nat):Int):=by omega
    have hm3:j1+1≤maxLen:=by unfold maxLen;omega
    have hm4:(j1+1) * 8≤140737488355328:=by omega
    have hbw:w.heap.size≤w6.heap.size+1:=Nat.le_succ_of_le A0.out
    go_wp2_with (first
      | (go_at_call 43;(with_reducible refine (hN1 _).mono ?_);rintro ev w7 ⟨rfl,hw7⟩;have n7:Nw w w7:=Nw.trans hw hw7;have h7b:=jJ hbl hw7;replace c0:=hw7.bJ c0;replace c1:=hw7.bJ c1;replace c2:=hw7.bJ c2;replace c3:=hw7.bJ c3;replace c4:=hw7.bJ c4)
      | (go_at_call 44;(with_reducible refine (FD _ _ _ _ w7).mono ?_);rintro ev w8 ⟨rfl,hw8⟩;have n8:Nw w w8:=Nw.trans n7 hw8)
      | (go_at_call 41;(with_reducible refine (hp1 _ n8).mono ?_);rintro ev w9 ⟨rfl,oh⟩;have n9:Nw w w9:=Nw.trans n8 oh;have Jf:Nw w7 w9:=Nw.trans hw8 oh;have QU:Nw wr w9:=Nw.trans hw7 Jf;have h9b:=jJ h7b Jf;have Ab:=nZ ha QU;have hb9:=nZ hb QU;have hbV:∀o o',w6.heap.size+1≤((w9.alloc o).alloc o').heap.size:=(fun o o'=>by have h1:=fI h9b;simp;omega);clear c0 c1 c2 c3 c4)
      | (at_builtin;refine wpList_append_own_at _ rfl _ _ 23 rfl (w6.heap.size+1) 3 j0 (.int .i64 0) 1 8 Tryz.underlying23 hj hx0 hx1 hx2 rfl (by decide) _ _ _ rfl ((Ab.alloc _).alloc _) _ 1 1 [.int .i64 x3] rfl rfl (Xc _ _ _ _) (acw _) hm3 hm4 (hbV _ _) ?_;intro vv wv agt afL _ aib;obtain ⟨nv,hbv,hrv⟩:=OL ((n9.alloc _).alloc _) afL ((Ab.alloc _).alloc _) ((hb9.alloc _).alloc _) A3.out.2 (jJ h9b (((bA.refl _ _).alloc _).alloc _)) hb0 hbw;have afM:=Xd aib A3.out.2 (fun g h=>(((hb9.alloc _).alloc _).lt g h).2);obtain ⟨d0,d1,d2,d3,d4⟩:=Lh hbv)
      | (go_at_call 46;(with_reducible refine (OC _ _ _ _).mono ?_);rintro ev w10 ⟨rfl,Jg⟩;have n10:Nw w w10:=Nw.trans nv Jg;have OM:=jJ hbv Jg;have TY:=nZ hrv Jg;have afN:=nZ agt Jg;have Hy:∀o,w6.heap.size+1≤(w10.alloc o).heap.size:=(fun o=>by have h1:=fI OM;simp;omega);clear d0 d1 d2 d3 d4)
      | (at_builtin;refine wpList_append_own_at _ rfl _ _ 49 rfl (w6.heap.size+1) 79 i0 (.agg #[.int .i64 0,.int .i64 0,.int .i64 0,.int .i64 0,.bool false]) 5 40 Tryz.underlying49 hi hy0 hy1 hy2 rfl (by decide) _ _ _ rfl (TY.alloc _) _ 1 1 [.int .i64 s,.int .i64 g,.int .i64 0,.int .i64 0,.bool false] rfl rfl (OG _ _ _ _ _ _ _) (OH _ _ _ _ _) hm1 hm2 (Hy _) ?_;intro v' w11 hown' hgrow _ hat;obtain ⟨n11,TZ,afO⟩:=OL (n10.alloc _) hgrow (TY.alloc _) (afN.alloc _) (fun g h1 h2=>afM g h2 h1) (jJ OM ((bA.refl _ _).alloc _)) hb0 hbw;have aic:=Xd hat (fun g h1 h2=>afM g h2 h1) (fun g h=>((afN.alloc _).lt g h).2);obtain ⟨e0,e1,e2,e3,e4⟩:=Lh TZ)
      | (go_at_call 44;(with_reducible refine (FD _ _ _ _ w11).mono ?_);rintro ev w12 ⟨rfl,wI⟩;have n12:Nw w w12:=Nw.trans n11 wI)
      | (go_at_call 41;(with_reducible refine (hp2 _ n12).mono ?_);rintro ev w13 ⟨rfl,zM⟩;have n13:Nw w w13:=Nw.trans n12 zM;have ZA:=jJ (jJ TZ wI) zM;clear e0 e1 e2 e3 e4)
      | ((with_reducible change Oper.upon _ _ _ _ _ _);refine uF [.int .i64 s',.int .i64 g',.int .i64 t',.int .i64 0,.bool false] ZA rfl ?_;intro w14 zN OO;have ZB:=fe (nZ hown' (Nw.trans wI zM)) (fun y hy ho=>zN.block y hy (fun e=>Ct hown' hb0 (e ▸ ho)));have ZC:=fe (nZ afO (Nw.trans wI zM)) (fun y hy ho=>zN.block y hy (fun e=>Ct afO hb0 (e ▸ ho)));have AE:Aside (Zz w w6 w14 (j1+1+1) s' g' t' vv v'):=⟨⟨_,ZC⟩,⟨_,ZB⟩,(fun h=>nomatch h),(fun y hy ho=>aic y ho hy),OO,Cb n13 zN (fun x hx=>hx ▸ A0.out)⟩;clear zN OO)
      | fail)
    go_roundg (gk-1)
    case measure=>have:=A3.out.1;omega
    case rel=>exact ⟨j1+1+1,s',g',t',⟨by have:=A3.out.1;omega,A3.out.1.2.2⟩,AE⟩
  ·obtain rfl:s=0:=by
    rcases hit with ⟨n,h,-⟩ | ⟨-,h⟩
    ·exact absurd (List.getElem?_eq_some_iff.1 h).1 hjl
    ·exact h
   obtain ⟨⟨xs,ha⟩,⟨ys,hb⟩,-,-,hbl,hw⟩:=hT.out
   obtain ⟨c0,c1,c2,c3,c4⟩:=Lh hbl
   obtain ⟨av,cv,rfl⟩:∃a c,u5=.slice a G.fr.length c:=by
    have hl:=Xb G
    have e:j-1=G.fr.length:=by omega
    rw [e] at ha
    obtain ⟨-,h | ⟨g,c,cur,h,-⟩⟩:=ha
    ·obtain ⟨h,h0⟩:=h
     exact ⟨none,0,by rw [h0];exact h⟩
    ·exact ⟨_,c,h⟩
   have A3:Aside (Nw w wr):=hw
   clear hT ha hb hbl hw hit
   go_wp2_with (first
     | (go_at_call 43;(with_reducible refine (hn0 _ _ _).mono ?_);rintro ev w7 ⟨rfl,hw7⟩;have A2:Aside (Nw w w7):=Nw.trans A3.out hw7))
   first
    | (go_ret3;exact ⟨⟨_,_,_,rfl⟩,A2.out⟩)
    | (go_ret;exact ⟨⟨_,_,_,rfl⟩,A2.out⟩)
end Go.Proofs.YthomdlajobnmnaaGreatDoor.Cq
namespace Go.Proofs.YthomdlajobnmnaaGreatDoor.Cq
open Go.RowKit Go.Rex
theorem acx:(Tryz.prog.info? 63).map (fun i=>(i.zero,i.size,i.bytes))=some (some (.pointer none),1,8):=by kernel_rfl
structure Dp (w:World) (gO n:Nat) (A:Nat→Nat) (L:Nat→List Op):Prop where
 ex:∀i,i<n→(∃c,w.cell? ⟨gO,i,none⟩=some (.slice (some ⟨A i,0,none⟩) (L i).length c))∧lZ w (A i) (L i)∧A i<w.heap.size
theorem Dp.nw {w w':World} {gO n:Nat} {A:Nat→Nat} {L:Nat→List Op} (h:Dp w gO n A L) (hn:Nw w w'):Dp w' gO n A L :=
 ⟨fun i hi=>by
   obtain ⟨⟨c,h1⟩,h2,h3⟩:=h.ex i hi
   exact ⟨⟨c,hn.bJ h1⟩,h2.frame (hn.block _ h3 id),Nat.lt_of_lt_of_le h3 hn.size⟩⟩
structure Fg (w0 w:World) (aP:Addr) (A:Nat→Nat) (L:Nat→List Op) (E N:Int) (n j:Nat) (p:PS) (s:Value):Prop where
 ex:∃aW F,jD w aP aW A w0.heap.size j p (fun i=>Wk.new E i n N (L i)) F∧w.ownsRow w0.heap.size 63 1 s j ((List.range j).map fun i=>.pointer (some ⟨aW i,0,none⟩))∧∀b,F b→w0.heap.size≤b∧b<w.heap.size∧s.ownBlock≠some b
 nw:Nw w0 w
section
variable {A:Nat→Nat} {L:Nat→List Op}
set_option maxHeartbeats 4000000 in
set_option maxRecDepth 100000 in
theorem Xe (E N m:Int) (n gO cO:Nat) (h1:1≤E∧E≤5) (h3:1≤n∧n≤6) (h4:1≤N∧N≤64) (h:0<m∧m≤1024) (w:World) (hO:Dp w gO n A L) (dC:Nat→Addr) (hs:lH w dC) (hz:∀k,k<8→(dC k).block<w.heap.size) :
  Calls Tryz.prog 21 #[.int .i64 E,.int .i64 N,.int .i64 m,.slice (some ⟨gO,0,none⟩) n cO] w fun e w'=>∃aP g c p,e=.returned (.tuple #[.pointer (some aP),.slice (some ⟨g,0,none⟩) n c])∧Fg w w' aP A L E N n n p (.slice (some ⟨g,0,none⟩) n c)∧Laid m p:=by
 obtain ⟨i0,hi,hy0,hy1,hy2⟩:=info_parts acx
 have hc:=TG w
 have hp:=Tn m ⟨by omega,h.2⟩ w
 have A0:Aside ((1≤E∧E≤5)∧(1≤n∧n≤6)∧(1≤N∧N≤64)∧(0<m∧m≤1024)∧lH w dC∧∀k,k<8→(dC k).block<w.heap.size):=⟨h1,h3,h4,h,hs,hz⟩
 have AO:Aside (Dp w gO n A L):=hO
 clear h1 h3 h4 h hs hz hO
 go_enter Tryz.func21,Tryz.ntmps21
 go_wp2_with (go_at_call 17;(with_reducible refine hc.mono ?_);rintro ev w1 ⟨rfl,rfl⟩)
 go_wp2_with (go_at_call 16;(with_reducible refine hp.mono ?_);intro ev w2 hp2;obtain ⟨aP,p0,B,rfl,qb,hF,hB,hw⟩:=hp2)
 have he:=Zp w2
 have A1:Aside (gL w2 aP p0 B∧Dk p0 85 m∧(∀b,B b→w1.heap.size≤b)∧Nw w1 w2):=⟨qb,hF,hB,hw⟩
 clear hp hc qb hF hB hw
 go_wp2_with (go_at_call 33;(with_reducible refine he.mono ?_);rintro ev w3 ⟨rfl,hw3⟩)
 obtain ⟨qb,hF,hB,hw⟩:=A1.out
 obtain ⟨h1,h3,h4,h,hs,hz⟩:=A0.out
 obtain ⟨p1,p2,p3,p,⟨hact,x2,x3,x4⟩,⟨o1,o2,o3⟩,⟨t1,t2,t3⟩,hL⟩:=Zq hF h
 have OP:=(qb.mono (B':=fun b=>B b∧b<w2.heap.size) fun b x y=>⟨x,y⟩).frame (w':=w3) fun b hb=>hw3.block b hb.2 id
 have hd:=K8 (a:=Hg) (hs.nw hz (hw.trans hw3)) OP (fun k hk hb=>absurd (hB _ hb.1) (Nat.not_le.2 (hz k hk))) (hF.ok ⟨by omega,h.2⟩ ⟨by decide,by decide⟩) (by rw [hF.steps];decide) hact
 rw [show oq Hg=.agg #[.int .i64 2,.int .i64 0,.int .i64 0,.int .i64 24,.int .i64 0,.int .i64 0,.int .i64 0,.int .i64 0,.bool false,.int .i64 0,.int .i64 0,.int .i64 0,.int .i64 1,.bool false] from rfl] at hd
 have AX:Aside ((p1.OK∧p2.OK∧p3.OK)∧(p1.steps=1∧p2.steps=2∧p3.steps=3)∧p1.act ⟨4,0,0,0,Wd.zero,Wd.zero⟩=(p2,some ⟨⟨1,1,0,0,false⟩,true⟩)∧p2.act (Ac.store 0 0 0 ⟨1,1,0,0,false⟩)=(p3,some ⟨Wd.zero,true⟩)∧p3.act (Ac.store 0 0 1 ⟨1,1,0,0,false⟩)=(p,some ⟨Wd.zero,true⟩)):=⟨⟨o1,o2,o3⟩,⟨t1,t2,t3⟩,x2,x3,x4⟩
 have A2:Aside (Laid m p∧(∀b,B b→w1.heap.size≤b)∧Nw w1 w3):=⟨hL,hB,hw.trans hw3⟩
 clear qb hF hB hw h1 h3 h4 h hs hz hact OP hw3 A1 he hL x2 x3 x4 o1 o2 o3 t1 t2 t3
 go_wp2_with (go_at_call 32;(with_reducible refine hd.mono ?_);intro ev Xf Oo;obtain ⟨rfl,B1,qb,hB',hw4⟩:=Oo)
 have A3':Aside (gL Xf aP p1 B1∧(∀b,B1 b→w1.heap.size≤b)∧Nw w1 Xf):=by
  obtain ⟨-,q2,q3⟩:=A2.out
  refine ⟨qb,fun b hb=>?_,Cb q3 hw4 fun x hx=>q2 x hx.1⟩
  rcases hB' b hb with h | h
  ·exact Nat.le_trans q3.size h
  ·exact q2 b h.1
 clear qb hB' hw4 hd
 have hl:Calls Tryz.prog 18 #[.pointer (some aP)] Xf fun e w'=>e=.returned .nilIface∧∃B',gL w' aP p B'∧(∀b,B' b→Xf.heap.size≤b∨B1 b)∧bA Xf B1 w':=by
  obtain ⟨q1,q2,q3⟩:=A3'.out
  obtain ⟨-,-,-,-,hs,hz⟩:=A0.out
  obtain ⟨⟨o1,o2,o3⟩,⟨t1,t2,t3⟩,x2,x3,x4⟩:=AX.out
  exact afE (hs.nw hz q3) q1 (fun k hk hb=>absurd (q2 _ hb) (Nat.not_le.2 (hz k hk))) (fun k hk=>Nat.lt_of_lt_of_le (hz k hk) q3.size) ⟨o1,o2,o3⟩ ⟨by omega,by omega,by omega⟩ x2 x3 x4
 go_wp2_with (go_at_call 18;(with_reducible refine hl.mono ?_);intro ev w4 Oo;obtain ⟨rfl,B',qb,hB',hw4⟩:=Oo)
 have A3:Aside (gL w4 aP p B'∧(∀b,B' b→w1.heap.size≤b)∧Nw w1 w4):=by
  obtain ⟨-,q2,q3⟩:=A3'.out
  refine ⟨qb,fun b hb=>?_,Cb q3 hw4 fun x hx=>q2 x hx⟩
  rcases hB' b hb with h | h
  ·exact Nat.le_trans q3.size h
  ·exact q2 b h
 clear qb hB' hw4 hl
 go_loopg [12,13] n (fun k s i wr=>∃j:Nat,i=.int .i64 j∧j+k=n∧Aside (Fg w1 wr aP A L E N n j p s))
 case atStart =>
  obtain ⟨q1,q2,q3⟩:=A3.out
  have hn:Nw w4 (w4.alloc (.cells #[] 63)):=(bA.refl _ _).alloc _
  refine ⟨0,rfl,by omega,⟨fun _=>0,fun b=>B' b∧b<w4.heap.size,jD.nil ((q1.mono (B':=fun b=>B' b∧b<w4.heap.size) fun b x y=>⟨x,y⟩).frame fun b hb=>heap_alloc_old _ _ hb.2),⟨rfl,.inr ⟨w4.heap.size,0,#[],rfl,q3.size,nk _ _,Nat.le_refl _,Nat.zero_le _,rfl,rfl⟩⟩,fun b hb=>⟨q2 b hb.1,?_,fun e=>?_⟩⟩,q3.alloc _⟩
  ·have:=hb.2
   simp
   omega
  ·have e:=Option.some.inj e
   have:=hb.2
   simp at e
   omega
 case round =>
  obtain ⟨j,rfl,hjk,hY⟩:=hrel
  rcases Nat.lt_or_ge j n with hlt | hge
  ·have hlt':(j:Int)<(n:Int):=by omega
   obtain ⟨⟨aW,F,Fh,hown,hF⟩,hnw⟩:=hY.out
   obtain ⟨⟨cL,hcO⟩,agu,aid⟩:=(AO.out.nw hnw).ex j hlt
   have hr:=Tp E j n N A0.out.1 ⟨by omega,by omega⟩ (by have:=A0.out.2.1;omega) A0.out.2.2.1 wr
   generalize hxs:(List.range j).map (fun i=>Value.pointer (some (⟨aW i,0,none⟩:Addr)))=xs at hown
   have A4:Aside ((j+gk=n∧j<n∧(List.range j).map (fun i=>Value.pointer (some (⟨aW i,0,none⟩:Addr)))=xs)∧jD wr aP aW A w1.heap.size j p (fun i=>Wk.new E i n N (L i)) F∧(∀b,F b→w1.heap.size≤b∧b<wr.heap.size∧u12.ownBlock≠some b)∧Nw w1 wr):=⟨⟨hjk,hlt,hxs⟩,Fh,hF,hnw⟩
   have hsz:=hnw.size
   have hj6:j<6:=by have:=A0.out.2.1;omega
   clear hjk hlt hxs Fh hF hnw hY agu aid
   go_wp2_with (first
     | (go_at_call 34;(with_reducible refine hr.mono ?_);intro ev w5 hp5;obtain ⟨ρ,ν,rfl,hR,jG⟩:=hp5;have aie:=jG.bJ hcO)
     | (at_builtin;refine wpList_append_own_at _ rfl _ _ 56 rfl w1.heap.size 63 i0 (.pointer none) 1 8 Tryz.underlying56 hi hy0 hy1 hy2 rfl (by decide) _ _ _ rfl (((nZ hown jG).alloc _).alloc _) _ 1 1 [.pointer (some ⟨w5.heap.size,0,none⟩)] rfl rfl ?c1 ?c2 ?c3 ?c4 ?c5 ?_)
     | fail)
   case c1 =>
    intro i u hi'
    match i,hi' with
    | 0,hi'=>simp at hi';subst hi';simp [Addr.add]
    | i+1,hi'=>simp at hi'
   case c2=>intro u hu;simp at hu;subst hu;rfl
   case c3=>unfold maxLen;omega
   case c4=>omega
   case c5 =>
    have:=jG.size
    simp
    omega
   ·intro v' w6 hown' hgrow _ hat
    obtain ⟨⟨q1,q2,q3⟩,Fh,hF,hnw⟩:=A4.out
    obtain ⟨Ad,hR2,Cu,xP⟩:=hR
    have hz5:=jG.size
    have OQ:∀b,b<w5.heap.size+1→u12.ownBlock≠some b→w6.heap[b]?=(w5.alloc (.cells #[.pointer (some (ν 0)),.slice (some ⟨A j,0,none⟩) (L j).length cL,.pointer none,.bool false,.slice none 0 0] 62)).heap[b]?:=fun b hb hn=>by
     rw [hgrow.block b (by simp;omega) fun e=>hn e.symm]
     exact heap_alloc_old _ _ (by simp;omega)
    have hlt:=hown.lt
    have hold:∀b,wr.heap.size≤b→u12.ownBlock≠some b:=fun b hb e=>absurd (hlt b e).2 (Nat.not_lt.2 hb)
    have h6:w5.heap.size+2≤w6.heap.size:=by
     have:=hgrow.size
     simp at this
     omega
    have hAO:=AO.out.ex
    have HY:∀i,i<n→A i<w1.heap.size:=fun i hi=>(hAO i hi).2.2
    have JM:∀i,i<n→u12.ownBlock≠some (A i):=fun i hi e=>by
     have:=(hlt _ e).1
     have:=HY i hi
     omega
    have ZE:∀i,i<n→w6.heap[A i]?=wr.heap[A i]?:=fun i hi=>by
     have:=HY i hi
     have hs:=hnw.size
     rw [OQ _ (by omega) (JM i hi),heap_alloc_old _ _ (by omega)]
     exact jG.block _ (by omega) id
    have aba:jD w6 aP aW A w1.heap.size j p (fun i=>Wk.new E i n N (L i)) F:=Fh.frame (fun b hb Xg=>by
      rcases Xg with Xg | ⟨i,hi,rfl⟩
      · rw [OQ b (by omega) (hF b Xg).2.2,heap_alloc_old _ _ (by omega)]
        exact jG.block b hb id
      · exact ZE i (by omega)) (by omega)
    have hR6:aH ρ ν dH w6:=Ad.BZ zD fun b hb=>by
     have h1:=xP b hb
     have h2:=oF Ad hb
     rw [OQ b (by omega) (hold b h1),heap_alloc_old _ _ h2]
    have abb:lZ w6 (A j) (L j):=((AO.out.nw hnw).ex j q2).2.1.frame (ZE j q2)
    have hs1:=hnw.size
    have hmn:=ab9 (base:=w1.heap.size) (A:=A j) (c:=cL) (l:=L j) hR6 hR2 Cu (fun h=>absurd (oF Ad h) (Nat.lt_irrefl _)) (by have:=HY j q2;omega) (by have:=HY j q2;omega) (fun h=>by have:=xP _ h;have:=HY j q2;omega) abb (by
      rw [OQ _ (by omega) (hold _ hz5)]
      exact nk _ _)
    have hadd:=aba.add hmn (fun b hb Xg=>by
      have h1:=(hF b Xg).2.1
      rcases hb with rfl | hb
      · omega
      · have:=xP b hb
        omega) (fun i hi hb=>by
      have:=HY i (by omega)
      rcases hb with e | hb
      · omega
      · have:=xP _ hb
        omega) (fun hb=>by have:=(hF _ hb).1;have:=HY j q2;omega) (fun hb=>by
      have:=HY j q2
      rcases hb with e | hb
      · omega
      · have:=xP _ hb
        omega)
    have hY:Fg w1 w6 aP A L E N n (j+1) p v':=by
     refine ⟨⟨jN aW j w5.heap.size,_,cast (congrArg (fun M=>jD w6 aP (jN aW j w5.heap.size) A w1.heap.size (j+1) p M _) ?_) hadd,?_,fun b hb=>?_⟩,xH ((hnw.trans jG).alloc _ |>.alloc _) hgrow fun g hg=>?_⟩
     ·exact ae1 (fun i:Nat=>Wk.new E i n N (L i)) j
     ·have e:(List.range (j+1)).map (fun i=>Value.pointer (some (⟨jN aW j w5.heap.size i,0,none⟩:Addr)))=xs ++ [.pointer (some ⟨w5.heap.size,0,none⟩)]:=by
       rw [List.range_succ,List.map_append,List.map_cons,List.map_nil,bF,←q3]
       congr 1
       refine List.map_congr_left fun i hi=>?_
       rw [dR _ _ (Nat.ne_of_lt (List.mem_range.1 hi))]
      rw [e]
      exact hown'
     ·have PY:b<w5.heap.size+2→u12.ownBlock≠some b→v'.ownBlock≠some b:=fun h1 h2 h3=>by
       rcases hat with h | h
       ·exact h2 (h.symm.trans h3)
       ·rw [h,Option.some.injEq] at h3
        omega
      rcases hb with hb | rfl | hb
      ·obtain ⟨a1,a2,a3⟩:=hF b hb
       exact ⟨a1,by omega,PY (by omega) a3⟩
      ·exact ⟨by omega,by omega,PY (by omega) (hold _ hz5)⟩
      ·have a1:=xP b hb
       have a2:=oF Ad hb
       exact ⟨by omega,by omega,PY (by omega) (hold _ a1)⟩
     ·exact (hlt g hg).1
    have A5:Aside (Fg w1 w6 aP A L E N n (j+1) p v'):=hY
    clear hY hadd hmn hR6 aba h6 hold hlt OQ hz5 Ad hR2 Cu xP Fh hF hnw hown' hgrow hat hown hr jG hAO HY JM ZE abb aie hcO
    go_wp2
    go_roundg (gk-1)
    case measure=>omega
    case rel=>exact ⟨j+1,by go_num,by omega,A5.out⟩
  ·have hlt':¬(j:Int)<(n:Int):=by omega
   have hjn:j=n:=by omega
   subst hjn
   have A4:Aside (Fg w1 wr aP A L E N j j p u12):=hY.out
   obtain ⟨g,c,rfl⟩:∃g c,u12=.slice (some ⟨g,0,none⟩) j c:=by
    obtain ⟨⟨aM,F,-,hown,-⟩,-⟩:=hY.out
    obtain ⟨-,h2 | ⟨g,cap,cur,h2,-⟩⟩:=hown
    ·have:=A0.out.2.1
     omega
    ·exact ⟨g,cap,h2⟩
   clear hY
   go_wp2
   go_ret2
   obtain ⟨q1,-⟩:=A2.out
   exact ⟨aP,g,c,rfl,p,A4.out,q1⟩
theorem Fg.run {w w':World} {aP:Addr} {E N:Int} {n g c:Nat} {p:PS} (h:Fg w w' aP A L E N n n p (.slice (some ⟨g,0,none⟩) n c)) :
  ∃aW,iX w w' aP aW A w.heap.size g n p (fun i=>Wk.new E i n N (L i)):=by
 obtain ⟨⟨aW,F,Fh,hown,hF⟩,hnw⟩:=h
 refine ⟨aW,⟨F,Fh,fun b hb=>⟨(hF b hb).1,fun e=>(hF b hb).2.2 (by rw [e];rfl)⟩⟩,fun i hi=>?_,hnw,hnw.size⟩
 have hc:=hown.cells (g:=g) rfl i (.pointer (some ⟨aW i,0,none⟩)) (by simp [hi])
 rw [←hc]
 congr 1
 unfold Addr.add
 split
 ·rename_i h;subst h;rfl
 ·simp
end
end Go.Proofs.YthomdlajobnmnaaGreatDoor.Cq
namespace Go.Proofs.YthomdlajobnmnaaGreatDoor
open Go.RowKit Go.Rex
theorem tmP (x n:Int) (h:0<n) (hx:0≤x):0≤x.tmod n∧x.tmod n<n:=by
 rw [Int.tmod_eq_emod_of_nonneg hx]
 exact ⟨Int.emod_nonneg _ (by omega),Int.emod_lt_of_pos _ h⟩
theorem wrP (x:Int):0≤IntKind.u64.wrap x:=by
 simp only [IntKind.wrap,IntKind.bits,IntKind.signed]
 exact Int.emod_nonneg _ (by decide)
theorem w64 {n:Int} (h0:0≤n) (h1:n<9223372036854775808):wrap64 n=n:=by unfold wrap64;omega
theorem abd (a k:Int) (h0:0<k) (h1:k≤1000):∃n:Nat,wrap64 (1+wrap64 ((IntKind.u64.wrap a).tmod k))=(n:Int)∧1≤n∧(n:Int)≤k:=by
 have h:=tmP (IntKind.u64.wrap a) k h0 (wrP a)
 have e1:wrap64 ((IntKind.u64.wrap a).tmod k)=(IntKind.u64.wrap a).tmod k:=w64 (by omega) (by omega)
 rw [e1,w64 (by omega) (by omega)]
 exact ⟨(1+(IntKind.u64.wrap a).tmod k).toNat,by omega,by omega,by omega⟩
structure aif (n:Nat) (p:PS) (W:Nat→Wk):Prop where
 bare:ahK p
 pe:∀i,i<n→∃l t,Pe (W i) l t
structure SE (n k m:Nat) (p:PS) (W:Nat→Wk):Prop where
 all:aif n p W
 few:m≤300
 now:k<n→∃l t,Pe (W k) l t∧wM (W k) l t≤m
 past:∀i,i<k→(W i).idle
 st:p.steps+(m:Int)≤501+300 * ((k:Int)+1)
theorem SE.said {n m:Nat} {p:PS} {W:Nat→Wk} (h:SE n n m p W) {i:Nat} (hi:i<n):(W i).said=[(2,0),(2,0),(2,0)]:=by
 obtain ⟨l,t,H⟩:=h.all.pe i hi
 exact H.end (h.past i hi)
end Go.Proofs.YthomdlajobnmnaaGreatDoor
namespace Go.Proofs.YthomdlajobnmnaaGreatDoor.Cq
open Go.RowKit Go.Rex
def o9 (o:Op):List Value:=[.int .i64 o.kind,.int .i64 o.key,.int .i64 o.val,.int .i64 o.wh]
theorem HZ:∀(l:List Op) (i:Nat) (o:Op) (k:Nat),l[i]?=some o→k<4→(l.flatMap o9)[4 * i+k]?=(o9 o)[k]?
 | [],i,o,k,h,hk=>by simp at h
 | a :: l,0,o,k,h,hk=>by
  obtain rfl:a=o:=by simpa using h
  rw [List.flatMap_cons,List.getElem?_append_left (by simpa [o9] using hk)]
  simp
 | a :: l,i+1,o,k,h,hk=>by
  have h':l[i]?=some o:=by simpa using h
  rw [List.flatMap_cons,List.getElem?_append_right (by simp [o9];omega)]
  have e:4 * (i+1)+k-(o9 a).length=4 * i+k:=by simp [o9];omega
  rw [e]
  exact HZ l i o k h' hk
theorem QW {w:World} {base g n:Nat} {v:Value} {l:List Op} (h:w.ownsRow base 28 4 v n (l.flatMap o9)) (hg:v.ownBlock=some g):lZ w g l:=by
 have hc:∀j x,(l.flatMap o9)[j]?=some x→w.cell? ⟨g,j,none⟩=some x:=fun j x hx=>by
  have:=h.cells hg j x hx
  rw [←this]
  congr 1
  unfold Addr.add
  split
  ·rename_i h;subst h;rfl
  ·simp
 refine ⟨fun i o hi=>⟨?_,?_,?_,?_⟩⟩
 ·exact hc _ _ (HZ l i o 0 hi (by decide))
 ·exact hc _ _ (HZ l i o 1 hi (by decide))
 ·exact hc _ _ (HZ l i o 2 hi (by decide))
 ·exact hc _ _ (HZ l i o 3 hi (by decide))
theorem iX.pl {w1 w:World} {aP:Addr} {aW A:Nat→Nat} {base g n:Nat} {p:PS} {W:Nat→Wk} (R:iX w1 w aP aW A base g n p W):∃BP,gL w aP p BP:=by
 obtain ⟨F,hC,-⟩:=R.cr
 obtain ⟨BP,BM,h1,-⟩:=hC.ex
 exact ⟨BP,h1⟩
theorem T9:∀(l:List (Int × Int)) (i:Nat) (x:Int × Int),l[i]?=some x→(jP l)[i * 2]?=some (.int .i64 x.1)∧(jP l)[i * 2+1]?=some (.int .i64 x.2)
 | [],i,x,h=>by simp at h
 | a :: l,0,x,h=>by
  obtain rfl:a=x:=by simpa using h
  exact ⟨rfl,rfl⟩
 | a :: l,i+1,x,h=>by
  have h':l[i]?=some x:=by simpa using h
  obtain ⟨h1,h2⟩:=T9 l i x h'
  have e:jP (a :: l)=[.int .i64 a.1,.int .i64 a.2] ++ jP l:=rfl
  rw [e,List.getElem?_append_right (by simp;omega),List.getElem?_append_right (by simp;omega)]
  refine ⟨?_,?_⟩
  ·rw [←h1];congr 1;simp;omega
  ·rw [←h2];congr 1;simp;omega
theorem aQ.agv {w:World} {b base A:Nat} {k:Wk} {B:Nat→Prop} (h:aQ w b base A k B) (hs:k.said≠[]):∃gs cs,w.cell? ⟨b,4,none⟩=some (.slice (some ⟨gs,0,none⟩) k.said.length cs)∧∀i x,k.said[i]?=some x→w.cell? ⟨gs,i * 2,none⟩=some (.int .i64 x.1)∧w.cell? ⟨gs,i * 2+1,none⟩=some (.int .i64 x.2):=by
 obtain ⟨aR,jv,sv,c,BR,BJ,h1,h2,h3,h4,h5,-⟩:=h.ex
 have NZ:w.cell? ⟨b,4,none⟩=some sv:=by
  unfold World.cell?
  rw [h1]
  rfl
 have h5':=h5
 obtain ⟨-,⟨-,h6⟩ | ⟨g,cap,cur,rfl,-⟩⟩:=h5'
 ·exact absurd (List.length_eq_zero_iff.1 h6) hs
 ·have hc:∀j x,(jP k.said)[j]?=some x→w.cell? ⟨g,j,none⟩=some x:=fun j x hx=>by
   have:=h5.cells (g:=g) rfl j x hx
   rw [←this]
   congr 1
   unfold Addr.add
   split
   ·rename_i h;subst h;rfl
   ·simp
  exact ⟨g,cap,NZ,fun i x hx=>⟨hc _ _ (T9 _ i x hx).1,hc _ _ (T9 _ i x hx).2⟩⟩
theorem OT:∀(n:Nat) (w:Wk),(w.go n).1.ops=w.ops
 | 0,w=>rfl
 | n+1,w=>by
  unfold Wk.go
  repeat' split
  all_goals first | rfl | (rw [OT n];done) | (rw [OT n])
theorem OU (w:Wk) (p:PS):(w.step p).1.ops=w.ops:=by
 have h:=OT 200 w
 unfold Wk.step
 split
 ·rename_i e;rw [e] at h;exact h
 ·rename_i e
  rw [e] at h
  repeat' split
  all_goals exact h
theorem Ends.qB {n:Nat} {S:Nat→Nat→PS→(Nat→Wk)→Prop} (H:Ends n S) (O:Nat→List Op):Ends n fun k m p W=>S k m p W∧∀i,i<n→(W i).ops=O i where
 acc:=fun k m p W h hk=>H.acc k m p W h.1 hk
 step:=fun k m p W h hk=>by
  obtain ⟨w',p',b,e,g⟩:=H.step k m p W h.1 hk
  have ho:∀i,i<n→(jN W k w' i).ops=O i:=fun i hi=>by
   by_cases hik:i=k
   ·rw [hik,bF,←h.2 k hk,←OU (W k) p,e]
   ·rw [dR _ _ hik];exact h.2 i hi
  refine ⟨w',p',b,e,?_⟩
  rcases g with ⟨g0,m',g1,g2⟩ | ⟨g0,g1,m',g2⟩
  ·exact .inl ⟨g0,m',g1,g2,ho⟩
  ·exact .inr ⟨g0,g1,m',g2,ho⟩
 next:=fun k m p W h hk hid=>by
  obtain ⟨m',g1,g2⟩:=H.next k m p W h.1 hk hid
  exact ⟨m',g1,g2,h.2⟩
theorem iq.DJ {l:List (Int × Int)} {c:Nat} (h:iq l c):c=(l.filter fun x=>x.1 == 1).length:=by
 induction h with
 | nil=>rfl
 | no h ih=>rw [List.filter_append,List.length_append,←ih];rfl
 | yes h ih=>rw [List.filter_append,List.length_append,←ih];rfl
theorem iq.uniq {l:List (Int × Int)} {c d:Nat} (h:iq l c) (h':iq l d):c=d:=h.DJ.trans h'.DJ.symm
theorem iq.at {l:List (Int × Int)} {d:Nat} (h:iq l d):∀i,i<l.length→∃c,iq (l.take i) c∧((l[i]?=some (2,0)∧iq (l.take (i+1)) c)∨(l[i]?=some (1,(c:Int))∧iq (l.take (i+1)) (c+1))):=by
 have aux:∀(l:List (Int × Int)) (x:Int × Int) (d d':Nat),iq l d→iq (l ++ [x]) d'→((x=(2,0)∧d'=d)∨(x=(1,(d:Int))∧d'=d+1))→(∀i,i<l.length→∃c,iq (l.take i) c∧((l[i]?=some (2,0)∧iq (l.take (i+1)) c)∨(l[i]?=some (1,(c:Int))∧iq (l.take (i+1)) (c+1)))) →
   ∀i,i<(l ++ [x]).length→∃c,iq ((l ++ [x]).take i) c∧(((l ++ [x])[i]?=some (2,0)∧iq ((l ++ [x]).take (i+1)) c)∨((l ++ [x])[i]?=some (1,(c:Int))∧iq ((l ++ [x]).take (i+1)) (c+1))):=fun l x d d' h1 h2 h3 ih i hi=>by
  rw [List.length_append,List.length_singleton] at hi
  by_cases hil:i<l.length
  ·rw [List.take_append_of_le_length (by omega),List.take_append_of_le_length (by omega),List.getElem?_append_left hil]
   exact ih i hil
  ·obtain rfl:i=l.length:=by omega
   refine ⟨d,by rw [List.take_append_of_le_length (Nat.le_refl _),List.take_length];exact h1,?_⟩
   rw [List.getElem?_append_right (Nat.le_refl _),Nat.sub_self,List.take_of_length_le (by simp)]
   rcases h3 with ⟨rfl,rfl⟩ | ⟨rfl,rfl⟩
   ·exact .inl ⟨rfl,h2⟩
   ·exact .inr ⟨rfl,h2⟩
 induction h with
 | nil=>intro i hi;cases hi
 | no h ih=>exact aux _ _ _ _ h (.no h) (.inl ⟨rfl,rfl⟩) ih
 | yes h ih=>exact aux _ _ _ _ h (.yes h) (.inr ⟨rfl,rfl⟩) ih
theorem afQ:(Tryz.prog.info? 28).map (fun i=>(i.zero,i.size,i.bytes))=some (some (.agg #[.int .i64 0,.int .i64 0,.int .i64 0,.int .i64 0]),4,32):=by kernel_rfl
structure oJ (w0 w:World) (ja jb:Nat) (s s':Value):Prop where
 a:w.ownsRow w0.heap.size 28 4 s ja ((kG ja).flatMap o9)
 b:w.ownsRow w0.heap.size 28 4 s' jb ((je jb).flatMap o9)
 sa:∃g c,s=.slice (some ⟨g,0,none⟩) ja c
 sb:∃g c,s'=.slice (some ⟨g,0,none⟩) jb c
 ne:∀g,s.ownBlock=some g→s'.ownBlock≠some g
 nw:Nw w0 w
theorem acy (j:Nat):(kG (j+1)).flatMap o9=(kG j).flatMap o9 ++ [.int .i64 4,.int .i64 0,.int .i64 (j:Int),.int .i64 0]:=by
 unfold kG
 rw [List.range_succ,List.map_append,List.flatMap_append]
 rfl
theorem ZF (j:Nat):(je (j+1)).flatMap o9=(je j).flatMap o9 ++ [.int .i64 5,.int .i64 0,.int .i64 0,.int .i64 0]:=by
 unfold je
 rw [List.replicate_succ',List.flatMap_append]
 rfl
theorem OV (w:World) (x y z u:Value) (t:TypeId):∀j v,[x,y,z,u][j]?=some v→(w.alloc (.cells #[x,y,z,u] t)).cell? ((⟨w.heap.size,0,none⟩:Addr).add j)=some v:=by
 intro j v hj
 match j,hj with
 | 0,hj=>simp at hj;subst hj;simp [Addr.add]
 | 1,hj=>simp at hj;subst hj;simp [Addr.add]
 | 2,hj=>simp at hj;subst hj;simp [Addr.add]
 | 3,hj=>simp at hj;subst hj;simp [Addr.add]
 | j+4,hj=>simp at hj
theorem OW (x y z u:Int):∀v∈[Value.int .i64 x,.int .i64 y,.int .i64 z,.int .i64 u],v.oneCell'=true:=by
 intro v hv
 simp at hv
 rcases hv with rfl | rfl | rfl | rfl <;> rfl
theorem Ua (a k:Int) (h0:0<k) (h1:k≤1000):∃n:Nat,wrap64 ((IntKind.u64.wrap a).tmod k)=(n:Int)∧(n:Int)<k:=by
 have h:=tmP (IntKind.u64.wrap a) k h0 (wrP a)
 rw [w64 (by omega) (by omega)]
 exact ⟨((IntKind.u64.wrap a).tmod k).toNat,by omega,by omega⟩
def Ae (a b i:Nat):List Op:=if i=0 then kG a else je b
theorem afR (a:Nat):(kG a).length=a:=by unfold kG;simp
theorem acz (b:Nat):(je b).length=b:=by unfold je;simp
def OX:List (Bool × List FK):=[(true,List.replicate 2 (.int .i64)),(true,List.replicate 2 (.int .i64)),afC]
theorem aih {f:FuncId} (hf:∃fn,Tryz.prog.funcs[f]?=some fn∧fn.body.isSome=true∧(fn.name == "runtime.NumGoroutine")=false)
  (h:∀w ν a0 a1 b0 b1 v l,vS w ν→Rd w v l→Calls Tryz.prog f #[.agg #[.int .i64 a0,.int .i64 a1],.agg #[.int .i64 b0,.int .i64 b1],v] w fun e w'=>e=.returned (.bool true)∧Nw w w') :
  bg Tryz.prog (iK 36 o8 f OX) (Bz OX) (za o8 OX) :=
 acu hf fun ρ ν w iw hs hpre=>h w ν (ρ.iv 0) (ρ.iv 1) (ρ.iv 2) (ρ.iv 3) _ _ hs (agp (b:=4) (k:=16) iw rfl (by
   replace hpre:_∧_∧_∧_∧((ρ.bv 4=true→ρ.iv 5=0∧ρ.iv 6=0)∧0≤ρ.iv 5∧ρ.iv 5≤ρ.iv 6∧ρ.iv 6≤9223372036854775807∧_)∧_:=hpre
   obtain ⟨-,-,-,-,⟨h1,h2,h3,h4,-⟩,-⟩:=hpre
   exact ⟨h1,h2,h3,h4⟩))
end Go.Proofs.YthomdlajobnmnaaGreatDoor.Cq
