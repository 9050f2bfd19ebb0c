/- part 27 of the proof -/
import Derived.Test.YthomdlajobnmnaaGreatDoorChecked
import Derived.WalkKit
import Derived.LaidEql
import Derived.Stop.Asserts
import Derived.RowKitTokens
import Derived.Test.YthomdlajobnmnaaGreatDoorT18
import Derived.Test.YthomdlajobnmnaaGreatDoorT20
import Derived.Test.YthomdlajobnmnaaGreatDoorT26
namespace Go.Proofs.YthomdlajobnmnaaGreatDoor
open Go.RowKit Go.Extern.Stop Go.Stop Go.Extern
theorem T9 (v:Value) (w:World):(Extern.ReflectliteType.typeOf #[.iface 224 v]).run Tryz.prog w=.ok (.iface 188 (.agg #[.pointer (some ⟨8,224,none⟩)])) w:=by kernel_rfl
def YN:Array Value→Sem Value:=Extern.ReflectliteType.method fun t=>do Extern.Rtype.noPackHeld "Comparable" t;pure (.bool (←typeInfo t).comparable)
theorem Ky (w:World):(YN #[.agg #[.pointer (some ⟨8,224,none⟩)]]).run Tryz.prog w=.ok (.bool true) w:=by kernel_rfl
theorem zB (v:Value) (w:World):(Go.method 361 188 v "Comparable").run Tryz.prog w=.ok (174,v) w:=by kernel_rfl
theorem YO:(Tryz.prog.info? 224).map (·.comparable)=some true:=by kernel_rfl
theorem YP:(Tryz.prog.info? 249).map (·.size)=some 1:=by kernel_rfl
theorem Zm (v:Value) (xT:TypeId) (w:World):(Instr.typeAssert (.iface 161 v) xT 190 true).run Tryz.prog w=.ok (.tuple #[.nilIface,.bool false]) w:=run_typeAssert_lacksB Tryz.underlying190 (by kernel_rfl) (by kernel_rfl) v xT w
theorem OB (v:Value) (xT:TypeId) (w:World):(Instr.typeAssert (.iface 161 v) xT 193 true).run Tryz.prog w=.ok (.tuple #[.iface 161 v,.bool true]) w:=run_typeAssert_hasB Tryz.underlying193 (by kernel_rfl) v xT w
theorem Kz (v:Value) (w:World):(Go.method 361 161 v "Unwrap").run Tryz.prog w=.ok (170,v) w:=by kernel_rfl
theorem KA (a:Addr) (b:Addr) (w:World) (h1:w.cell? ⟨a.block,a.off+1,none⟩=some (.iface 224 (.pointer (some b)))) :
  Calls Tryz.prog 31 #[.iface 161 (.pointer (some a)),.iface 224 (.pointer (some b))] w fun e w'=>e=.returned (.bool true)∧w'=w:=by
 obtain ⟨i,hi,hcmp⟩:=Option.map_eq_some_iff.1 YO
 obtain ⟨j,hj,hjs⟩:=Option.map_eq_some_iff.1 YP
 have h8:=@run_callFunc_extern Tryz.prog 60 _ Extern.ReflectliteType.typeOf Tryz.func60 (by kernel_rfl) (by kernel_rfl) (by kernel_rfl) (by kernel_rfl)
 have h32:=@run_callFunc_extern Tryz.prog 174 _ YN Tryz.func174 (by kernel_rfl) (by kernel_rfl) (by kernel_rfl) (by kernel_rfl)
 have tT:=T9
 have cT:=Ky
 have mR:=zB
 have nW:=Zm
 have uW:=OB
 have mU:=Kz
 have heq:=run_eql_iface_ptr_same (P:=Tryz.prog) w b Tryz.underlying36 Tryz.underlying224 hi hcmp hj
 have hty:=run_eql_iface_types (P:=Tryz.prog) 161 224 (.pointer (some a)) (.pointer (some b)) Tryz.underlying36 (by decide) w
 go_enter Tryz.func31,Tryz.ntmps31
 go_wp2
 refine wp_loop_rounds 2 ?_
 rw [rounds_succ]
 go_wp2
 rw [rounds_succ]
 go_wp2
 go_ret
 exact ⟨rfl,rfl⟩
end Go.Proofs.YthomdlajobnmnaaGreatDoor
set_option linter.unusedSimpArgs false
set_option linter.unusedVariables false
namespace Go.Proofs.YthomdlajobnmnaaGreatDoor
open Go.RowKit Go.Rex
def YQ:Bool × List FK:=(false,[.sl 3 [.int .i64]])
theorem WV:bf Tryz.prog YM ow ow:=by
 refine Sk ⟨_,Tryz.func31,by kernel_rfl,by kernel_rfl⟩ rfl (fun ρ ν w gW _ _=>?_) fun _ _=>trivial
 obtain ⟨-,cs,hcs,hrd⟩:=gW.rd 0 _ rfl rfl rfl
 have h1:=hrd 1 _ (hcs.ex 1 _ rfl rfl)
 have e0:SA.den ρ ν {aD:=0}=ν 0:=by simp [SA.den,SA.off,IE.den,Addr.add_zero]
 have e1:SA.den ρ ν {aD:=1}=ν 1:=by simp [SA.den,SA.off,IE.den,Addr.add_zero]
 have h2:w.cell? ⟨(ν 0).block,(ν 0).off+1,none⟩=some (.iface 224 (.pointer (some (ν 1)))):=by
  have h1:w.cell? ((ν 0).add 1)=some (.iface 224 (.pointer (some (SA.den ρ ν {aD:=1})))):=h1
  rw [e1] at h1
  exact h1
 have hc:=KA (ν 0) (ν 1) w h2
 show Calls Tryz.prog 31 #[.iface 161 (.pointer (some (SA.den ρ ν {aD:=0}))),.iface 224 (.pointer (some (SA.den ρ ν {aD:=1})))] w _
 rw [e0,e1]
 exact hc
noncomputable def Mq:Ex:={sched:=sched,loops:=[],cons:=[YM],fin:=sM}
def GU:Out :=
 .call 0 {lo:=0,az:=0,iv:=[(0,.lit 7)],bk:=[(1,yb 1),(0,yb 85)]} 1 <|
 .fin {lo:=1,az:=12}
theorem OC:exec tab Mq 8000 [] (fB sM.f sM.nv [] sM.gl sM.hp sM.args)=GU:=by kernel_rfl
theorem OD:bf Tryz.prog sM ow ow :=
 dw dY (E:=Mq) (cs:=[(YM,ow,ow)]) rfl (fun k pre post h=>by
   cases h with
   | head=>exact ⟨by kernel_rfl,WV⟩
   | tail _ h=>cases h) bZ rfl OC (by kernel_rfl) (fun ρ _ p hp=>by cases hp) fun ρ _=>by
   unfold GU
   repeat' first
    | refine Sat.new fun _ _=>?_
    | refine Sat.call rfl trivial fun _ _=>?_
    | exact Sat.fin trivial
def Rd (w:World) (v:Value) (l:List Int):Prop :=
 ∃A c,v=.slice A l.length c∧l.length≤c∧c≤9223372036854775807∧∀k,k<l.length→∃ad,A=some ad∧w.cell? (ad.add k)=some (.int .i64 (l.getD k 0))
def KC (m:Nat):List (Bool × List FK):=[(true,List.replicate m (.int .i64)),YQ]
theorem Zn {ρ:Env} {ν:Nat→Addr} {w:World} {b k:Nat} {H:List SB} (hp:aK ρ ν H w) (hb:H[k]?=some {t:=3,aV:=[{r:=b+3,n1:=.var (b+1),s1:=1,ks:=[.int .i64]}],ro:=true,nl:=.var b})
  (h:(ρ.bv b=true→ρ.iv (b+1)=0∧ρ.iv (b+2)=0)∧0≤ρ.iv (b+1)∧ρ.iv (b+1)≤ρ.iv (b+2)∧ρ.iv (b+2)≤9223372036854775807) :
  Rd w (SC.den ρ ν (.eY (.var b) {aD:=k,i1:=.lit 0,s1:=1} (.var (b+1)) (.var (b+2)))) ((List.range (ρ.iv (b+1)).toNat).map fun i=>ρ.ic (b+3) i 0 0):=by
 obtain ⟨h1,h2,h3,h4⟩:=h
 have hlen:((List.range (ρ.iv (b+1)).toNat).map fun i=>ρ.ic (b+3) i 0 0).length=(ρ.iv (b+1)).toNat:=by simp
 have hden:SC.den ρ ν (.eY (.var b) {aD:=k,i1:=.lit 0,s1:=1} (.var (b+1)) (.var (b+2)))=if ρ.bv b=true then .slice none 0 0 else .slice (some (ν k)) (ρ.iv (b+1)).toNat (ρ.iv (b+2)).toNat:=by
  simp [SC.den,BE.den,IE.den,SA.den,SA.off,Addr.add_zero]
 cases hnil:ρ.bv b with
 | true =>
  obtain ⟨z1,z2⟩:=h1 hnil
  refine ⟨none,0,?_,?_,by omega,fun j hj=>?_⟩
  ·rw [hden,hlen,z1,if_pos hnil]
   rfl
  ·rw [hlen,z1]
   decide
  ·rw [hlen,z1] at hj
   exact absurd hj (Nat.not_lt_zero _)
 | false =>
  refine ⟨some (ν k),(ρ.iv (b+2)).toNat,?_,?_,by omega,fun j hj=>⟨ν k,rfl,?_⟩⟩
  ·rw [hden,hlen,hnil,if_neg (by decide)]
  ·rw [hlen]
   omega
  ·rw [hlen] at hj
   obtain ⟨-,cs,hcs,hcell⟩:=hp.rd k _ hb (by simp [SB.dead,BE.den,hnil]) rfl
   have:=hcs.sg 0 _ rfl j 0 0 (by show (j:Int)<ρ.iv (b+1);omega) (by show 0<1;decide) (by show 0<1;decide)
   have h0:=hcell _ _ this
   simp only [Nat.mul_one,Nat.zero_mul,Nat.add_zero] at h0
   rw [h0]
   simp [cu,ae.base,hj]
theorem K8 (l:List SB):o7 (l.map fun _=>eG)=true:=by
 induction l with
 | nil=>rfl
 | cons x r ih=>simpa [o7,eG] using ih
def xw:List SB:=jd 36 nL 0
structure qF (w:World) (ν:Nat→Addr):Prop where
 hp:∃ρ,aK ρ ν xw w
 gl:jm ν (gI nL 0)
def vB (k:Nat):Nat:=if k<2 then k else k+4
theorem Zo:(List.range mi.length).map (fun j=>xw[vB j]?)=mi.map fun sb=>some (sb.aT id vB):=by kernel_rfl
theorem WW:∀i j,i<mi.length→j<mi.length→vB i=vB j→i=j:=by
 intro i j _ _ h
 unfold vB at h
 split at h <;> split at h <;> omega
theorem aaV (ν:Nat→Addr) (h:jm ν (gI nL 0)):jm (fun k=>ν (vB k)) (gI JE 0):=by
 have hm:∀g k,assoc g (gI JE 0)=some k→assoc g (gI nL 0)=some (vB k):=fun g k hk=>by
  have hmem:=jC hk
  have:∀x∈gI JE 0,assoc x.1 (gI nL 0)=some (vB x.2):=by decide
  exact this _ hmem
 exact ⟨fun g k hg hk=>h.at_ g _ hg (hm g k hk),fun g g' k k' h1 h2 h3 h4=>h.ne g g' _ _ h1 h2 (hm _ _ h3) (hm _ _ h4)⟩
theorem qF.sn {w:World} {ν:Nat→Addr} (h:qF w ν):nu w fun k=>ν (vB k):=by
 obtain ⟨⟨ρ,h1⟩,h2⟩:=h
 exact ⟨⟨ρ.pull id,h1.sub Zo WW⟩,aaV ν h2⟩
theorem qF.lt {w:World} {ν:Nat→Addr} (h:qF w ν) {k:Nat} (hk:k<12):(ν k).block<w.heap.size:=by
 obtain ⟨⟨ρ,h1⟩,h2⟩:=h
 have hl:k<xw.length:=hk
 have hd:∀sb∈xw,sb.dead ρ=false:=by
  have hg:(xw.all fun b=>!b.gone && (match b.nl with | .lit false=>true | _=>false))=true:=by kernel_rfl
  intro sb hsb
  have:=List.all_eq_true.1 hg sb hsb
  simp only [Bool.and_eq_true,Bool.not_eq_true'] at this
  obtain ⟨a,b⟩:=this
  unfold SB.dead
  rw [a]
  split at b
  ·rename_i he
   rw [he]
   rfl
  ·cases b
 exact h1.lt (List.getElem?_eq_getElem hl) (hd _ (List.getElem_mem hl))
theorem qF.nw {w w':World} {ν:Nat→Addr} (h:qF w ν) (hn:Nw w w'):qF w' ν:=by
 have hl:=fun k hk=>h.lt (k:=k) hk
 obtain ⟨⟨ρ,h1⟩,h2⟩:=h
 exact ⟨⟨ρ,h1.BB hn.size fun k sb hk _=>hn.block _ (hl k (List.getElem?_eq_some_iff.1 hk).1) id⟩,h2⟩
theorem K9 {w:World} {ν:Nat→Addr} (h:qF w ν):Calls Tryz.prog 8 #[] w fun e w'=>e=.returned (.bool true)∧Nw w w':=by
 obtain ⟨⟨ρ,h1⟩,h2⟩:=h
 refine Calls.mono (OD.run ρ ν w h1 h2 trivial) ?_
 rintro e w' ⟨ρ',aI,hA,rfl,gW,hwr,how,-⟩
 exact ⟨rfl,hwr.os,hwr.tape,hwr.output,hwr.size,fun k hk _=>hwr.block k hk fun h=>Ka (by kernel_rfl) h⟩
theorem WX {f:FuncId} {sh:List (Bool × List FK)} (hf:∃fn,Tryz.prog.funcs[f]?=some fn∧fn.body.isSome=true∧(fn.name == "runtime.NumGoroutine")=false)
  (hrun:∀ρ ν w,aK ρ ν (gU 36 nL f sh).hp w→qF w ν→yX sh ρ.num→Calls Tryz.prog f ((gU 36 nL f sh).args.map (·.den ρ ν)).toArray w fun e w'=>e=.returned (.bool true)∧Nw w w') :
  bf Tryz.prog (gU 36 nL f sh) (yX sh) (wH nL sh):=by
 refine ⟨hf,fun ρ ν w gW hgl hpre=>?_⟩
 have Es:qF w ν:=by
  refine ⟨⟨ρ,?_⟩,hgl⟩
  have e:∀(k:Nat) (sb:SB),xw[k]?=some sb→(gU 36 nL f sh).hp[k]?=some sb:=fun k sb hk=>by
   show (xw ++ _)[k]?=some sb
   rw [List.getElem?_append_left (List.getElem?_eq_some_iff.1 hk).1]
   exact hk
  exact ⟨fun i j a b hi hj=>gW.inj i j a b (e i a hi) (e j b hj),fun k sb hk=>gW.aD k sb (e k sb hk),fun k sb hk=>gW.rd k sb (e k sb hk)⟩
 refine (hrun ρ ν w gW Es hpre).mono ?_
 rintro e w' ⟨rfl,hw⟩
 obtain ⟨N,hN⟩:∃N,N=(gU 36 nL f sh).nv:=⟨_,rfl⟩
 have hd:∀(j:Nat) (sb:SB),(gU 36 nL f sh).hp'[j]?=some sb→∀q:Env,sb.dead q=true:=fun j sb hj q=>by
  unfold SB.dead
  rw [wG (K8 _) hj]
  rfl
 refine ⟨{ρ with bv:=fun i=>if i=N then true else ρ.bv i},ν,⟨fun _ _=>rfl,fun i hi=>if_neg (by omega),fun _ _=>rfl,fun _ _=>rfl,fun _ _=>rfl,fun _ _=>rfl,fun _ _=>rfl⟩,?_,⟨fun i j a b hi hj da=>?_,fun j sb hj dj=>?_,fun j sb hj dj=>?_⟩,⟨hw.os,hw.tape,hw.output,hw.size,fun k hk _=>hw.block k hk id⟩,fun j sb hj _ dj=>?_,?_⟩
 ·show Ending.returned (.bool true)=.returned (.bool (if (gU 36 nL f sh).nv=N then true else _))
  rw [if_pos hN.symm]
 ·rw [hd i a hi] at da;cases da
 ·rw [hd j sb hj] at dj;cases dj
 ·rw [hd j sb hj] at dj;cases dj
 ·rw [hd j sb hj] at dj;cases dj
 ·show (if (gU 36 nL f sh).nv=N then true else _)=true
  rw [if_pos hN.symm]
theorem aaW {f:FuncId} (hf:∃fn,Tryz.prog.funcs[f]?=some fn∧fn.body.isSome=true∧(fn.name == "runtime.NumGoroutine")=false)
  (h:∀w ν a0 a1 v l,qF w ν→Rd w v l→Calls Tryz.prog f #[.agg #[.int .i64 a0,.int .i64 a1],v] w fun e w'=>e=.returned (.bool true)∧Nw w w') :
  bf Tryz.prog (gU 36 nL f (KC 2)) (yX (KC 2)) (wH nL (KC 2)) :=
 WX hf fun ρ ν w gW hs hpre=>h w ν (ρ.iv 0) (ρ.iv 1) _ _ hs (Zn (b:=2) (k:=12) gW rfl (by
   replace hpre:_∧_∧((ρ.bv 2=true→ρ.iv 3=0∧ρ.iv 4=0)∧0≤ρ.iv 3∧ρ.iv 3≤ρ.iv 4∧ρ.iv 4≤9223372036854775807∧_)∧_:=hpre
   obtain ⟨-,-,⟨h1,h2,h3,h4,-⟩,-⟩:=hpre
   exact ⟨h1,h2,h3,h4⟩))
end Go.Proofs.YthomdlajobnmnaaGreatDoor
namespace Go.Proofs.YthomdlajobnmnaaGreatDoor
open Go.Rex
structure Wb (k:Int) (w:Wd):Prop where
 s:-2000≤w.slot∧w.slot≤2000
 g:-k≤w.gen∧w.gen≤k
 t:-(2000 * k+3000)≤w.tag∧w.tag≤2000 * k+3000
 n:-(2000 * k+3000)≤w.num∧w.num≤2000 * k+3000
theorem Wb.mono {k k':Int} {w:Wd} (h:Wb k w) (hk:k≤k'):Wb k' w:=by
 obtain ⟨h1,h2,h3,h4⟩:=h
 exact ⟨h1,by omega,by omega,by omega⟩
theorem Wb.zero {k:Int} (h:0≤k):Wb k Wd.zero:=by
 refine ⟨?_,?_,?_,?_⟩ <;> simp [Wd.zero] <;> omega
theorem Wb.num {k n:Int} (h:0≤k) (hn:-(2000 * k+3000)≤n∧n≤2000 * k+3000):Wb k (Wd.dK n):=by
 refine ⟨?_,?_,?_,hn⟩ <;> simp [Wd.dK] <;> omega
theorem Wb.ref {k:Int} {w:Wd} (h0:0≤k) (h:Wb k w):Wb k w.dS:=by
 obtain ⟨h1,h2,h3,h4⟩:=h
 refine ⟨h1,h2,?_,?_⟩ <;> simp [Wd.dS] <;> omega
structure PS.wb (k:Int) (p:PS):Prop where
 bd:∀i,Wb k (p.bd i)
 cell:∀i j,Wb k (p.cell i j)
theorem PS.wb.mono {k k':Int} {p:PS} (h:p.wb k) (hk:k≤k'):p.wb k':=⟨fun i=>(h.bd i).mono hk,fun i j=>(h.cell i j).mono hk⟩
theorem PS.wb.at {k:Int} {p:PS} (h:p.wb k) (s f:Int):Wb k (p.at s f):=by
 unfold PS.at
 split
 ·exact h.bd _
 ·exact h.cell _ _
theorem PS.wb.put {k:Int} {p:PS} (h:p.wb k) {s f:Int} {w:Wd} (hw:Wb k w):(p.put s f w).wb k:=by
 unfold PS.put
 split
 ·refine ⟨fun i=>?_,h.cell⟩
  show Wb k (if i=f.toNat then w else p.bd i)
  split
  ·exact hw
  ·exact h.bd i
 ·refine ⟨h.bd,fun i j=>?_⟩
  show Wb k (if i=(s-1).toNat∧j=f.toNat then w else p.cell i j)
  split
  ·exact hw
  ·exact h.cell i j
theorem PS.wb.act {k:Int} {p:PS} {a:Ac} (h0:0≤k) (h:p.wb k) (hok:p.OK) (hs:p.steps≤k) (ha:Wb (k+1) a.new):(p.act a).1.wb (k+1)∧∀x,(p.act a).2=some x→Wb (k+1) x.word:=by
 have h':p.wb (k+1):=h.mono (by omega)
 have hz:Wb (k+1) Wd.zero:=Wb.zero (by omega)
 unfold PS.act
 by_cases hv:p.valid a
 ·rw [if_pos hv]
  by_cases hr:p.right a
  ·rw [if_pos hr]
   have q:(PS.wb (k+1) {p with steps:=p.steps+1}):=⟨h'.bd,h'.cell⟩
   suffices hm:(PS.makes {p with steps:=p.steps+1} a).1.wb (k+1)∧Wb (k+1) (PS.makes {p with steps:=p.steps+1} a).2.word from ⟨hm.1,fun x hx=>by cases hx;exact hm.2⟩
   unfold PS.makes
   split
   ·unfold PS.alloc
    split
    ·exact ⟨q,hz⟩
    ·rename_i hnf
     have ab4:¬p.nf=0:=hnf
     have ab5:=hok.nf
     have hfr:=hok.fr (p.nf-1).toNat (by omega)
     have hg:=hok.gen (p.fr (p.nf-1).toNat-1).toNat
     have hmd:=hok.made
     have hns:=hok.ns
     refine ⟨⟨h'.bd,fun i j=>?_⟩,?_⟩
     ·show Wb (k+1) (if i=(p.fr (p.nf-1).toNat-1).toNat∧j<10 then nH a.new.num j else p.cell i j)
      split
      ·unfold nH
       split
       ·exact ⟨hz.s,hz.g,hz.t,ha.n⟩
       ·exact hz
      ·exact h'.cell i j
     ·refine ⟨?_,?_,?_,?_⟩
      ·show -2000≤p.fr (p.nf-1).toNat∧p.fr (p.nf-1).toNat≤2000
       omega
      ·show -(k+1)≤p.gen (p.fr (p.nf-1).toNat-1).toNat+1∧p.gen (p.fr (p.nf-1).toNat-1).toNat+1≤k+1
       omega
      ·show -(2000 * (k+1)+3000)≤0∧0≤2000 * (k+1)+3000
       omega
      ·show -(2000 * (k+1)+3000)≤0∧0≤2000 * (k+1)+3000
       omega
   split
   ·exact ⟨⟨h'.bd,h'.cell⟩,hz⟩
   split
   ·exact ⟨q,q.at _ _⟩
   split
   ·exact ⟨q.put ha,hz⟩
   split
   ·exact ⟨q.put ha,q.at _ _⟩
   ·exact ⟨q,q.at _ _⟩
  ·rw [if_neg hr]
   refine ⟨⟨h'.bd,h'.cell⟩,fun x hx=>?_⟩
   cases hx
   unfold fu
   split
   ·exact ⟨hz.s,hz.g,hz.t,by show -(2000 * (k+1)+3000)≤-1∧(-1:Int)≤2000 * (k+1)+3000;omega⟩
   ·exact hz
 ·rw [if_neg hv]
  exact ⟨h',fun x hx=>by cases hx⟩
def RT.wb (k:Int):RT→Prop
 | .idle x=>Wb k x.word
 | .one a=>Wb (k+1) a.new
 | .fin a=>Wb (k+1) a.new
 | .jq _ w=>Wb k w
 | .iE _ a=>Wb (k+1) a.new
 | .lS old=>Wb k old
 | .lT old _=>Wb k old
 | .mE c=>Wb k c
 | .gY c _=>Wb k c
 | .qA c=>Wb k c
 | _=>True
structure Lo.wb (k:Int) (l:Lo):Prop where
 h:∀i,Wb k (l.h i)
 lo:-(2000 * k+3000)≤l.s.low∧l.s.low≤2000 * k+3000
 hi:-(2000 * k+3000)≤l.s.high∧l.s.high≤2000 * k+3000
structure uy (k:Int) (q:LR):Prop where
 l:q.1.wb k
 t:q.2.wb k
section
variable {k:Int} {l:Lo}
theorem Lo.wb.mono {k':Int} (h:l.wb k) (hk:k≤k'):l.wb k':=⟨fun i=>(h.h i).mono hk,by have:=h.lo;omega,by have:=h.hi;omega⟩
theorem Lo.wb.hold (h:l.wb k) {w:Wd} (hw:Wb k w) (n:Int):(l.hold n w).wb k:=by
 refine ⟨fun i=>?_,h.lo,h.hi⟩
 show Wb k (if i=n.toNat then w else l.h i)
 split
 ·exact hw
 ·exact h.h i
theorem fK {c:Prop} [Decidable c] {a b:LR} (h1:c→uy k a) (h2:¬c→uy k b):uy k (if c then a else b):=by
 split
 ·exact h1 (by assumption)
 ·exact h2 (by assumption)
theorem Mr (h0:0≤k) {s:Sp} (h1:-(2000 * k+3000)≤s.low∧s.low≤2000 * k+3000) (h2:-(2000 * k+3000)≤s.high∧s.high≤2000 * k+3000):Wb k (RS.qM s):=by
 unfold RS.qM
 split
 ·refine ⟨?_,?_,h2,h1⟩
  ·show (-2000:Int)≤0∧(0:Int)≤2000
   exact ⟨by decide,by decide⟩
  ·show -k≤0∧0≤k
   omega
 ·exact Wb.zero h0
theorem KD (h0:0≤k) (h:l.wb k) (n:Int):uy k (RT.leave l n):=by
 have hz:∀{k:Int},0≤k→Wb k Wd.zero:=Wb.zero
 unfold RT.leave
 refine fK (fun _=>⟨⟨h.h,by show -(2000 * k+3000)≤0∧0≤2000 * k+3000;omega,by show -(2000 * k+3000)≤0∧0≤2000 * k+3000;omega⟩,?_⟩) fun _=>fK (fun _=>?_) fun _=>⟨h,hz h0⟩
 ·exact hz (by omega)
 ·split
  ·exact ⟨h.hold (hz h0) _,trivial⟩
  ·exact ⟨h,hz h0⟩
theorem Ms (h0:0≤k) (h:l.wb k):uy k (RT.scan l):=by
 unfold RT.scan
 exact fK (fun _=>⟨h,Wb.zero h0⟩) fun _=>fK (fun _=>⟨h,trivial⟩) fun _=>⟨h,Wb.zero h0⟩
theorem Cu (h0:0≤k) (h:l.wb k):uy k (RT.dC l):=by
 unfold RT.dC
 exact fK (fun _=>Ms h0 h) fun _=>⟨h,Wb.zero h0⟩
theorem Ri (h0:0≤k) (h:l.wb k) {w:Wd} (hw:Wb k w):uy k (RT.fH l w):=by
 unfold RT.fH
 exact fK (fun _=>Cu h0 ⟨h.h,h.lo,h.hi⟩) fun _=>fK (fun _=>⟨h,hw⟩) fun _=>fK (fun _=>⟨h,hw⟩) fun _=>⟨h,Wb.zero h0⟩
theorem Ua (h0:0≤k) (h:l.wb k) {c:Ca} (hn:Wb (k+1) c.new) (ho:Wb k c.old):uy k (RT.begin l c):=by
 have hz:∀{k:Int},0≤k→Wb k Wd.zero:=Wb.zero
 unfold RT.begin
 refine fK (fun _=>fK (fun _=>⟨h,trivial⟩) fun _=>⟨h,hz h0⟩) fun _=>fK (fun _=>KD h0 h 0) fun _=>fK (fun _=>⟨h,?_⟩) fun _=>fK (fun _=>⟨h,hn⟩) fun _=>fK (fun _=>⟨h,hn⟩) fun _=>fK (fun _=>⟨h,trivial⟩) fun _ =>
  fK (fun _=>fK (fun _=>⟨h.hold (h.h _) _,(h.h _).mono (by omega)⟩) fun _=>⟨h,hz h0⟩) fun _=>fK (fun _=>fK (fun _=>⟨h,trivial⟩) fun _=>⟨h,?_⟩) fun _=>fK (fun _=>⟨h,?_⟩) fun _=>fK (fun _=>Ri h0 h ho) fun _=>Ms h0 h
 ·exact hz (by omega)
 ·exact hz (by omega)
 ·exact hz (by omega)
theorem FB (h0:0≤k) (h:l.wb k) (r:List Nt):uy k (RT.ed l r):=by
 cases r
 ·exact ⟨h,Wb.zero h0⟩
 ·exact ⟨h,trivial⟩
theorem WY (h0:0≤k) (h:l.wb k) {t:RT} (ht:t.wb k) {x:Rp} (hx:Wb (k+1) x.word):uy (k+1) (RT.bL l t x):=by
 have h':l.wb (k+1):=h.mono (by omega)
 have hz:∀{k:Int},0≤k→Wb k Wd.zero:=Wb.zero
 have hz1:Wb (k+1) Wd.zero:=hz (by omega)
 have xn:-(2000 * (k+1)+3000)≤x.word.num∧x.word.num≤2000 * (k+1)+3000:=hx.n
 have hs:Wb (k+1) (Wd.dK x.word.num):=Wb.num (by omega) xn
 cases t with
 | idle y=>exact ⟨h',Wb.mono ht (by omega)⟩
 | one a=>exact ⟨h',hx⟩
 | fin a=>exact ⟨h',hz1⟩
 | qy=>exact ⟨⟨h'.h,xn,xn⟩,(Mr (k:=k+1) (s:=⟨true,x.word.num,x.word.num⟩) (by omega) xn xn).mono (by omega)⟩
 | ji i=>exact KD (by omega) h' _
 | gK c =>
  exact fK (fun _=>⟨h',hx⟩) fun _=>fK (fun _=>⟨h'.hold (hx.ref (by omega)) _,(hx.ref (by omega):Wb (k+1) _).mono (by omega)⟩) fun _=>⟨h',hx⟩
 | jq c w =>
  refine fK (fun _=>⟨h',Wb.mono ht (by omega)⟩) fun _=>fK (fun _=>⟨h'.hold hs _,hs.mono (by omega)⟩) fun _=>?_
  have hl:-(2000 * (k+1)+3000)≤(if l.s.is=true then l.s.low else x.word.num)∧(if l.s.is=true then l.s.low else x.word.num)≤2000 * (k+1)+3000:=by
   split
   ·exact h'.lo
   ·exact xn
  exact ⟨⟨h'.h,hl,xn⟩,(Mr (k:=k+1) (s:=⟨true,if l.s.is=true then l.s.low else x.word.num,x.word.num⟩) (by omega) hl xn).mono (by omega)⟩
 | iE c a=>exact ⟨h',trivial⟩
 | wT=>exact ⟨h',hs.mono (by omega)⟩
 | lS old=>exact ⟨h',Wb.mono ht (by omega)⟩
 | lT old b=>exact fK (fun _=>⟨⟨h'.h,h'.lo,h'.hi⟩,hx⟩) fun _=>Cu (by omega) ⟨h'.h,h'.lo,h'.hi⟩
 | mE c=>exact Cu (by omega) h'
 | qz=>exact ⟨h',hx⟩
 | gY c seen =>
  exact fK (fun _=>⟨h',Wb.mono ht (by omega)⟩) fun _=>fK (fun _=>FB (by omega) h' _) fun _=>fK (fun _=>⟨h',Wb.mono ht (by omega)⟩) fun _=>⟨h',trivial⟩
 | qA c=>exact ⟨h',trivial⟩
 | iQ=>exact FB (by omega) h' _
 | jT d r=>exact FB (l:={l with notes:=l.notes.erase d,freed:=l.freed+1}) (by omega) ⟨h'.h,h'.lo,h'.hi⟩ r
theorem YR (h0:0≤k) {t:RT} (ht:t.wb k) (h:l.wb k):Wb (k+1) (t.acc l).new:=by
 have hz:Wb (k+1) Wd.zero:=Wb.zero (by omega)
 have eu:∀{c:Wd},Wb k c→Wb (k+1) ⟨0,0,c.tag+1,c.num+1,false⟩:=fun {c} hc=>by
  obtain ⟨a,b,d,e⟩:=hc
  refine ⟨⟨by show (-2000:Int)≤0;decide,by show (0:Int)≤2000;decide⟩,?_,?_,?_⟩
  ·show -(k+1)≤0∧0≤k+1
   omega
  ·show -(2000 * (k+1)+3000)≤c.tag+1∧c.tag+1≤2000 * (k+1)+3000
   omega
  ·show -(2000 * (k+1)+3000)≤c.num+1∧c.num+1≤2000 * (k+1)+3000
   omega
 cases t with
 | one a=>exact ht
 | fin a=>exact ht
 | iE c a=>exact ht
 | mE c=>exact eu ht
 | qA c=>exact eu ht
 | _=>exact hz
end
theorem gN {q:Prop} [Decidable q] {l:Lo} {a b:LR} (h1:a.1.freed=l.freed) (h2:b.1.freed=l.freed):(if q then a else b).1.freed=l.freed:=by
 by_cases h:q
 ·rw [if_pos h];exact h1
 ·rw [if_neg h];exact h2
theorem AQ (l:Lo) (k:Int):(RT.leave l k).1.freed=l.freed:=by
 refine gN rfl (gN ?_ rfl)
 cases RS.first l.h k.toNat (9-k.toNat) <;> rfl
theorem Et (l:Lo):(RT.scan l).1.freed=l.freed:=gN rfl (gN rfl rfl)
theorem uz (l:Lo):(RT.dC l).1.freed=l.freed:=gN (Et l) rfl
theorem La (l:Lo) (c:Ca):(RT.begin l c).1.freed=l.freed :=
 gN (gN rfl rfl)<|gN (AQ l 0)<|gN rfl<|gN rfl<|gN rfl<|gN rfl<|gN (gN rfl rfl)<|gN (gN rfl rfl)<|gN rfl<|gN (gN (uz _)<|gN rfl<|gN rfl rfl) (Et l)
theorem xx (l:Lo) (r:List Nt):(RT.ed l r).1.freed=l.freed:=by cases r <;> rfl
theorem OG (l:Lo) (t:RT) (x:Rp):l.freed≤(RT.bL l t x).1.freed∧(RT.bL l t x).1.freed≤l.freed+1:=by
 have e:∀{a:LR},a.1.freed=l.freed→l.freed≤a.1.freed∧a.1.freed≤l.freed+1:=fun h=>by omega
 cases t with
 | ji i=>exact e (AQ l _)
 | gK c=>exact e (gN rfl (gN rfl rfl))
 | jq c w=>exact e (gN rfl (gN rfl rfl))
 | lT old b=>exact e (gN rfl (uz _))
 | mE _=>exact e (uz l)
 | gY ck seen=>exact e (gN rfl (gN (xx _ _) (gN rfl rfl)))
 | iQ=>exact e (xx _ _)
 | jT d r =>
  have:=xx {l with notes:=l.notes.erase d,freed:=l.freed+1} r
  show l.freed≤(RT.ed _ _).1.freed∧(RT.ed _ _).1.freed≤l.freed+1
  rw [this]
  show l.freed≤l.freed+1∧l.freed+1≤l.freed+1
  omega
 | _=>exact e rfl
theorem gP {q:Prop} [Decidable q] {n:Nat} {a b:LR} (h1:a.1.notes.length≤n) (h2:b.1.notes.length≤n):(if q then a else b).1.notes.length≤n:=by
 by_cases h:q
 ·rw [if_pos h];exact h1
 ·rw [if_neg h];exact h2
theorem KE {n:Nat} (l:Lo) (k:Int) (h:l.notes.length≤n):(RT.leave l k).1.notes.length≤n:=by
 refine gP h (gP ?_ h)
 cases RS.first l.h k.toNat (9-k.toNat) <;> exact h
theorem Mt {n:Nat} (l:Lo) (h:l.notes.length≤n):(RT.scan l).1.notes.length≤n:=gP h (gP h h)
theorem Cv {n:Nat} (l:Lo) (h:l.notes.length≤n):(RT.dC l).1.notes.length≤n:=gP (Mt l h) h
theorem FC {n:Nat} (l:Lo) (w:Wd) (b d:Int) (h:l.notes.length≤n):(RT.note l w b d).notes.length≤n+1:=by
 show (l.notes ++ [_]).length≤n+1
 rw [List.length_append]
 exact Nat.succ_le_succ h
theorem Ub {n:Nat} (l:Lo) (c:Ca) (h:l.notes.length≤n):(RT.begin l c).1.notes.length≤n+1:=by
 have h':l.notes.length≤n+1:=Nat.le_succ_of_le h
 exact gP (gP h' h')<|gP (KE l 0 h')<|gP h'<|gP h'<|gP h'<|gP h'<|gP (gP h' h')<|gP (gP h' h')<|gP h'<|gP (gP (Cv _ (FC _ _ _ _ h))<|gP h'<|gP h' h') (Mt l h')
theorem FD {n:Nat} (l:Lo) (r:List Nt) (h:l.notes.length≤n):(RT.ed l r).1.notes.length≤n:=by cases r <;> exact h
theorem WZ {n:Nat} (l:Lo) (t:RT) (x:Rp) (h:l.notes.length≤n):(RT.bL l t x).1.notes.length≤n+1:=by
 have h':l.notes.length≤n+1:=Nat.le_succ_of_le h
 cases t with
 | ji i=>exact KE l _ h'
 | gK c=>exact gP h' (gP h' h')
 | jq c w=>exact gP h' (gP h' h')
 | lT old b=>exact gP (FC _ _ _ _ h) (Cv _ (FC _ _ _ _ h))
 | mE _=>exact Cv l h'
 | gY ck seen=>exact gP h' (gP (FD _ _ h') (gP h' h'))
 | iQ=>exact FD _ _ h'
 | jT d r=>exact FD (n:=n+1) {l with notes:=l.notes.erase d,freed:=l.freed+1} r (Nat.le_trans (List.length_erase_le ..) h')
 | _=>exact h'
def RT.ko (l:Lo):RT→Prop
 | .ji i=>0≤i∧i≤8
 | .gK c=>0≤c.i∧c.i<9
 | .jq c _=>l.bJ∧0≤c.i∧c.i<9
 | .iE c _=>0≤c.i∧c.i<9
 | .qz | .qA _ | .iQ=>l.av=4
 | .gY _ seen=>l.av≠1∧seen.length≤60
 | .jT d r=>(d :: r).Sublist l.notes
 | _=>True
theorem RT.ko.fits {l:Lo} {t:RT} (h:t.ko l):t.fits l:=by
 cases t <;> first | trivial | exact h | exact h.1
theorem fM {c:Prop} [Decidable c] {a b:LR} (h1:c→a.2.ko a.1) (h2:¬c→b.2.ko b.1):(if c then a else b).2.ko (if c then a else b).1:=by
 by_cases h:c
 ·rw [if_pos h];exact h1 h
 ·rw [if_neg h];exact h2 h
theorem Eu (l:Lo) (k:Int) (h:0≤k∧k≤9):(RT.leave l k).2.ko (RT.leave l k).1:=by
 refine fM (fun _=>trivial) fun _=>fM (fun _=>?_) fun _=>trivial
 cases hf:RS.first l.h k.toNat (9-k.toNat) with
 | none=>trivial
 | some n =>
  have:=uw l.h _ _ _ hf
  show (0:Int)≤n∧(n:Int)≤8
  omega
theorem GV (l:Lo):(RT.scan l).2.ko (RT.scan l).1 :=
 fM (fun _=>trivial) fun h1=>fM (fun h=>h) fun _=>⟨h1,Nat.zero_le _⟩
theorem xy (l:Lo):(RT.dC l).2.ko (RT.dC l).1:=fM (fun _=>GV l) fun _=>trivial
theorem OH {l:Lo} {c:Ca} (hc:c.OK):(RT.begin l c).2.ko (RT.begin l c).1 :=
 fM (fun _=>fM (fun _=>trivial) fun _=>trivial) fun _=>fM (fun _=>Eu l 0 (by decide)) fun _=>fM (fun _=>trivial) fun _=>fM (fun _=>trivial) fun _=>fM (fun _=>trivial) fun _=>fM (fun _=>⟨hc.2.2.1,hc.2.2.2.1⟩) fun _=>fM (fun _=>fM (fun _=>trivial) fun _=>trivial) fun _ =>
  fM (fun _=>fM (fun _=>trivial) fun _=>trivial) fun _=>fM (fun _=>trivial) fun _=>fM (fun _=>fM (fun _=>xy _) fun _=>fM (fun _=>trivial) fun _=>fM (fun _=>trivial) fun _=>trivial) fun _=>GV l
theorem zC (l:Lo) (r:List Nt) (h:r.Sublist l.notes):(RT.ed l r).2.ko (RT.ed l r).1:=by
 cases r with
 | nil=>trivial
 | cons d r=>exact h
theorem Rj {l:Lo} {t:RT} (ho:l.OK) (h:t.ko l) (x:Rp):(RT.bL l t x).2.ko (RT.bL l t x).1:=by
 cases t with
 | ji i=>exact Eu l _ (by have h:0≤i∧i≤8:=h;omega)
 | gK c=>exact fM (fun hd=>⟨hd,h⟩) fun _=>fM (fun _=>h) fun _=>trivial
 | jq c w=>exact fM (fun _=>trivial) fun _=>fM (fun _=>h.2) fun _=>h.2
 | iE c a=>exact h
 | lT old b=>exact fM (fun _=>trivial) fun _=>xy _
 | mE c=>exact xy _
 | qz =>
  have h4:l.av=4:=h
  exact ⟨fun e=>by
    have e:l.av=1:=e
    omega,Nat.zero_le _⟩
 | gY ck seen =>
  refine fM (fun hl=>⟨h.1,?_⟩) fun _=>fM (fun _=>zC _ _ List.filter_sublist) fun h4=>?_
  ·have ht:=ho.threads
   have:l.all≤54:=by
    unfold Lo.all
    split <;> omega
   rw [List.length_append,List.length_singleton]
   omega
  ·have h4':l.av=4:=by omega
   exact fM (fun _=>h4') fun _=>h4'
 | qA c=>exact h
 | iQ=>exact zC _ _ List.filter_sublist
 | jT d r =>
  refine zC {l with notes:=l.notes.erase d,freed:=l.freed+1} r ?_
  have:=List.Sublist.erase d (show (d :: r).Sublist l.notes from h)
  rwa [List.erase_cons_head] at this
 | _=>trivial
theorem RT.W9 (l:Lo) (t:RT) (x:Rp):Sm l (RT.bL l t x).1:=by
 cases t with
 | ji i=>exact RT.Kh l _
 | gK c=>exact fJ (Sm.refl l) (fJ ⟨rfl,rfl,rfl,rfl⟩ (Sm.refl l))
 | jq c w=>exact fJ (Sm.refl l) (fJ ⟨rfl,rfl,rfl,rfl⟩ ⟨rfl,rfl,rfl,rfl⟩)
 | lT old b=>exact fJ ⟨rfl,rfl,rfl,rfl⟩ (RT.Mj ..)
 | mE c=>exact RT.Ki l
 | gY ck seen=>exact fJ (Sm.refl l) (fJ (RT.Fx l _) (fJ (Sm.refl l) (Sm.refl l)))
 | iQ=>exact RT.Fx l _
 | jT d r =>
  have h:=RT.Fx {l with notes:=l.notes.erase d,freed:=l.freed+1} r
  exact ⟨h.av,h.me,h.threads,h.most⟩
 | qy=>exact ⟨rfl,rfl,rfl,rfl⟩
 | _=>exact Sm.refl l
structure vC (k:Int) (l:Lo) (t:RT) (p:PS):Prop where
 ok:l.OK
 ko:t.ko l
 KF:p.OK
 lw:l.wb k
 tw:t.wb k
 pw:p.wb k
 fr:0≤l.freed∧l.freed≤k
 nl:(l.notes.length:Int)≤k
 st:p.steps≤k
 k0:0≤k
theorem RT.wb.mono {k k':Int} {t:RT} (h:t.wb k) (hk:k≤k'):t.wb k':=by
 revert h
 cases t <;> intro h <;> first | exact trivial | exact Wb.mono h (by omega)
theorem vC.mono {k k':Int} {l:Lo} {t:RT} {p:PS} (h:vC k l t p) (hk:k≤k'):vC k' l t p :=
 ⟨h.ok,h.ko,h.KF,h.lw.mono hk,h.tw.mono hk,h.pw.mono hk,by have:=h.fr;omega,by have:=h.nl;omega,by have:=h.st;omega,by have:=h.k0;omega⟩
theorem Rk {p p':PS} {a:Ac} {x:Rp} (h:p.act a=(p',some x)):p'.steps=p.steps+1:=by
 unfold PS.act at h
 split at h
 ·split at h
  ·simp only [Prod.mk.injEq] at h
   rw [←h.1]
   unfold PS.makes
   split
   ·unfold PS.alloc
    split <;> rfl
   split
   ·rfl
   split
   ·rfl
   split
   ·unfold PS.put;split <;> rfl
   split
   ·unfold PS.put;split <;> rfl
   ·rfl
  ·simp only [Prod.mk.injEq] at h
   rw [←h.1]
 ·simp at h
theorem vC.bL {k:Int} {l:Lo} {t:RT} {p p':PS} {x:Rp} (h:vC k l t p) (hx:p.act (t.acc l)=(p',some x)):vC (k+1) (RT.bL l t x).1 (RT.bL l t x).2 p'∧Wb (k+1) x.word:=by
 have ha:=h.pw.act h.k0 h.KF h.st (YR h.k0 h.tw h.lw)
 have hok:=h.KF.act (t.acc l)
 rw [hx] at ha hok
 have hw:=WY h.k0 h.lw h.tw (ha.2 x rfl)
 have hs:=Rk hx
 have hf:=OG l t x
 have hn:((RT.bL l t x).1.notes.length:Int)≤k+1:=by
  have:=WZ (n:=l.notes.length) l t x (Nat.le_refl _)
  have:=h.nl
  omega
 exact ⟨⟨(RT.W9 l t x).ok h.ok,Rj h.ok h.ko x,hok,hw.l,hw.t,ha.1,by have:=h.fr;omega,hn,by have:=h.st;omega,by have:=h.k0;omega⟩,ha.2 x rfl⟩
theorem vC.begin {k:Int} {l:Lo} {y:Rp} {p:PS} {c:Ca} (h:vC k l (.idle y) p) (hc:c.OK) (hn:Wb (k+1) c.new) (ho:Wb k c.old):vC (k+1) (RT.begin l c).1 (RT.begin l c).2 p:=by
 have hw:=Ua h.k0 h.lw hn ho
 have hf:=La l c
 have hnl:((RT.begin l c).1.notes.length:Int)≤k+1:=by
  have:=Ub (n:=l.notes.length) l c (Nat.le_refl _)
  have:=h.nl
  omega
 exact ⟨RT.TL h.ok,OH hc,h.KF,hw.l.mono (by omega),hw.t.mono (by omega),h.pw.mono (by omega),by have:=h.fr;omega,hnl,by have:=h.st;omega,by have:=h.k0;omega⟩
end Go.Proofs.YthomdlajobnmnaaGreatDoor
namespace Go.Proofs.YthomdlajobnmnaaGreatDoor
open Go.RowKit Go.Rex
theorem tmP (x n:Int) (h:0<n) (hx:0≤x):0≤x.tmod n∧x.tmod n<n:=by
 rw [Int.tmod_eq_emod_of_nonneg hx]
 exact ⟨Int.emod_nonneg _ (by omega),Int.emod_lt_of_pos _ h⟩
theorem wrP (x:Int):0≤IntKind.u64.wrap x:=by
 simp only [IntKind.wrap,IntKind.bits,IntKind.signed]
 exact Int.emod_nonneg _ (by decide)
theorem w64 {n:Int} (h0:0≤n) (h1:n<9223372036854775808):wrap64 n=n:=by unfold wrap64;omega
theorem VB (a k:Int) (h0:0<k) (h1:k≤1000):∃n:Nat,wrap64 (1+wrap64 ((IntKind.u64.wrap a).tmod k))=(n:Int)∧1≤n∧(n:Int)≤k:=by
 have h:=tmP (IntKind.u64.wrap a) k h0 (wrP a)
 have e1:wrap64 ((IntKind.u64.wrap a).tmod k)=(IntKind.u64.wrap a).tmod k:=w64 (by omega) (by omega)
 rw [e1,w64 (by omega) (by omega)]
 exact ⟨(1+(IntKind.u64.wrap a).tmod k).toNat,by omega,by omega,by omega⟩
structure aaX (n:Nat) (p:PS) (W:Nat→Wk):Prop where
 bare:Yu p
 pe:∀i,i<n→∃l t,Pe (W i) l t
structure SE (n k m:Nat) (p:PS) (W:Nat→Wk):Prop where
 all:aaX n p W
 few:m≤300
 now:k<n→∃l t,Pe (W k) l t∧wM (W k) l t≤m
 past:∀i,i<k→(W i).idle
 st:p.steps+(m:Int)≤501+300 * ((k:Int)+1)
theorem SE.said {n m:Nat} {p:PS} {W:Nat→Wk} (h:SE n n m p W) {i:Nat} (hi:i<n):(W i).said=[(2,0),(2,0),(2,0)]:=by
 obtain ⟨l,t,H⟩:=h.all.pe i hi
 exact H.end (h.past i hi)
theorem Xa {p0 p:PS} {m:Int} (h:qU p0 85 m) (hm:0≤m∧m≤1024) (ha:p0.act qV=(p,some ⟨Wd.zero,true⟩)):Yu p∧p.steps≤1:=by
 obtain ⟨p',hp,he⟩:=zA h
 rw [ha] at hp
 simp only [Prod.mk.injEq] at hp
 have hpe:p={p0 with steps:=p0.steps+1,bd:=fun b=>if b=24 then ⟨0,0,0,1,false⟩ else p0.bd b}:=hp.1.trans he
 have hok:p.OK:=by
  have:=(h.ok hm ⟨by decide,by decide⟩).act qV
  rw [ha] at this
  exact this
 refine ⟨⟨hok,by rw [hpe];exact h.nb,by rw [hpe];exact h.dF,by rw [hpe];exact h.made,?_,?_⟩,?_⟩
 ·rw [hpe]
  show (if (0:Nat)=24 then (⟨0,0,0,1,false⟩:Wd) else p0.bd 0)=Wd.zero
  rw [if_neg (by decide)]
  exact h.bd 0
 ·rw [hpe]
  rfl
 ·rw [hpe]
  show p0.steps+1≤1
  rw [h.steps]
  decide
def lX (o:Op):List Value:=[.int .i64 o.kind,.int .i64 o.key,.int .i64 o.val,.int .i64 o.Fz]
theorem Ev:∀(l:List Op) (i:Nat) (o:Op) (k:Nat),l[i]?=some o→k<4→(l.flatMap lX)[4 * i+k]?=(lX o)[k]?
 | [],i,o,k,h,hk=>by simp at h
 | a :: l,0,o,k,h,hk=>by
  obtain rfl:a=o:=by simpa using h
  rw [List.flatMap_cons,List.getElem?_append_left (by simpa [lX] using hk)]
  simp
 | a :: l,i+1,o,k,h,hk=>by
  have h':l[i]?=some o:=by simpa using h
  rw [List.flatMap_cons,List.getElem?_append_right (by simp [lX];omega)]
  have e:4 * (i+1)+k-(lX a).length=4 * i+k:=by simp [lX];omega
  rw [e]
  exact Ev l i o k h' hk
theorem Mv {w:World} {base g n:Nat} {v:Value} {l:List Op} (h:w.ownsRow base 28 4 v n (l.flatMap lX)) (hg:v.ownBlock=some g):mX w g l:=by
 have hc:∀j x,(l.flatMap lX)[j]?=some x→w.cell? ⟨g,j,none⟩=some x:=fun j x hx=>by
  have:=h.cells hg j x hx
  rw [←this]
  congr 1
  unfold Addr.add
  split
  ·rename_i h;subst h;rfl
  ·simp
 refine ⟨fun i o hi=>⟨?_,?_,?_,?_⟩⟩
 ·exact hc _ _ (Ev l i o 0 hi (by decide))
 ·exact hc _ _ (Ev l i o 1 hi (by decide))
 ·exact hc _ _ (Ev l i o 2 hi (by decide))
 ·exact hc _ _ (Ev l i o 3 hi (by decide))
end Go.Proofs.YthomdlajobnmnaaGreatDoor
namespace Go.Proofs.YthomdlajobnmnaaGreatDoor
open Go.Rex
def CR (Post:Lo→Rp→PS→Prop):Nat→Lo→RT→PS→Prop
 | 0,l,t,p=>∃x,t=.idle x∧Post l x p
 | d+1,l,t,p=>(∃x,t=.idle x∧Post l x p)∨(t.iF≠0∧∃p' x,p.act (t.acc l)=(p',some x)∧CR Post d (RT.bL l t x).1 (RT.bL l t x).2 p')
section
variable {Post Post':Lo→Rp→PS→Prop} {d:Nat} {l:Lo} {t:RT} {p p':PS} {x:Rp}
theorem CR.idle (h:Post l x p):CR Post d l (.idle x) p:=by
 cases d with
 | zero=>exact ⟨x,rfl,h⟩
 | succ d=>exact .inl ⟨x,rfl,h⟩
theorem CR.acc (h0:t.iF≠0) (ha:p.act (t.acc l)=(p',some x)) (h:CR Post d (RT.bL l t x).1 (RT.bL l t x).2 p'):CR Post (d+1) l t p:=.inr ⟨h0,p',x,ha,h⟩
theorem CR.more:∀{d:Nat} {l:Lo} {t:RT} {p:PS},CR Post d l t p→∀{e:Nat},d≤e→CR Post e l t p
 | 0,l,t,p,h,e,_=>by
  obtain ⟨x,rfl,hp⟩:=h
  exact CR.idle hp
 | d+1,l,t,p,h,0,he=>absurd he (Nat.not_succ_le_zero _)
 | d+1,l,t,p,h,e+1,he=>by
  rcases h with ⟨x,rfl,hp⟩ | ⟨h0,p',x,ha,h⟩
  ·exact CR.idle hp
  ·exact CR.acc h0 ha (CR.more h (Nat.le_of_succ_le_succ he))
theorem CR.imp (hi:∀l x p,Post l x p→Post' l x p):∀{d:Nat} {l:Lo} {t:RT} {p:PS},CR Post d l t p→CR Post' d l t p
 | 0,l,t,p,h=>by
  obtain ⟨x,rfl,hp⟩:=h
  exact ⟨x,rfl,hi _ _ _ hp⟩
 | d+1,l,t,p,h=>by
  rcases h with ⟨x,rfl,hp⟩ | ⟨h0,p',x,ha,h⟩
  ·exact .inl ⟨x,rfl,hi _ _ _ hp⟩
  ·exact .inr ⟨h0,p',x,ha,CR.imp hi h⟩
theorem CR.ite {c:Prop} [Decidable c] {a b:LR} (h1:c→CR Post d a.1 a.2 p) (h2:¬c→CR Post d b.1 b.2 p):CR Post d (if c then a else b).1 (if c then a else b).2 p:=by
 by_cases h:c
 ·rw [if_pos h];exact h1 h
 ·rw [if_neg h];exact h2 h
end
structure Ap (p p':PS):Prop where
 nb:p'.nb=p.nb
 ns:p'.ns=p.ns
 nf:p'.nf=p.nf
 made:p'.made=p.made
 dF:p'.dF=p.dF
 gen:p'.gen=p.gen
 used:p'.used=p.used
 cell:p'.cell=p.cell
 fr:p'.fr=p.fr
 bd:∀i,i<24→p'.bd i=p.bd i
 kQ:1≤(p.bd 24).num→1≤(p'.bd 24).num
theorem Ap.refl (p:PS):Ap p p:=⟨rfl,rfl,rfl,rfl,rfl,rfl,rfl,rfl,rfl,fun _ _=>rfl,id⟩
theorem Ap.trans {a b c:PS} (h:Ap a b) (g:Ap b c):Ap a c :=
 ⟨g.nb.trans h.nb,g.ns.trans h.ns,g.nf.trans h.nf,g.made.trans h.made,g.dF.trans h.dF,g.gen.trans h.gen,g.used.trans h.used,g.cell.trans h.cell,g.fr.trans h.fr,fun i hi=>(g.bd i hi).trans (h.bd i hi),fun k=>g.kQ (h.kQ k)⟩
theorem Ap.steps (p:PS) (k:Int):Ap p {p with steps:=k}:=⟨rfl,rfl,rfl,rfl,rfl,rfl,rfl,rfl,rfl,fun _ _=>rfl,id⟩
section
variable {p:PS} {l:Lo}
theorem OJ (hn:p.nb=85) {f:Int} (h:0≤f∧f<85):p.has 0 0 f:=by
 unfold PS.has
 rw [if_pos rfl,hn]
 exact ⟨rfl,h⟩
theorem vD (hn:p.nb=85) {f:Int} (hf:25≤f∧f<85) (w:Wd):∃p',p.act (Ac.store 0 0 f w)=(p',some ⟨Wd.zero,true⟩)∧Ap p p'∧p'.bd 24=p.bd 24:=by
 refine ⟨_,zt (OJ hn (by omega)) (.inl rfl),?_⟩
 unfold PS.put
 rw [if_pos rfl]
 have hb:∀i:Nat,i≤24→(if i=f.toNat then w else p.bd i)=p.bd i:=fun i hi=>if_neg (by omega)
 refine ⟨⟨rfl,rfl,rfl,rfl,rfl,rfl,rfl,rfl,rfl,fun i hi=>hb i (by omega),fun h=>?_⟩,hb 24 (by omega)⟩
 show 1≤(if 24=f.toNat then w else p.bd 24).num
 rw [hb 24 (by omega)]
 exact h
theorem pE (hn:p.nb=85) {f:Int} (hf:0≤f∧f<85):p.act (Ac.load 0 0 f)=({p with steps:=p.steps+1},some ⟨p.bd f.toNat,true⟩) :=
 Cn (OJ hn hf) (.inl rfl)
theorem oJ (hn:p.nb=85):p.act Ac.era=({p with steps:=p.steps+1},some ⟨p.bd 24,true⟩):=pE hn (by decide)
theorem Rl (hn:p.nb=85) {c:Wd} (hc:0≤c.num):∃p' x,p.act (Ac.eu c)=(p',some x)∧Ap p p':=by
 have h:=Kj (p:=p) (s:=0) (g:=0) (f:=24) (o:=c) (w:=⟨0,0,c.tag+1,c.num+1,false⟩) (OJ hn (by decide)) (.inl rfl)
 unfold Ac.eu
 rw [h]
 by_cases hs:iD (p.at 0 24) c
 ·rw [if_pos hs]
  refine ⟨_,_,rfl,?_⟩
  unfold PS.put
  rw [if_pos rfl]
  refine ⟨rfl,rfl,rfl,rfl,rfl,rfl,rfl,rfl,rfl,fun i hi=>if_neg (by show ¬i=24;omega),fun _=>?_⟩
  show 1≤(if 24=(24:Int).toNat then (⟨0,0,c.tag+1,c.num+1,false⟩:Wd) else p.bd 24).num
  rw [if_pos (show 24=(24:Int).toNat from rfl)]
  show 1≤c.num+1
  omega
 ·rw [if_neg hs]
  exact ⟨_,_,rfl,Ap.steps p _⟩
structure Lk (l l':Lo):Prop where
 sm:Sm l l'
 notes:l'.notes=l.notes
theorem Lk.refl (l:Lo):Lk l l:=⟨Sm.refl l,rfl⟩
theorem Sm.trans {a b c:Lo} (h:Sm a b) (g:Sm b c):Sm a c:=⟨g.av.trans h.av,g.me.trans h.me,g.threads.trans h.threads,g.most.trans h.most⟩
theorem Lk.trans {a b c:Lo} (h:Lk a b) (g:Lk b c):Lk a c:=⟨h.sm.trans g.sm,g.notes.trans h.notes⟩
def PQ (l:Lo) (p:PS) (l':Lo) (x:Rp) (p':PS):Prop:=Ap p p'∧Lk l l'
theorem Cw (ho:l.OK) (hn:p.nb=85):CR (PQ l p) 2 (RT.begin l (Ca.of 1)).1 (RT.begin l (Ca.of 1)).2 p:=by
 have e:RT.begin l (Ca.of 1)=if l.bW then (l,.qy) else (l,.idle Rp.yes):=rfl
 rw [e]
 refine CR.ite (fun _=>?_) fun _=>CR.idle ⟨Ap.refl p,Lk.refl l⟩
 refine CR.acc (t:=.qy) (show (3:Int)≠0 by decide) (oJ hn) ?_
 have hm:=ho.me
 have ht:=ho.threads
 obtain ⟨p',h1,h2,-⟩:=vD (p:={p with steps:=p.steps+1}) hn (f:=79+l.me) (by omega) (RS.qM ⟨true,(p.bd 24).num,(p.bd 24).num⟩)
 refine CR.acc (t:=.fin _) (show (2:Int)≠0 by decide) h1 (CR.idle ⟨(Ap.steps p _).trans h2,⟨⟨rfl,rfl,rfl,rfl⟩,rfl⟩⟩)
theorem xz:∀(m:Nat) {l:Lo} {p:PS},l.OK→p.nb=85→∀n:Nat,n+m=9→CR (PQ l p) (m+1) (RT.leave l n).1 (RT.leave l n).2 p
 | m,l,p,ho,hn,n,hm=>by
  have h1:=ho.me
  have h2:=ho.threads
  unfold RT.leave
  refine CR.ite (fun _=>?_) fun _=>CR.ite (fun _=>?_) fun _=>CR.idle ⟨Ap.refl p,Lk.refl l⟩
  ·obtain ⟨p',g1,g2,-⟩:=vD hn (f:=79+l.me) (by omega) (RS.qM Sp.zero)
   refine CR.acc (t:=.fin _) (show (2:Int)≠0 by decide) g1 (CR.idle ⟨g2,⟨⟨rfl,rfl,rfl,rfl⟩,rfl⟩⟩)
  ·cases hf:RS.first l.h (n:Int).toNat (9-(n:Int).toNat) with
   | none=>exact CR.idle ⟨Ap.refl p,Lk.refl l⟩
   | some i =>
    have hr:=uw l.h _ _ _ hf
    obtain ⟨p',g1,g2,-⟩:=vD hn (f:=25+l.me * 9+i) (by omega) Wd.zero
    refine CR.acc (t:=.ji i) (show (4:Int)≠0 by decide) g1 ?_
    match m,hm with
    | 0,hm=>omega
    | m+1,hm =>
     have:=xz (8-i) (l:=l.hold i Wd.zero) (p:=p') ⟨ho.av,ho.me,ho.threads,ho.most⟩ (g2.nb.trans hn) (i+1) (by omega)
     refine ((CR.imp (fun l' x p'' hq=>?_) this).more (by omega):CR (PQ l p) (m+1) (RT.leave (l.hold i Wd.zero) ((i+1:Nat):Int)).1 (RT.leave (l.hold i Wd.zero) ((i+1:Nat):Int)).2 p')
     exact ⟨g2.trans hq.1,Lk.trans (b:=l.hold i Wd.zero) ⟨⟨rfl,rfl,rfl,rfl⟩,rfl⟩ hq.2⟩
theorem VC (l:Lo) (w:Wd):(l.hold 0 w).h (0:Int).toNat=w:=by
 show (if (0:Int).toNat=(0:Int).toNat then w else l.h (0:Int).toNat)=w
 exact if_pos rfl
theorem Mw (ho:l.OK) (hn:p.nb=85) (hc:1≤(p.bd 24).num):CR (fun l' x p'=>PQ l p l' x p'∧x=⟨p.bd 0,true⟩) 5 (RT.begin l (Ca.of 6)).1 (RT.begin l (Ca.of 6)).2 p:=by
 have e:RT.begin l (Ca.of 6)=(l,.gK (Ca.of 6)):=rfl
 rw [e]
 have h1:=ho.me
 have h2:=ho.threads
 have pl:∀{q:PS},q.nb=85→q.act (RT.acc l (.gK (Ca.of 6)))=({q with steps:=q.steps+1},some ⟨q.bd 0,true⟩):=fun hq=>pE hq (by decide)
 refine CR.acc (show (5:Int)≠0 by decide) (pl hn) ?_
 refine CR.ite (fun hd=>?_) fun hd=>CR.ite (fun h2'=>?_) fun _=>CR.idle ⟨⟨Ap.steps p _,Lk.refl l⟩,rfl⟩
 ·refine CR.acc (t:=.jq _ _) (show (6:Int)≠0 by decide) (oJ (p:={p with steps:=p.steps+1}) hn) ?_
  refine CR.ite (fun _=>CR.idle ⟨⟨(Ap.steps p _).trans (Ap.steps _ _),Lk.refl l⟩,rfl⟩) fun _=>CR.ite (fun h3=>?_) fun h3=>?_
  ·obtain ⟨p',g1,g2,g3⟩:=vD (p:={p with steps:=p.steps+1+1}) hn (f:=25+l.me * 9+0) (by omega) (Wd.dK (p.bd 24).num)
   refine CR.acc (t:=.iE _ _) (show (7:Int)≠0 by decide) g1 ?_
   have hn':p'.nb=85:=g2.nb.trans hn
   refine CR.acc (t:=.gK (Ca.of 6)) (show (5:Int)≠0 by decide) (pE hn' (f:=0) (by decide)) ?_
   have hd':(l.hold 0 (Wd.dK (p.bd 24).num)).bJ:=hd
   refine CR.ite (fun _=>?_) fun h=>absurd hd' h
   refine CR.acc (t:=.jq _ _) (show (6:Int)≠0 by decide) (oJ (p:={p' with steps:=p'.steps+1}) hn') ?_
   have Uc:RT.dE (l.hold 0 (Wd.dK (p.bd 24).num)) 0 (p'.bd 24).num:=by
    unfold RT.dE
    rw [if_pos (show (l.hold 0 (Wd.dK (p.bd 24).num)).av=3 from h3),g3]
    have hh:(l.hold 0 (Wd.dK (p.bd 24).num)).h (0:Int).toNat=Wd.dK (p.bd 24).num:=VC _ _
    rw [hh]
    refine ⟨fun e=>?_,rfl⟩
    have e:(Wd.dK (p.bd 24).num).num=(0:Int):=by rw [e];rfl
    have e:(p.bd 24).num=0:=e
    omega
   refine CR.ite (fun _=>CR.idle ⟨⟨?_,⟨⟨rfl,rfl,rfl,rfl⟩,rfl⟩⟩,?_⟩) fun h=>absurd Uc h
   ·exact (Ap.steps p _).trans (g2.trans ((Ap.steps p' _).trans (Ap.steps _ _)))
   ·exact congrArg (fun w=>(⟨w,true⟩:Rp)) (g2.bd 0 (by decide))
  ·obtain ⟨p',g1,g2,g3⟩:=vD (p:={p with steps:=p.steps+1+1}) hn (f:=79+l.me) (by omega) (RS.qM ⟨true,if l.s.is=true then l.s.low else (p.bd 24).num,(p.bd 24).num⟩)
   refine CR.acc (t:=.iE _ _) (show (7:Int)≠0 by decide) g1 ?_
   have hn':p'.nb=85:=g2.nb.trans hn
   refine CR.acc (t:=.gK (Ca.of 6)) (show (5:Int)≠0 by decide) (pE hn' (f:=0) (by decide)) ?_
   refine CR.ite (fun _=>?_) fun h=>absurd hd h
   refine CR.acc (t:=.jq _ _) (show (6:Int)≠0 by decide) (oJ (p:={p' with steps:=p'.steps+1}) hn') ?_
   have h3':¬l.av=3:=h3
   have Uc:RT.dE {l with s:=⟨true,if l.s.is=true then l.s.low else (p.bd 24).num,(p.bd 24).num⟩} 0 (p'.bd 24).num:=by
    unfold RT.dE
    rw [if_neg (show ¬l.av=3 from h3'),g3]
    exact ⟨rfl,rfl⟩
   refine CR.ite (fun _=>CR.idle ⟨⟨?_,⟨⟨rfl,rfl,rfl,rfl⟩,rfl⟩⟩,?_⟩) fun h=>absurd Uc h
   ·exact (Ap.steps p _).trans (g2.trans ((Ap.steps p' _).trans (Ap.steps _ _)))
   ·exact congrArg (fun w=>(⟨w,true⟩:Rp)) (g2.bd 0 (by decide))
 ·obtain ⟨p',g1,g2,g3⟩:=vD (p:={p with steps:=p.steps+1}) hn (f:=25+l.me * 9+0) (by omega) (p.bd 0).dS
  refine CR.acc (t:=.iE _ _) (show (7:Int)≠0 by decide) g1 ?_
  have hn':p'.nb=85:=g2.nb.trans hn
  refine CR.acc (t:=.gK (Ca.of 6)) (show (5:Int)≠0 by decide) (pE hn' (f:=0) (by decide)) ?_
  have hd':¬(l.hold 0 (p.bd 0).dS).bJ:=hd
  have hb:p'.bd 0=p.bd 0:=g2.bd 0 (by decide)
  refine CR.ite (fun h=>absurd h hd') fun _=>CR.ite (fun h=>?_) fun _=>CR.idle ⟨⟨(Ap.steps p _).trans (g2.trans (Ap.steps p' _)),⟨⟨rfl,rfl,rfl,rfl⟩,rfl⟩⟩,congrArg (fun w=>(⟨w,true⟩:Rp)) hb⟩
  exact absurd (show (l.hold 0 (p.bd 0).dS).h 0=(p'.bd 0).dS by rw [hb];exact VC _ _) h.2.2
end
structure JJ (J:PS→List Nt→Prop):Prop where
 nb:∀p N,J p N→p.nb=85
 kQ:∀p N,J p N→1≤(p.bd 24).num
 ap:∀p p' N,J p N→Ap p p'→J p' N
 sub:∀p N N',J p N→N'.Sublist N→J p N'
 is:∀p N d,J p N→d∈N→p.is d.ref.slot∧p.live d.ref.slot d.ref.gen
 fr:∀p N d,J p N→d∈N→J (PS.free p d.ref.slot) (N.erase d)
section
variable {J:PS→List Nt→Prop} {p:PS} {l:Lo}
def PJ (J:PS→List Nt→Prop) (l:Lo) (l':Lo) (x:Rp) (p':PS):Prop:=J p' l'.notes∧Sm l l'
theorem Mx (HJ:JJ J):∀(r:List Nt) {l:Lo} {p:PS},J p l.notes→r.Sublist l.notes→CR (PJ J l) r.length (RT.ed l r).1 (RT.ed l r).2 p
 | [],l,p,hJ,_=>CR.idle ⟨hJ,Sm.refl l⟩
 | d :: r,l,p,hJ,hs=>by
  have hd:d∈l.notes:=hs.subset (List.mem_cons_self ..)
  have GX:=HJ.ap _ _ _ hJ (Ap.steps p (p.steps+1))
  obtain ⟨h1,h2⟩:=HJ.is _ _ _ hJ hd
  have ha:p.act (RT.acc l (.jT d r))=(PS.free {p with steps:=p.steps+1} d.ref.slot,some ⟨Wd.zero,true⟩):=TM h1 h2
  refine CR.acc (show (16:Int)≠0 by decide) ha ?_
  have hs':r.Sublist (l.notes.erase d):=by
   have:=List.Sublist.erase d hs
   rwa [List.erase_cons_head] at this
  have:=Mx HJ r (l:={l with notes:=l.notes.erase d,freed:=l.freed+1}) (HJ.fr _ _ _ GX hd) hs'
  exact CR.imp (fun l' x p' h=>⟨h.1,Sm.trans (b:={l with notes:=l.notes.erase d,freed:=l.freed+1}) ⟨rfl,rfl,rfl,rfl⟩ h.2⟩) this
theorem FE (HJ:JJ J) {clock:Wd} {seen:List Wd} (hJ:J p l.notes) {d:Nat} (hd:l.notes.length≤d):CR (PJ J l) d (RT.fV l clock seen).1 (RT.fV l clock seen).2 p :=
 (Mx HJ _ hJ List.filter_sublist).more (Nat.le_trans (List.length_filter_le ..) hd)
theorem Xb (ho:l.OK) {k:Nat} (h:(k:Int)<l.all):0≤l.base+k∧l.base+k<85:=by
 have:=ho.threads
 unfold Lo.all at h
 unfold Lo.base
 by_cases hk:l.bI
 ·rw [if_pos hk] at h ⊢;omega
 ·rw [if_neg hk] at h ⊢;omega
theorem FH (HJ:JJ J) (ho:l.OK):∀(m:Nat) {clock:Wd} {seen:List Wd} {p:PS},J p l.notes→0≤clock.num→(seen.length:Int)+m+1=l.all→∀{d:Nat},m+3+l.notes.length≤d→CR (PJ J l) d l (.gY clock seen) p
 | m,clock,seen,p,hJ,hc,hm,0,hd=>by omega
 | m,clock,seen,p,hJ,hc,hm,d+1,hd=>by
  have GX:=HJ.ap _ _ _ hJ (Ap.steps p (p.steps+1))
  refine CR.acc (show (13:Int)≠0 by decide) (pE (HJ.nb _ _ hJ) (Xb ho (k:=seen.length) (by omega))) ?_
  refine CR.ite (fun hl=>?_) fun hl=>CR.ite (fun h4=>FE HJ GX (by omega)) fun h4=>CR.ite (fun hm=>?_) fun hm=>?_
  ·match m,hm with
   | 0,hm=>exact absurd hl (by show ¬(seen.length:Int)+1<l.all;omega)
   | m+1,hm=>exact FH HJ ho m GX hc (by rw [List.length_append,List.length_singleton];omega) (by omega)
  ·obtain ⟨p',x,a1,a2⟩:=Rl (p:={p with steps:=p.steps+1}) (HJ.nb _ _ GX) hc
   obtain ⟨d,rfl⟩:∃e,d=e+1:=⟨d-1,by omega⟩
   refine CR.acc (show (14:Int)≠0 by decide) a1 ?_
   have hJ2:=HJ.ap _ _ _ GX a2
   obtain ⟨d,rfl⟩:∃e,d=e+1:=⟨d-1,by omega⟩
   refine CR.acc (show (15:Int)≠0 by decide) (oJ (HJ.nb _ _ hJ2)) ?_
   exact FE HJ (HJ.ap _ _ _ hJ2 (Ap.steps _ _)) (by omega)
  ·obtain ⟨d,rfl⟩:∃e,d=e+1:=⟨d-1,by omega⟩
   refine CR.acc (show (15:Int)≠0 by decide) (oJ (HJ.nb _ _ GX)) ?_
   exact FE HJ (HJ.ap _ _ _ GX (Ap.steps _ _)) (by omega)
theorem Xc (HJ:JJ J) (ho:l.OK) (hJ:J p l.notes) {d:Nat} (hd:60+l.notes.length≤d):CR (PJ J l) d (RT.scan l).1 (RT.scan l).2 p:=by
 have h0:=ho.all
 have ht:=ho.threads
 have hall:l.all≤54:=by
  unfold Lo.all
  split <;> omega
 refine CR.ite (fun _=>CR.idle ⟨hJ,Sm.refl l⟩) fun h1=>CR.ite (fun h4=>?_) fun h4=>?_
 ·obtain ⟨d,rfl⟩:∃e,d=e+1:=⟨d-1,by omega⟩
  refine CR.acc (show (12:Int)≠0 by decide) (oJ (HJ.nb _ _ hJ)) ?_
  have:=HJ.kQ _ _ hJ
  exact FH HJ ho (l.all-1).toNat (HJ.ap _ _ _ hJ (Ap.steps _ _)) (show (0:Int)≤(p.bd 24).num by omega) (by show ((([]:List Wd).length:Nat):Int)+_+1=_;simp;omega) (by omega)
 ·exact FH HJ ho (l.all-1).toNat hJ (by decide) (by simp;omega) (by omega)
theorem Cx (HJ:JJ J) (ho:l.OK) (hJ:J p l.notes) {d:Nat} (hd:60+l.notes.length≤d):CR (PJ J l) d (RT.dC l).1 (RT.dC l).2 p :=
 CR.ite (fun _=>Xc HJ ho hJ hd) fun _=>CR.idle ⟨hJ,Sm.refl l⟩
theorem Rm (HJ:JJ J) (ho:l.OK) {w:Wd} (hJ:∀b d,J p (l.notes ++ [⟨w.dS,b,d⟩])) {d:Nat} (hd:70+l.notes.length≤d):CR (PJ J l) d (RT.begin l {Ca.of 10 with old:=w}).1 (RT.begin l {Ca.of 10 with old:=w}).2 p:=by
 have e:RT.begin l {Ca.of 10 with old:=w}=RT.fH l w:=rfl
 rw [e]
 have hn:=HJ.nb _ _ (hJ 0 0)
 have hap:∀{q:PS},Ap p q→∀b d,J q (l.notes ++ [⟨w.dS,b,d⟩]):=fun h b d=>HJ.ap _ _ _ (hJ b d) h
 have hlen:∀b d,(RT.note l w b d).notes.length=l.notes.length+1:=fun b d=>by
  show (l.notes ++ [_]).length=_
  rw [List.length_append];rfl
 have hok:∀b d,(RT.note l w b d).OK:=fun b d=>ho.note w b d
 have YS:∀{b d:Int} {l':Lo} {x:Rp} {p':PS},PJ J (RT.note l w b d) l' x p'→PJ J l l' x p':=fun {b d} _ _ _ h=>⟨h.1,Sm.trans (b:=RT.note l w b d) ⟨rfl,rfl,rfl,rfl⟩ h.2⟩
 have kQ:∀{q:PS} (b:Int),Ap p q→∀{e:Nat},65+l.notes.length≤e→CR (PJ J l) e l (.lT w b) q:=fun {q} b hq e he=>by
  obtain ⟨e,rfl⟩:∃f,e=f+1:=⟨e-1,by omega⟩
  refine CR.acc (show (10:Int)≠0 by decide) (oJ (hq.nb.trans hn)) ?_
  have hq1:=hq.trans (Ap.steps q (q.steps+1))
  have hck:=HJ.kQ _ _ (hap hq 0 0)
  refine CR.ite (fun _=>?_) fun _=>CR.imp (fun _ _ _ h=>YS h) (Cx HJ (hok _ _) (hap hq1 _ _) (by rw [hlen];omega))
  obtain ⟨p',x,a1,a2⟩:=Rl (p:={q with steps:=q.steps+1}) (hq.nb.trans hn) (c:=q.bd 24) (by omega)
  obtain ⟨e,rfl⟩:∃f,e=f+1:=⟨e-1,by omega⟩
  refine CR.acc (t:=.mE _) (show (11:Int)≠0 by decide) a1 ?_
  exact CR.imp (fun _ _ _ h=>YS h) (Cx HJ (hok b (q.bd 24).num) (hap (hq1.trans a2) _ _) (by rw [hlen];omega))
 refine CR.ite (fun _=>CR.imp (fun _ _ _ h=>YS h) (Cx HJ (hok 0 0) (hJ 0 0) (by rw [hlen];omega))) fun _=>CR.ite (fun _=>kQ 0 (Ap.refl p) (by omega)) fun _=>CR.ite (fun _=>?_) fun _=>CR.idle ⟨HJ.sub _ _ _ (hJ 0 0) (List.sublist_append_left ..),Sm.refl l⟩
 obtain ⟨g1,g2⟩:=HJ.is _ _ ⟨w.dS,0,0⟩ (hJ 0 0) (by simp)
 obtain ⟨d,rfl⟩:∃e,d=e+1:=⟨d-1,by omega⟩
 have hs0:w.slot≠0:=fun e=>by
  have:(1:Int)≤w.slot:=g1.1
  omega
 have hh:p.has w.slot w.gen 9:=by
  unfold PS.has
  rw [if_neg hs0]
  exact ⟨g1,by decide,by decide⟩
 refine CR.acc (t:=.lS w) (show (9:Int)≠0 by decide) (Cn hh g2) ?_
 exact kQ _ (Ap.steps p _) (by omega)
end
structure Vk where
 l:Lo
 t:RT
 ops:List Op
 j:Option Jb
 bV:Bool
 said:List (Int × Int)
structure VW (v:Vk) (w:Wk):Prop where
 rep:ib v.l v.t w.r
 ops:w.ops=v.ops
 j:w.j=v.j
 bV:w.bV=v.bV
 said:w.said=v.said
def Vk.with (v:Vk) (q:LR):Vk:={v with l:=q.1,t:=q.2}
def Vk.op (v:Vk):Op:=v.ops.getD v.said.length ⟨0,0,0,0⟩
def Vk.iG (v:Vk) (x:Rp):Vk :=
 match v.j with
 | none=>if v.bV=true then ({v with bV:=false}:Vk).with (RT.begin v.l (Ca.of 2)) else ({v with j:=some (Jb.new v.op),bV:=true}:Vk).with (RT.begin v.l (Ca.of 1))
 | some j=>if (j.next x).2.kind=12 then {v with said:=v.said ++ [((j.next x).2.code,(j.next x).2.val)],j:=none} else ({v with j:=some (j.next x).1}:Vk).with (RT.begin v.l (j.next x).2)
def Vk.done (v:Vk):Prop:=v.t.iF=0∧v.j=none∧v.bV=false∧v.said.length≥v.ops.length
def Vk.may (v:Vk) (x:Rp):Prop :=
 match v.j with
 | none=>v.bV=true∨(v.bV=false∧v.said.length<v.ops.length∧v.op.dF)
 | some j=>((j.next x).2.kind=12→v.said.length<v.ops.length)∧((j.next x).2.kind≠12→(j.next x).2.OK)
def Fin (Q:Vk→PS→Prop):Nat→Nat→Vk→PS→Prop
 | _,0,v,p=>v.done∧Q v p
 | c,n+1,v,p=>(v.done∧Q v p)∨(∃x,v.t=.idle x∧v.may x∧∃c',c=c'+1∧Fin Q c' n (v.iG x) p)∨(v.t.iF≠0∧∃p' x,p.act (v.t.acc v.l)=(p',some x)∧Fin Q 150 n (v.with (RT.bL v.l v.t x)) p')
section
variable {Q:Vk→PS→Prop}
theorem Fin.end {c n:Nat} {v:Vk} {p:PS} (h:v.done) (hq:Q v p):Fin Q c n v p:=by
 cases n with
 | zero=>exact ⟨h,hq⟩
 | succ n=>exact .inl ⟨h,hq⟩
theorem Fin.iG {c n:Nat} {v:Vk} {p:PS} {x:Rp} (ht:v.t=.idle x) (hm:v.may x) (h:Fin Q c n (v.iG x) p):Fin Q (c+1) (n+1) v p:=.inr (.inl ⟨x,ht,hm,c,rfl,h⟩)
theorem Fin.acc {c n:Nat} {v:Vk} {p p':PS} {x:Rp} (h0:v.t.iF≠0) (ha:p.act (v.t.acc v.l)=(p',some x)) (h:Fin Q 150 n (v.with (RT.bL v.l v.t x)) p'):Fin Q c (n+1) v p:=.inr (.inr ⟨h0,p',x,ha,h⟩)
theorem Fin.more:∀{n c m d:Nat} {v:Vk} {p:PS},Fin Q c n v p→n≤m→c≤d→Fin Q d m v p
 | 0,c,m,d,v,p,h,_,_=>Fin.end h.1 h.2
 | n+1,c,0,d,v,p,h,hm,_=>absurd hm (Nat.not_succ_le_zero _)
 | n+1,c,m+1,d,v,p,h,hm,hc=>by
  rcases h with h | ⟨x,ht,hx,c',rfl,h⟩ | ⟨h0,p',x,ha,h⟩
  ·exact Fin.end h.1 h.2
  ·obtain ⟨d,rfl⟩:∃e,d=e+1:=⟨d-1,by omega⟩
   exact Fin.iG ht hx (Fin.more h (by omega) (by omega))
  ·exact Fin.acc h0 ha (Fin.more h (by omega) (Nat.le_refl _))
theorem Fin.call {Post:Lo→Rp→PS→Prop}:∀{d:Nat} {c n:Nat} {v:Vk} {p:PS},CR Post d v.l v.t p→c≤150→(∀l x p',Post l x p'→Fin Q c n {v with l:=l,t:=.idle x} p')→Fin Q c (n+d) v p
 | 0,c,n,v,p,h,hc,hk=>by
  obtain ⟨x,hx,hp⟩:=h
  have:=hk _ _ _ hp
  rw [←hx] at this
  exact this
 | d+1,c,n,v,p,h,hc,hk=>by
  rcases h with ⟨x,hx,hp⟩ | ⟨h0,p',x,ha,h⟩
  ·have:=hk _ _ _ hp
   rw [←hx] at this
   exact this.more (by omega) (Nat.le_refl _)
  ·exact Fin.acc h0 ha (Fin.call (v:=v.with (RT.bL v.l v.t x)) h (Nat.le_refl _) fun l x p' hp=>(hk l x p' hp).more (Nat.le_refl _) hc)
end
structure AV (k:Int) (v:Vk) (p:PS):Prop where
 mq:vC k v.l v.t p
 AL:∀j,v.j=some j→(Wb k j.node∧Wb k j.top∧j.last.new=Wd.zero∧j.last.old=Wd.zero)∧0≤j.op.val∧j.op.val≤3000
 ops:v.ops.length≤100∧∀o∈v.ops,0≤o.val∧o.val≤3000
theorem AV.mono {k k':Int} {v:Vk} {p:PS} (h:AV k v p) (hk:k≤k'):AV k' v p:=⟨h.mq.mono hk,fun j hj=>⟨⟨(h.AL j hj).1.1.mono hk,(h.AL j hj).1.2.1.mono hk,(h.AL j hj).1.2.2⟩,(h.AL j hj).2⟩,h.ops⟩
theorem Zp {k:Int} {j:Jb} {x:Rp} (h0:0≤k) (hn:Wb k j.node) (ht:Wb k j.top) (hl:j.last.new=Wd.zero∧j.last.old=Wd.zero) (hv:0≤j.op.val∧j.op.val≤3000) (hx:Wb k x.word) :
  ((Wb k (j.next x).1.node∧Wb k (j.next x).1.top∧(j.next x).1.last.new=Wd.zero∧(j.next x).1.last.old=Wd.zero)∧(j.next x).1.op=j.op)∧Wb (k+1) (j.next x).2.new∧Wb k (j.next x).2.old:=by
 have hz:Wb k Wd.zero:=Wb.zero h0
 have hz1:Wb (k+1) Wd.zero:=Wb.zero (by omega)
 have hval:Wb (k+1) (Wd.dK j.op.val):=Wb.num (by omega) (by omega)
 have hsw:∀{o r:Wd},Wb k o→Wb k r→Wb (k+1) (Vo o r).new:=fun {o r} a b=>by
  obtain ⟨a1,a2,a3,a4⟩:=a
  obtain ⟨b1,b2,b3,b4⟩:=b
  refine ⟨b1,?_,?_,?_⟩
  ·show -(k+1)≤r.gen∧r.gen≤k+1
   omega
  ·show -(2000 * (k+1)+3000)≤o.tag+1∧o.tag+1≤2000 * (k+1)+3000
   omega
  ·show -(2000 * (k+1)+3000)≤0∧0≤2000 * (k+1)+3000
   omega
 unfold Jb.next
 split
 ·unfold Jb.push
  split
  ·exact ⟨⟨⟨hn,ht,by first | exact hl | exact ⟨rfl,rfl⟩⟩,rfl⟩,hz1,hz⟩
  split
  ·split
   ·exact ⟨⟨⟨hn,ht,by first | exact hl | exact ⟨rfl,rfl⟩⟩,rfl⟩,hz1,hz⟩
   ·exact ⟨⟨⟨hx,ht,by first | exact hl | exact ⟨rfl,rfl⟩⟩,rfl⟩,hval,hz⟩
  split
  ·split
   ·exact ⟨⟨⟨hn,ht,by first | exact hl | exact ⟨rfl,rfl⟩⟩,rfl⟩,hz1,hz⟩
   ·exact ⟨⟨⟨hn,ht,by first | exact hl | exact ⟨rfl,rfl⟩⟩,rfl⟩,hz1,hz⟩
  split
  ·exact ⟨⟨⟨hn,ht,by first | exact hl | exact ⟨rfl,rfl⟩⟩,rfl⟩,hz1,hz⟩
  split
  ·exact ⟨⟨⟨hn,hx,by first | exact hl | exact ⟨rfl,rfl⟩⟩,rfl⟩,(hx.ref h0).mono (by omega),hz⟩
  split
  ·exact ⟨⟨⟨hn,ht,by first | exact hl | exact ⟨rfl,rfl⟩⟩,rfl⟩,hsw ht hn,ht⟩
  ·exact ⟨⟨⟨hn,ht,hl⟩,rfl⟩,by rw [hl.1];exact hz1,by rw [hl.2];exact hz⟩
 ·unfold Jb.pop
  split
  ·split
   ·exact ⟨⟨⟨hn,ht,by first | exact hl | exact ⟨rfl,rfl⟩⟩,rfl⟩,hz1,hz⟩
   ·exact ⟨⟨⟨hn,ht,by first | exact hl | exact ⟨rfl,rfl⟩⟩,rfl⟩,hz1,hz⟩
  split
  ·exact ⟨⟨⟨hn,ht,by first | exact hl | exact ⟨rfl,rfl⟩⟩,rfl⟩,hz1,hz⟩
  split
  ·split
   ·exact ⟨⟨⟨hn,hx,by first | exact hl | exact ⟨rfl,rfl⟩⟩,rfl⟩,hz1,hz⟩
   split
   ·exact ⟨⟨⟨hn,hx,by first | exact hl | exact ⟨rfl,rfl⟩⟩,rfl⟩,hz1,hz⟩
   ·exact ⟨⟨⟨hn,hx,by first | exact hl | exact ⟨rfl,rfl⟩⟩,rfl⟩,hz1,hz⟩
  split
  ·exact ⟨⟨⟨hn,ht,by first | exact hl | exact ⟨rfl,rfl⟩⟩,rfl⟩,hsw ht hx,ht⟩
  split
  ·split
   ·exact ⟨⟨⟨hn,ht,by first | exact hl | exact ⟨rfl,rfl⟩⟩,rfl⟩,hz1,hz⟩
   ·exact ⟨⟨⟨hn,ht,by first | exact hl | exact ⟨rfl,rfl⟩⟩,rfl⟩,hz1,ht⟩
  split
  ·exact ⟨⟨⟨hn,ht,by first | exact hl | exact ⟨rfl,rfl⟩⟩,rfl⟩,hz1,hz⟩
  ·exact ⟨⟨⟨hn,ht,hl⟩,rfl⟩,by rw [hl.1];exact hz1,by rw [hl.2];exact hz⟩
theorem zD {k:Int} (h:1≤k∧k≤11):(Ca.of k).OK:=by
 have h9:(0:Int)≤0∧(0:Int)<9:=by decide
 exact ⟨h.1,h.2,h9.1,h9.2,h9.1,h9.2⟩
theorem AV.iG {k:Int} {v:Vk} {p:PS} {x:Rp} (h:AV k v p) (ht:v.t=.idle x) (hm:v.may x):AV (k+1) (v.iG x) p:=by
 have ha:=h.mq
 have h0:=ha.k0
 rw [ht] at ha
 have hz:Wb k Wd.zero:=Wb.zero h0
 have hz1:Wb (k+1) Wd.zero:=Wb.zero (by omega)
 have hxw:Wb k x.word:=ha.tw
 unfold Vk.iG
 unfold Vk.may at hm
 cases hj:v.j with
 | none =>
  rw [hj] at hm
  simp only at hm ⊢
  split
  ·exact ⟨ha.begin (c:=Ca.of 2) (zD (by decide)) hz1 hz,fun j hj'=>(by cases hj'),h.ops⟩
  ·rename_i hi
   obtain ⟨-,hl,-⟩:=hm.resolve_left hi
   have ho:v.op∈v.ops:=by
    unfold Vk.op
    rw [List.getD_eq_getElem?_getD,List.getElem?_eq_getElem hl]
    exact List.getElem_mem _
   refine ⟨ha.begin (c:=Ca.of 1) (zD (by decide)) hz1 hz,fun j hj'=>?_,h.ops⟩
   obtain rfl:Jb.new v.op=j:=Option.some.inj hj'
   exact ⟨⟨hz1,hz1,rfl,rfl⟩,h.ops.2 _ ho⟩
 | some j =>
  rw [hj] at hm
  simp only at hm ⊢
  obtain ⟨⟨q1,q2,q3⟩,q4⟩:=h.AL j hj
  obtain ⟨⟨⟨a1,a2,a3⟩,a4⟩,b,c⟩:=Zp (x:=x) h0 q1 q2 q3 q4 hxw
  split
  ·refine ⟨?_,fun j' hj'=>(by cases hj'),h.ops⟩
   have:=ha.mono (k':=k+1) (by omega)
   show vC (k+1) v.l v.t p
   rw [ht]
   exact this
  ·rename_i hk
   refine ⟨ha.begin (hm.2 hk) b c,fun j' hj'=>?_,h.ops⟩
   obtain rfl:(j.next x).1=j':=Option.some.inj hj'
   exact ⟨⟨a1.mono (by omega),a2.mono (by omega),a3⟩,by rw [a4];exact q4⟩
theorem AV.bL {k:Int} {v:Vk} {p p':PS} {x:Rp} (h:AV k v p) (hx:p.act (v.t.acc v.l)=(p',some x)):AV (k+1) (v.with (RT.bL v.l v.t x)) p'∧Wb (k+1) x.word:=by
 obtain ⟨h1,h2⟩:=h.mq.bL hx
 exact ⟨⟨h1,(h.mono (show k≤k+1 by omega)).AL,h.ops⟩,h2⟩
structure Nd where
 s:Int
 g:Int
 v:Int
def dL (tag:Int):List Nd→Wd
 | []=>⟨0,0,tag,0,false⟩
 | n :: _=>⟨n.s,n.g,tag,0,false⟩
def PS.lq (p:PS) (s g:Int):Prop:=p.is s∧p.used (s-1).toNat=true∧p.gen (s-1).toNat=g
theorem PS.lq.live {p:PS} {s g:Int} (h:p.lq s g):p.live s g:=.inr h.2
theorem PS.lq.has {p:PS} {s g f:Int} (h:p.lq s g) (hf:0≤f∧f<10):p.has s g f:=by
 unfold PS.has
 rw [if_neg (fun e=>by have:=h.1.1;omega)]
 exact ⟨h.1,hf⟩
structure iM (p:PS) (tag:Int) (st:List Nd) (N:List Nt):Prop where
 nb:p.nb=85
 dF:p.dF=true
 kQ:1≤(p.bd 24).num
 root:p.bd 0=dL tag st
 node:∀n∈st,p.lq n.s n.g∧p.cell (n.s-1).toNat 1=Wd.dK n.v
 link:∀n r,(n :: r) <:+ st→p.cell (n.s-1).toNat 2=dL 0 r
 note:∀d∈N,p.lq d.ref.slot d.ref.gen
 one:(st.map Nd.s ++ N.map fun d=>d.ref.slot).Nodup
theorem FI {p p':PS} (h:Ap p p') {s g:Int} (hs:p.lq s g):p'.lq s g:=by
 obtain ⟨a,b,c⟩:=hs
 unfold PS.lq PS.is at *
 rw [h.ns,h.used,h.gen]
 exact ⟨a,b,c⟩
theorem iM.ap {p p':PS} {tag:Int} {st:List Nd} {N:List Nt} (h:iM p tag st N) (ha:Ap p p'):iM p' tag st N :=
 ⟨ha.nb.trans h.nb,ha.dF.trans h.dF,ha.kQ h.kQ,(ha.bd 0 (by decide)).trans h.root,fun n hn=>⟨FI ha (h.node n hn).1,by rw [ha.cell];exact (h.node n hn).2⟩,fun n r hr=>by rw [ha.cell];exact h.link n r hr,fun d hd=>FI ha (h.note d hd),h.one⟩
theorem KG (tag:Int) (st:List Nd):JJ fun p N=>iM p tag st N where
 nb:=fun p N h=>h.nb
 kQ:=fun p N h=>h.kQ
 ap:=fun p p' N h ha=>h.ap ha
 sub:=fun p N N' h hs=>⟨h.nb,h.dF,h.kQ,h.root,h.node,h.link,fun d hd=>h.note d (hs.subset hd),h.one.sublist ((List.Sublist.refl _).append (hs.map _))⟩
 is:=fun p N d h hd=>⟨(h.note d hd).1,(h.note d hd).live⟩
 fr:=fun p N d h hd=>by
  have h1:=h.one
  rw [List.nodup_append] at h1
  obtain ⟨-,hN,hx⟩:=h1
  have hds:=h.note d hd
  have hfree:∀s g,p.lq s g→s≠d.ref.slot→(PS.free p d.ref.slot).lq s g:=fun s g ⟨a,b,c⟩ hne=>by
   refine ⟨a,?_,c⟩
   show (if (s-1).toNat=(d.ref.slot-1).toNat then false else p.used (s-1).toNat)=true
   rw [if_neg (fun e=>hne (by have:=a.1;have:=hds.1.1;omega))]
   exact b
  refine ⟨h.nb,h.dF,h.kQ,h.root,fun n hn=>⟨hfree _ _ (h.node n hn).1 fun e=>?_,(h.node n hn).2⟩,h.link,fun e he=>?_,h.one.sublist ((List.Sublist.refl _).append (List.erase_sublist.map _))⟩
  ·exact hx n.s (List.mem_map_of_mem hn) d.ref.slot (List.mem_map_of_mem (f:=fun d:Nt=>d.ref.slot) hd) e
  ·refine hfree _ _ (h.note e (List.mem_of_mem_erase he)) fun heq=>?_
   have hNd:N.Nodup:=List.Pairwise.of_map (fun d:Nt=>d.ref.slot) (fun a b h e=>h (congrArg (fun d:Nt=>d.ref.slot) e)) hN
   have hne:e≠d:=fun q=>by
    rw [q] at he
    exact (List.Nodup.not_mem_erase hNd) he
   exact hne (KH hN (List.mem_of_mem_erase he) hd heq)
where
 KH {N:List Nt} (h:(N.map fun d=>d.ref.slot).Nodup) {a b:Nt} (ha:a∈N) (hb:b∈N) (hab:a.ref.slot=b.ref.slot):a=b:=by
  induction N with
  | nil=>cases ha
  | cons x N ih =>
   rw [List.map_cons,List.nodup_cons] at h
   rcases List.mem_cons.1 ha with rfl | ha
   ·rcases List.mem_cons.1 hb with rfl | hb
    ·rfl
    ·exact absurd (List.mem_map.2 ⟨b,hb,hab.symm⟩) h.1
   ·rcases List.mem_cons.1 hb with hb | hb
    ·exact absurd (List.mem_map.2 ⟨a,ha,by rw [hab,hb]⟩) h.1
    ·exact ih h.2 ha hb
theorem Xd (tag:Int) (st:List Nd) (B:Nat):JJ fun p N=>iM p tag st N∧N.length≤B where
 nb:=fun p N h=>h.1.nb
 kQ:=fun p N h=>h.1.kQ
 ap:=fun p p' N h ha=>⟨h.1.ap ha,h.2⟩
 sub:=fun p N N' h hs=>⟨(KG tag st).sub _ _ _ h.1 hs,Nat.le_trans hs.length_le h.2⟩
 is:=fun p N d h hd=>(KG tag st).is _ _ _ h.1 hd
 fr:=fun p N d h hd=>⟨(KG tag st).fr _ _ _ h.1 hd,Nat.le_trans (List.length_erase_le ..) h.2⟩
structure lY (p:PS) (m:Int):Prop where
 nf:p.nf=m
 fr:∀i:Nat,(i:Int)<m→1≤p.fr i∧p.fr i≤p.ns∧p.used (p.fr i-1).toNat=false
 one:∀i j:Nat,i<j→(j:Int)<m→p.fr i≠p.fr j
theorem lY.ap {p p':PS} {m:Int} (h:lY p m) (ha:Ap p p'):lY p' m :=
 ⟨ha.nf.trans h.nf,fun i hi=>by rw [ha.fr,ha.ns,ha.used];exact h.fr i hi,fun i j hij hj=>by rw [ha.fr];exact h.one i j hij hj⟩
structure Hand (p:PS) (st:List Nd) (N:List Nt) (n g:Int):Prop where
 has:p.lq n g
 st:∀x∈st,x.s≠n
 nt:∀d∈N,d.ref.slot≠n
theorem Hand.ap {p p':PS} {st:List Nd} {N:List Nt} {n g:Int} (h:Hand p st N n g) (ha:Ap p p'):Hand p' st N n g:=⟨FI ha h.has,h.st,h.nt⟩
section
variable {p:PS} {tag n g m:Int} {st:List Nd} {N:List Nt}
theorem MB {s g s' g':Int} (h:p.lq s g) (h':p.lq s' g') (hne:s≠s'):(s-1).toNat≠(s'-1).toNat:=fun e=>hne (by have:=h.1.1;have:=h'.1.1;omega)
theorem Rn (hS:iM p tag st N) (hF:lY p m) (hm:0<m) (b:Int):∃n g,(p.alloc b).2=⟨⟨n,g,0,0,false⟩,true⟩∧iM (p.alloc b).1 tag st N∧lY (p.alloc b).1 (m-1)∧Hand (p.alloc b).1 st N n g:=by
 have hnf:=hF.nf
 have hi:((p.nf-1).toNat:Int)<m:=by omega
 obtain ⟨f1,f2,f3⟩:=hF.fr (p.nf-1).toNat hi
 generalize hn:p.fr (p.nf-1).toNat=n at f1 f2 f3
 have e:p.alloc b=({p with nf:=p.nf-1,made:=p.made+1,gen:=fun i=>if i=(n-1).toNat then p.gen (n-1).toNat+1 else p.gen i,used:=fun i=>if i=(n-1).toNat then true else p.used i,cell:=fun i k=>if i=(n-1).toNat∧k<10 then nH b k else p.cell i k},⟨⟨n,p.gen (n-1).toNat+1,0,0,false⟩,true⟩):=by
  unfold PS.alloc
  rw [if_neg (by omega)]
  simp only [hn]
 rw [e]
 have old:∀s g,p.lq s g→s≠n∧(s-1).toNat≠(n-1).toNat:=fun s g ⟨a,c,_⟩=>by
  have:s≠n:=fun q=>by rw [q,f3] at c;cases c
  exact ⟨this,fun q=>this (by have:=a.1;omega)⟩
 refine ⟨n,_,rfl,⟨hS.nb,hS.dF,hS.kQ,hS.root,fun x hx=>?_,fun x r hr=>?_,fun d hd=>?_,hS.one⟩,⟨by show p.nf-1=m-1;omega,fun i hi=>?_,fun i j hij hj=>hF.one i j hij (by omega)⟩,⟨⟨⟨f1,f2⟩,if_pos rfl,if_pos rfl⟩,fun x hx=>(old _ _ (hS.node x hx).1).1,fun d hd=>(old _ _ (hS.note d hd)).1⟩⟩
 ·obtain ⟨h1,h2⟩:=hS.node x hx
  have hne:=(old _ _ h1).2
  exact ⟨⟨h1.1,(if_neg hne).trans h1.2.1,(if_neg hne).trans h1.2.2⟩,(if_neg fun q=>hne q.1).trans h2⟩
 ·have hne:=(old _ _ (hS.node x (hr.subset (List.mem_cons_self ..))).1).2
  exact (if_neg fun q=>hne q.1).trans (hS.link x r hr)
 ·have h1:=hS.note d hd
  have hne:=(old _ _ h1).2
  exact ⟨h1.1,(if_neg hne).trans h1.2.1,(if_neg hne).trans h1.2.2⟩
 ·obtain ⟨g1,g2,g3⟩:=hF.fr i (by omega)
  refine ⟨g1,g2,?_⟩
  have hi':((p.nf-1).toNat:Int)<m:=by omega
  have hne:p.fr i≠n:=by rw [←hn];exact hF.one i _ (by omega) hi'
  have:(p.fr i-1).toNat≠(n-1).toNat:=fun q=>hne (by omega)
  exact (if_neg this).trans g3
theorem Ud {s f:Int} {w:Wd} (hs:s≠0):p.put s f w={p with cell:=fun i k=>if i=(s-1).toNat∧k=f.toNat then w else p.cell i k}:=if_neg hs
theorem MC (hS:iM p tag st N) (hF:lY p m) (hH:Hand p st N n g) (f:Int) (w:Wd):iM (p.put n f w) tag st N∧lY (p.put n f w) m∧Hand (p.put n f w) st N n g∧(p.put n f w).cell (n-1).toNat f.toNat=w∧∀k,k≠f.toNat→(p.put n f w).cell (n-1).toNat k=p.cell (n-1).toNat k:=by
 have hn0:n≠0:=fun e=>by have:=hH.has.1.1;omega
 rw [Ud hn0]
 refine ⟨⟨hS.nb,hS.dF,hS.kQ,hS.root,fun x hx=>⟨(hS.node x hx).1,?_⟩,fun x r hr=>?_,hS.note,hS.one⟩,⟨hF.nf,hF.fr,hF.one⟩,⟨hH.has,hH.st,hH.nt⟩,if_pos ⟨rfl,rfl⟩,fun k hk=>if_neg fun q=>hk q.2⟩
 ·exact (if_neg fun q=>MB (hS.node x hx).1 hH.has (hH.st x hx) q.1).trans (hS.node x hx).2
 ·have hx:=hr.subset (List.mem_cons_self ..)
  exact (if_neg fun q=>MB (hS.node x hx).1 hH.has (hH.st x hx) q.1).trans (hS.link x r hr)
theorem Ro {w:Wd}:p.put 0 0 w={p with bd:=fun i=>if i=0 then w else p.bd i}:=rfl
theorem Ue (hS:iM p tag st N) (hH:Hand p st N n g) {v:Int} (h1:p.cell (n-1).toNat 1=Wd.dK v) (h2:p.cell (n-1).toNat 2=dL 0 st):iM (p.put 0 0 ⟨n,g,tag+1,0,false⟩) (tag+1) (⟨n,g,v⟩ :: st) N:=by
 rw [Ro]
 refine ⟨hS.nb,hS.dF,?_,rfl,fun x hx=>?_,fun x r hr=>?_,hS.note,?_⟩
 ·show 1≤(if 24=0 then _ else p.bd 24).num
  rw [if_neg (by decide)]
  exact hS.kQ
 ·rcases List.mem_cons.1 hx with rfl | hx
  ·exact ⟨hH.has,h1⟩
  ·exact hS.node x hx
 ·rcases List.suffix_cons_iff.1 hr with e | hr
  ·cases e
   exact h2
  ·exact hS.link x r hr
 ·rw [List.map_cons,List.cons_append,List.nodup_cons]
  refine ⟨fun q=>?_,hS.one⟩
  rcases List.mem_append.1 q with q | q
  ·obtain ⟨x,hx,e⟩:=List.mem_map.1 q
   exact hH.st x hx e
  ·obtain ⟨d,hd,e⟩:=List.mem_map.1 q
   exact hH.nt d hd e
theorem Xe {x:Nd} (hS:iM p tag (x :: st) N):iM (p.put 0 0 (dL (tag+1) st)) (tag+1) st N∧Hand (p.put 0 0 (dL (tag+1) st)) st N x.s x.g∧(p.put 0 0 (dL (tag+1) st)).cell (x.s-1).toNat 1=Wd.dK x.v:=by
 rw [Ro]
 have hone:=hS.one
 rw [List.map_cons,List.cons_append,List.nodup_cons] at hone
 refine ⟨⟨hS.nb,hS.dF,?_,rfl,fun y hy=>hS.node y (List.mem_cons_of_mem _ hy),fun y r hr=>hS.link y r (List.IsSuffix.trans hr (List.suffix_cons ..)),hS.note,hone.2⟩,⟨(hS.node x (List.mem_cons_self ..)).1,fun y hy e=>hone.1 (List.mem_append_left _ (List.mem_map.2 ⟨y,hy,e⟩)),fun d hd e=>hone.1 (List.mem_append_right _ (List.mem_map.2 ⟨d,hd,e⟩))⟩,(hS.node x (List.mem_cons_self ..)).2⟩
 show 1≤(if 24=0 then _ else p.bd 24).num
 rw [if_neg (by decide)]
 exact hS.kQ
theorem Uf (hS:iM p tag st N) (hH:Hand p st N n g) {w:Wd} (hw:w.slot=n∧w.gen=g) (b d:Int):iM p tag st (N ++ [⟨w.dS,b,d⟩]):=by
 refine ⟨hS.nb,hS.dF,hS.kQ,hS.root,hS.node,hS.link,fun e he=>?_,?_⟩
 ·rcases List.mem_append.1 he with he | he
  ·exact hS.note e he
  ·obtain rfl:=List.mem_singleton.1 he
   show p.lq w.slot w.gen
   rw [hw.1,hw.2]
   exact hH.has
 ·rw [List.map_append,←List.append_assoc,List.nodup_append]
  refine ⟨hS.one,by simp,fun a ha c hc=>?_⟩
  have hc:c=w.slot:=by simpa [Wd.dS] using hc
  rw [hc,hw.1]
  rcases List.mem_append.1 ha with ha | ha
  ·obtain ⟨x,hx,rfl⟩:=List.mem_map.1 ha
   exact hH.st x hx
  ·obtain ⟨x,hx,rfl⟩:=List.mem_map.1 ha
   exact hH.nt x hx
theorem at_root (p:PS):p.at 0 0=p.bd 0:=rfl
theorem eQ (w:Wd):iD w w:=⟨rfl,rfl,rfl,rfl⟩
theorem GY (hn:p.nb=85) {o w:Wd} (ho:p.bd 0=o):p.act ⟨3,0,0,0,o,w⟩=(PS.put {p with steps:=p.steps+1} 0 0 w,some ⟨o,true⟩):=by
 rw [Kj (OJ hn (by decide)) (.inl rfl),at_root,ho,if_pos (eQ o)]
theorem GZ (h:p.lq n g) {f:Int} (hf:0≤f∧f<10):p.act (Ac.load n g f)=({p with steps:=p.steps+1},some ⟨p.cell (n-1).toNat f.toNat,true⟩):=by
 have hn0:n≠0:=fun e=>by have:=h.1.1;omega
 have:p.at n f=p.cell (n-1).toNat f.toNat:=if_neg hn0
 rw [←this]
 exact Cn (h.has hf) h.live
theorem Ew (h:p.lq n g) {f:Int} (hf:0≤f∧f<10) (o w:Wd):p.act ⟨2,n,g,f,o,w⟩=(PS.put {p with steps:=p.steps+1} n f w,some ⟨Wd.zero,true⟩):=zt (h.has hf) h.live
end
def eO (val:Int):Op:=⟨1,0,val,0⟩
def ek:Op:=⟨2,0,0,0⟩
section
variable {Q:Vk→PS→Prop} {c n:Nat} {l:Lo} {ops:List Op} {j j':Jb} {bV:Bool} {said:List (Int × Int)} {p p':PS} {x x':Rp} {ca:Ca} {a:Ac}
theorem Fin.next (hn:j.next x=(j',ca)) (h12:ca.kind≠12) (hok:ca.OK) (h:Fin Q c n ⟨(RT.begin l ca).1,(RT.begin l ca).2,ops,some j',bV,said⟩ p):Fin Q (c+1) (n+1) ⟨l,.idle x,ops,some j,bV,said⟩ p:=by
 refine Fin.iG (x:=x) rfl ?_ ?_
 ·show ((j.next x).2.kind=12→_)∧((j.next x).2.kind≠12→(j.next x).2.OK)
  rw [hn]
  exact ⟨fun e=>absurd e h12,fun _=>hok⟩
 ·have e:Vk.iG ⟨l,.idle x,ops,some j,bV,said⟩ x=⟨(RT.begin l ca).1,(RT.begin l ca).2,ops,some j',bV,said⟩:=by
   unfold Vk.iG
   simp only [hn]
   rw [if_neg h12]
   rfl
  rw [e]
  exact h
theorem Fin.answer {co va:Int} (hn:j.next x=(j',{Ca.of 12 with code:=co,val:=va})) (hl:said.length<ops.length) (h:Fin Q c n ⟨l,.idle x,ops,none,bV,said ++ [(co,va)]⟩ p):Fin Q (c+1) (n+1) ⟨l,.idle x,ops,some j,bV,said⟩ p:=by
 refine Fin.iG (x:=x) rfl ?_ ?_
 ·show ((j.next x).2.kind=12→said.length<ops.length)∧((j.next x).2.kind≠12→(j.next x).2.OK)
  rw [hn]
  exact ⟨fun _=>hl,fun e=>absurd rfl e⟩
 ·have e:Vk.iG ⟨l,.idle x,ops,some j,bV,said⟩ x=⟨l,.idle x,ops,none,bV,said ++ [(co,va)]⟩:=by
   unfold Vk.iG
   simp only [hn]
   rw [if_pos (show (Ca.of 12).kind=12 from rfl)]
  rw [e]
  exact h
theorem Fin.pF (hn:j.next x=(j',ca)) (h12:ca.kind≠12) (hok:ca.OK) (hb:RT.begin l ca=(l,.one a)) (ha:p.act a=(p',some x')) (h:Fin Q 150 n ⟨l,.idle x',ops,some j',bV,said⟩ p'):Fin Q (c+1) (n+2) ⟨l,.idle x,ops,some j,bV,said⟩ p:=by
 refine Fin.next hn h12 hok ?_
 rw [hb]
 exact Fin.acc (show (1:Int)≠0 by decide) ha h
theorem Fin.start {o:Op} (hl:said.length<ops.length) (ho:ops.getD said.length ⟨0,0,0,0⟩=o) (hg:o.dF) (h:Fin Q c n ⟨(RT.begin l (Ca.of 1)).1,(RT.begin l (Ca.of 1)).2,ops,some (Jb.new o),true,said⟩ p):Fin Q (c+1) (n+1) ⟨l,.idle x,ops,none,false,said⟩ p:=by
 subst ho
 exact Fin.iG (x:=x) rfl (.inr ⟨rfl,hl,hg⟩) h
theorem Fin.leave (h:Fin Q c n ⟨(RT.begin l (Ca.of 2)).1,(RT.begin l (Ca.of 2)).2,ops,none,false,said⟩ p):Fin Q (c+1) (n+1) ⟨l,.idle x,ops,none,true,said⟩ p :=
 Fin.iG (x:=x) rfl (.inl rfl) h
end
theorem Ug (tag:Int) (st:List Nd):(dL tag st).dS=dL 0 st:=by cases st <;> rfl
theorem KI (tag:Int) (st:List Nd):(dL tag st).tag=tag:=by cases st <;> rfl
theorem Xf (tag k:Int) (st:List Nd):(⟨(dL k st).slot,(dL k st).gen,tag,0,false⟩:Wd)=dL tag st:=by cases st <;> rfl
theorem sN {k s g f:Int} {o w:Wd} (h:1≤k∧k≤11):({Ca.of k with slot:=s,gen:=g,field:=f,old:=o,new:=w}:Ca).OK:=by
 have h9:(0:Int)≤0∧(0:Int)<9:=by decide
 exact ⟨h.1,h.2,h9.1,h9.2,h9.1,h9.2⟩
section
variable {Q:Vk→PS→Prop} {c n:Nat} {l:Lo} {ops:List Op} {said:List (Int × Int)} {p:PS} {y:Rp} {tag m val:Int} {st:List Nd}
theorem Uh {N:List Nt} (ho:l.OK) (hS:iM p tag st N) (hF:lY p m) (hm:0<m):CR (fun l' x p'=>∃nn g,x=⟨⟨nn,g,0,0,false⟩,true⟩∧iM p' tag st N∧lY p' (m-1)∧Hand p' st N nn g∧Lk l l') 2 (RT.begin l (Ca.of 8)).1 (RT.begin l (Ca.of 8)).2 p:=by
 have key:∀{q:PS} (w:Wd),Ap p q→CR (fun l' x p'=>∃nn g,x=⟨⟨nn,g,0,0,false⟩,true⟩∧iM p' tag st N∧lY p' (m-1)∧Hand p' st N nn g∧Lk l l') 1 l (.one ⟨4,0,0,0,Wd.zero,w⟩) q:=fun {q} w hq=>by
  have hq1:=hq.trans (Ap.steps q (q.steps+1))
  obtain ⟨nn,g,e,h1,h2,h3⟩:=Rn (hS.ap hq1) (hF.ap hq1) hm w.num
  refine CR.acc (t:=.one _) (show (1:Int)≠0 by decide) WG (CR.idle ⟨nn,g,e,h1,h2,h3,Lk.refl l⟩)
 have e:RT.begin l (Ca.of 8)=if l.bJ then (l,.wT) else (l,.one ⟨4,0,0,0,Wd.zero,Wd.zero⟩):=rfl
 rw [e]
 refine CR.ite (fun _=>?_) fun _=>(key _ (Ap.refl p)).more (by decide)
 exact CR.acc (t:=.wT) (show (8:Int)≠0 by decide) (oJ hS.nb) (key _ (Ap.steps p _))
theorem Ui (ho:l.OK) (hl:said.length<ops.length) (hop:ops.getD said.length ⟨0,0,0,0⟩=eO val) (hv:0≤val∧val≤1000) (hS:iM p tag st l.notes) (hF:lY p m) (hm:0<m) (hc:10≤c∧c≤100)
  (K:∀l' x p' s g,iM p' (tag+1) (⟨s,g,val⟩ :: st) l'.notes→lY p' (m-1)→Lk l l'→Fin Q 100 n ⟨l',.idle x,ops,none,false,said ++ [(1,0)]⟩ p'):Fin Q c (n+30) ⟨l,.idle y,ops,none,false,said⟩ p:=by
 have hz:∀{k:Int},k≠12→(Ca.of k).kind≠12:=id
 refine Fin.more (n:=n+10+1+1+2+2+2+2+2+1+2+1) (c:=2+1) ?_ (by omega) (by omega)
 refine Fin.start hl hop ?_ ?_
 ·exact ⟨rfl,rfl,hv.1,by show val≤1073741824;omega⟩
 refine Fin.call (d:=2) (v:=⟨_,_,ops,some (Jb.new (eO val)),true,said⟩) (Cw ho hS.nb) (by decide) fun l1 x1 p1 ⟨a1,a2⟩=>?_
 have ho1:l1.OK:=a2.sm.ok ho
 have hS1:iM p1 tag st l1.notes:=by rw [a2.notes];exact hS.ap a1
 have hF1:=hF.ap a1
 refine Fin.next (j:=Jb.new (eO val)) (j':={Jb.new (eO val) with at':=1}) (ca:=Ca.of 8) rfl (by decide) (zD (by decide)) ?_
 refine Fin.call (d:=2) (v:=⟨_,_,ops,some {Jb.new (eO val) with at':=1},true,said⟩) (Uh ho1 hS1 hF1 hm) (by decide) ?_
 rintro l2 x2 p2 ⟨nn,g,rfl,hS2,hF2,hH2,b2⟩
 have hn2:l2.notes=l1.notes:=b2.notes
 have e3:=Ew (p:=p2) hH2.has (f:=1) (by decide) Wd.zero (Wd.dK val)
 obtain ⟨kM,hF3,hH3,c3,d3⟩:=MC (hS2.ap (Ap.steps p2 (p2.steps+1))) (hF2.ap (Ap.steps p2 (p2.steps+1))) (hH2.ap (Ap.steps p2 (p2.steps+1))) 1 (Wd.dK val)
 refine Fin.pF (j':={Jb.new (eO val) with at':=2,node:=⟨nn,g,0,0,false⟩}) (ca:=Vn ⟨nn,g,0,0,false⟩ 1 (Wd.dK val)) rfl (show (4:Int)≠12 by decide) (sN (by decide)) rfl e3 ?_
 generalize hp3:PS.put {p2 with steps:=p2.steps+1} nn 1 (Wd.dK val)=p3 at kM hF3 hH3 c3 d3
 have e4:=pE (p:=p3) kM.nb (f:=0) (by decide)
 refine Fin.more (c:=149+1) ?_ (Nat.le_refl _) (by decide)
 refine Fin.pF (j':={Jb.new (eO val) with at':=3,node:=⟨nn,g,0,0,false⟩}) (ca:=Ca.of 3) rfl (by decide) (zD (by decide)) rfl e4 ?_
 have Rq:=kM.ap (Ap.steps p3 (p3.steps+1))
 have hF4:=hF3.ap (Ap.steps p3 (p3.steps+1))
 have KJ:=hH3.ap (Ap.steps p3 (p3.steps+1))
 have hr:p3.bd (0:Int).toNat=dL tag st:=kM.root
 rw [hr]
 have c4:({p3 with steps:=p3.steps+1}:PS).cell (nn-1).toNat 1=Wd.dK val:=c3
 generalize ({p3 with steps:=p3.steps+1}:PS)=p4 at Rq hF4 KJ c4
 have e5:=Ew (p:=p4) KJ.has (f:=2) (by decide) Wd.zero (dL tag st).dS
 obtain ⟨hS5,VD,hH5,c5,d5⟩:=MC (Rq.ap (Ap.steps p4 (p4.steps+1))) (hF4.ap (Ap.steps p4 (p4.steps+1))) (KJ.ap (Ap.steps p4 (p4.steps+1))) 2 (dL tag st).dS
 refine Fin.more (c:=149+1) ?_ (Nat.le_refl _) (by decide)
 refine Fin.pF (j':={Jb.new (eO val) with at':=4,node:=⟨nn,g,0,0,false⟩,top:=dL tag st}) (ca:=Vn ⟨nn,g,0,0,false⟩ 2 (dL tag st).dS) rfl (show (4:Int)≠12 by decide) (sN (by decide)) rfl e5 ?_
 have c5':(PS.put {p4 with steps:=p4.steps+1} nn 2 (dL tag st).dS).cell (nn-1).toNat 1=Wd.dK val:=(d5 1 (by decide)).trans c4
 generalize PS.put {p4 with steps:=p4.steps+1} nn 2 (dL tag st).dS=p5 at hS5 VD hH5 c5 c5'
 have e6:=GY (p:=p5) (w:=⟨nn,g,(dL tag st).tag+1,0,false⟩) hS5.nb hS5.root
 refine Fin.more (c:=149+1) ?_ (Nat.le_refl _) (by decide)
 refine Fin.pF (j':={Jb.new (eO val) with at':=5,node:=⟨nn,g,0,0,false⟩,top:=dL tag st}) (ca:=Vo (dL tag st) ⟨nn,g,0,0,false⟩) rfl (show (5:Int)≠12 by decide) (sN (s:=0) (g:=0) (f:=0) (by decide)) rfl e6 ?_
 have G5:=Ue (v:=val) (hS5.ap (Ap.steps p5 (p5.steps+1))) (hH5.ap (Ap.steps p5 (p5.steps+1))) c5' (c5.trans (Ug tag st))
 rw [←KI tag st] at G5
 have hF6:lY (PS.put {p5 with steps:=p5.steps+1} 0 0 ⟨nn,g,(dL tag st).tag+1,0,false⟩) (m-1):=⟨VD.nf,VD.fr,VD.one⟩
 generalize PS.put {p5 with steps:=p5.steps+1} 0 0 ⟨nn,g,(dL tag st).tag+1,0,false⟩=p6 at G5 hF6
 refine Fin.more (c:=100+1+1) (n:=n+10+1+1) ?_ (by omega) (by decide)
 refine Fin.answer (j':={Jb.new (eO val) with at':=-1,node:=⟨nn,g,0,0,false⟩,top:=dL tag st,last:={Ca.of 12 with code:=1,val:=0}}) (co:=1) (va:=0) rfl hl ?_
 refine Fin.leave ?_
 have ho2:l2.OK:=b2.sm.ok ho1
 refine Fin.call (d:=10) (v:=⟨_,_,ops,none,false,said ++ [(1,0)]⟩) (xz 9 ho2 G5.nb 0 rfl) (by decide) fun l3 x3 p7 ⟨q1,q2⟩=>?_
 refine K l3 x3 p7 nn g ?_ (hF6.ap q1) (a2.trans (b2.trans q2))
 rw [q2.notes,hn2]
 rw [KI] at G5
 exact G5.ap q1
theorem Xg {x:Nd} (ho:l.OK) (hl:said.length<ops.length) (hop:ops.getD said.length ⟨0,0,0,0⟩=ek) (hS:iM p tag (x :: st) l.notes) (hc:10≤c∧c≤100) {b:Nat} (hb:l.notes.length≤b)
  (K:∀l' y p',iM p' (tag+1) st l'.notes→l'.notes.length≤l.notes.length+1→Sm l l'→Fin Q 100 n ⟨l',.idle y,ops,none,false,said ++ [(1,x.v)]⟩ p'):Fin Q c (n+110+b) ⟨l,.idle y,ops,none,false,said⟩ p:=by
 have hs0:x.s≠0:=fun e=>by have:=(hS.node x (List.mem_cons_self ..)).1.1.1;omega
 refine Fin.more (n:=n+10+1+1+(70+b)+1+2+2+2+5+1+2+1) (c:=2+1) ?_ (by omega) (by omega)
 refine Fin.start hl hop (show ek.dF by decide) ?_
 refine Fin.call (d:=2) (v:=⟨_,_,ops,some (Jb.new ek),true,said⟩) (Cw ho hS.nb) (by decide) fun l1 x1 p1 ⟨a1,a2⟩=>?_
 have ho1:l1.OK:=a2.sm.ok ho
 have hS1:iM p1 tag (x :: st) l.notes:=hS.ap a1
 refine Fin.next (c:=1) (j:=Jb.new ek) (j':={Jb.new ek with at':=1}) (ca:=Ca.of 6) rfl (by decide) (zD (by decide)) ?_
 refine Fin.call (d:=5) (v:=⟨_,_,ops,some {Jb.new ek with at':=1},true,said⟩) (Mw ho1 hS1.nb hS1.kQ) (by decide) ?_
 rintro l2 x2 p2 ⟨⟨b1,b2⟩,rfl⟩
 rw [hS1.root]
 have hS2:=hS1.ap b1
 have ho2:l2.OK:=b2.sm.ok ho1
 have h2:=hS2.node x (List.mem_cons_self ..)
 have e3:=GZ h2.1 (f:=2) (by decide)
 rw [show p2.cell (x.s-1).toNat (2:Int).toNat=dL 0 st from hS2.link x st (List.suffix_refl _)] at e3
 have n3:({Jb.new ek with at':=1}:Jb).next ⟨dL tag (x :: st),true⟩=({Jb.new ek with at':=2,top:=dL tag (x :: st)},QS (dL tag (x :: st)) 2):=by
  show (if x.s=0 then _ else _)=_
  rw [if_neg hs0]
  rfl
 refine Fin.pF (c:=0) n3 (show (3:Int)≠12 by decide) (sN (by decide)) rfl e3 ?_
 have kM:=hS2.ap (Ap.steps p2 (p2.steps+1))
 generalize ({p2 with steps:=p2.steps+1}:PS)=p3 at kM
 have e4:=GY (p:=p3) (w:=dL (tag+1) st) kM.nb kM.root
 have n4:({Jb.new ek with at':=2,top:=dL tag (x :: st)}:Jb).next ⟨dL 0 st,true⟩=({Jb.new ek with at':=3,top:=dL tag (x :: st)},{Ca.of 5 with old:=dL tag (x :: st),new:=dL (tag+1) st}):=by
  have:(⟨(dL 0 st).slot,(dL 0 st).gen,tag+1,0,false⟩:Wd)=dL (tag+1) st:=Xf ..
  rw [←this]
  rfl
 refine Fin.more (c:=149+1) ?_ (Nat.le_refl _) (by decide)
 refine Fin.pF n4 (show (5:Int)≠12 by decide) (sN (s:=0) (g:=0) (f:=0) (by decide)) rfl e4 ?_
 obtain ⟨Rq,KJ,c4⟩:=Xe (kM.ap (Ap.steps p3 (p3.steps+1)))
 generalize PS.put {p3 with steps:=p3.steps+1} 0 0 (dL (tag+1) st)=p4 at Rq KJ c4
 have e5:=GZ KJ.has (f:=1) (by decide)
 rw [show p4.cell (x.s-1).toNat (1:Int).toNat=Wd.dK x.v from c4] at e5
 refine Fin.more (c:=149+1) ?_ (Nat.le_refl _) (by decide)
 refine Fin.pF (j':={Jb.new ek with at':=4,top:=dL tag (x :: st)}) (ca:=QS (dL tag (x :: st)) 1) rfl (show (3:Int)≠12 by decide) (sN (by decide)) rfl e5 ?_
 have hS5:=Rq.ap (Ap.steps p4 (p4.steps+1))
 have hH5:=KJ.ap (Ap.steps p4 (p4.steps+1))
 generalize ({p4 with steps:=p4.steps+1}:PS)=p5 at hS5 hH5
 refine Fin.more (c:=148+1+1) ?_ (Nat.le_refl _) (by decide)
 refine Fin.next (j':={Jb.new ek with at':=5,top:=dL tag (x :: st),val:=x.v}) (ca:={Ca.of 10 with old:=dL tag (x :: st)}) rfl (show (10:Int)≠12 by decide) (sN (s:=0) (g:=0) (f:=0) (by decide)) ?_
 have hn2:l2.notes=l.notes:=b2.notes.trans a2.notes
 refine Fin.call (d:=70+b) (v:=⟨_,_,ops,some {Jb.new ek with at':=5,top:=dL tag (x :: st),val:=x.v},true,said⟩) (Rm (Xd (tag+1) st (l.notes.length+1)) ho2 (fun bb d=>by rw [hn2];exact ⟨Uf hS5 hH5 ⟨rfl,rfl⟩ bb d,by simp⟩) (by rw [hn2];omega)) (by decide) fun l3 x3 p6 hq=>?_
 obtain ⟨⟨G5,hl6⟩,hm6⟩:=hq
 refine Fin.more (c:=100+1+1) (n:=n+10+1+1) ?_ (by omega) (by decide)
 refine Fin.answer (j':={Jb.new ek with at':=-1,top:=dL tag (x :: st),val:=x.v,last:={Ca.of 12 with code:=1,val:=x.v}}) (co:=1) (va:=x.v) rfl hl ?_
 refine Fin.leave ?_
 have ho3:l3.OK:=hm6.ok ho2
 refine Fin.call (d:=10) (v:=⟨_,_,ops,none,false,said ++ [(1,x.v)]⟩) (xz 9 ho3 G5.nb 0 rfl) (by decide) fun l4 x4 p7 ⟨q1,q2⟩=>?_
 refine K l4 x4 p7 ?_ (by rw [q2.notes];exact hl6) (a2.sm.trans (b2.sm.trans (hm6.trans q2.sm)))
 rw [q2.notes]
 exact G5.ap q1
theorem Uj (ho:l.OK) (hl:said.length<ops.length) (hop:ops.getD said.length ⟨0,0,0,0⟩=ek) (hS:iM p tag [] l.notes) (hc:10≤c∧c≤100)
  (K:∀l' y p',iM p' tag [] l'.notes→Sm l l'→Fin Q 0 n ⟨l',.idle y,ops,none,false,said ++ [(2,0)]⟩ p'):Fin Q c (n+30) ⟨l,.idle y,ops,none,false,said⟩ p:=by
 refine Fin.more (n:=n+10+1+1+5+1+2+1) (c:=3+1) ?_ (by omega) (by omega)
 refine Fin.start hl hop (show ek.dF by decide) ?_
 refine Fin.call (d:=2) (v:=⟨_,_,ops,some (Jb.new ek),true,said⟩) (Cw ho hS.nb) (by decide) fun l1 x1 p1 ⟨a1,a2⟩=>?_
 have ho1:l1.OK:=a2.sm.ok ho
 have hS1:iM p1 tag [] l.notes:=hS.ap a1
 refine Fin.next (c:=2) (j:=Jb.new ek) (j':={Jb.new ek with at':=1}) (ca:=Ca.of 6) rfl (by decide) (zD (by decide)) ?_
 refine Fin.call (d:=5) (v:=⟨_,_,ops,some {Jb.new ek with at':=1},true,said⟩) (Mw ho1 hS1.nb hS1.kQ) (by decide) ?_
 rintro l2 x2 p2 ⟨⟨b1,b2⟩,rfl⟩
 rw [hS1.root]
 have hS2:=hS1.ap b1
 have ho2:l2.OK:=b2.sm.ok ho1
 refine Fin.answer (c:=1) (j':={Jb.new ek with at':=-1,top:=dL tag [],last:={Ca.of 12 with code:=2,val:=0}}) (co:=2) (va:=0) rfl hl ?_
 refine Fin.leave ?_
 refine Fin.call (d:=10) (v:=⟨_,_,ops,none,false,said ++ [(2,0)]⟩) (xz 9 ho2 hS2.nb 0 rfl) (by decide) fun l4 x4 p7 ⟨q1,q2⟩=>?_
 refine K l4 x4 p7 ?_ (a2.sm.trans (b2.sm.trans q2.sm))
 rw [q2.notes,show l2.notes=l1.notes from b2.notes,a2.notes]
 exact hS2.ap q1
theorem Uk {α:Type} (a b:List α) (x d:α):(a ++ x :: b).getD a.length d=x:=by
 rw [List.getD_eq_getElem?_getD,List.getElem?_append_right (Nat.le_refl _),Nat.sub_self]
 rfl
theorem AR:∀(rest done:List Int) {c:Nat} {l:Lo} {p:PS} {y:Rp} {tag m:Int} {st:List Nd},l.OK→(∀v∈rest,0≤v∧v≤1000)→iM p tag st l.notes→lY p m→rest.length≤m→st.map Nd.v=done.reverse→10≤c∧c≤100 →
  (∀l' y p' tag' st',iM p' tag' st' l'.notes→Lk l l'→st'.map Nd.v=(done ++ rest).reverse→Fin Q 10 n ⟨l',.idle y,(done ++ rest).map eO,none,false,List.replicate (done ++ rest).length (1,0)⟩ p') →
  Fin Q c (n+30 * rest.length) ⟨l,.idle y,(done ++ rest).map eO,none,false,List.replicate done.length (1,0)⟩ p
 | [],done,c,l,p,y,tag,m,st,ho,hv,hS,hF,hm,hst,hc,K=>by
  have:=K l y p tag st hS (Lk.refl l) (by rw [List.append_nil];exact hst)
  rw [List.append_nil] at this
  rw [List.append_nil]
  exact this.more (by simp) hc.1
 | v :: rest,done,c,l,p,y,tag,m,st,ho,hv,hS,hF,hm,hst,hc,K=>by
  have e:30 * (v :: rest).length=30 * rest.length+30:=by rw [List.length_cons];omega
  rw [e,←Nat.add_assoc]
  refine Ui (val:=v) (m:=m) ho ?_ ?_ (hv v (List.mem_cons_self ..)) hS hF (by rw [List.length_cons] at hm;omega) hc fun l' x p' s g hS' hF' hL=>?_
  ·simp
  ·rw [List.length_replicate,List.map_append,List.map_cons]
   have:=Uk (done.map eO) (rest.map eO) (eO v) ⟨0,0,0,0⟩
   rwa [List.length_map] at this
  ·have hd:done ++ v :: rest=(done ++ [v]) ++ rest:=by simp
   rw [hd] at K ⊢
   have hr:List.replicate done.length ((1:Int),(0:Int)) ++ [(1,0)]=List.replicate (done ++ [v]).length (1,0):=by
    rw [List.length_append,List.length_singleton,List.replicate_succ']
   rw [hr]
   refine (AR rest (done ++ [v]) (c:=100) (m:=m-1) (hL.sm.ok ho) (fun u hu=>hv u (List.mem_cons_of_mem _ hu)) hS' hF' (by rw [List.length_cons] at hm;omega) ?_ (by decide) fun l2 y2 p2 Ul st2 g1 g2 g3=>K l2 y2 p2 Ul st2 g1 (hL.trans g2) g3)
   rw [List.map_cons,hst,List.reverse_append]
   rfl
theorem KL {k:Nat}:∀(st:List Nd) (said:List (Int × Int)) {c:Nat} {l:Lo} {p:PS} {y:Rp} {tag:Int} {b:Nat},l.OK→iM p tag st l.notes→said.length+st.length+1=k→l.notes.length+st.length≤b→10≤c∧c≤100 →
  (∀l' y p' tag',iM p' tag' [] l'.notes→Sm l l'→Fin Q 0 n ⟨l',.idle y,List.replicate k ek,none,false,said ++ st.map (fun x=>(1,x.v)) ++ [(2,0)]⟩ p') →
  Fin Q c (n+30+(110+b) * st.length) ⟨l,.idle y,List.replicate k ek,none,false,said⟩ p
 | [],said,c,l,p,y,tag,b,ho,hS,hk,hb,hc,K=>by
  have hk':said.length+1=k:=hk
  refine Uj (tag:=tag) ho ?_ ?_ hS hc fun l' y' p' g1 g2=>?_
  ·rw [List.length_replicate];omega
  ·rw [List.getD_eq_getElem?_getD,List.getElem?_replicate,if_pos (by omega)]
   rfl
  ·have:=K l' y' p' tag g1 g2
   rw [List.map_nil,List.append_nil] at this
   exact this
 | x :: st,said,c,l,p,y,tag,b,ho,hS,hk,hb,hc,K=>by
  have hk':said.length+(st.length+1)+1=k:=hk
  have hb':l.notes.length+(st.length+1)≤b:=hb
  have e:n+30+(110+b) * (x :: st).length=n+30+(110+b) * st.length+110+b:=by
   rw [List.length_cons,Nat.mul_succ]
   omega
  rw [e]
  refine Xg (b:=b) ho ?_ ?_ hS hc (by omega) fun l' y' p' g1 g3 g2=>?_
  ·rw [List.length_replicate];omega
  ·rw [List.getD_eq_getElem?_getD,List.getElem?_replicate,if_pos (by omega)]
   rfl
  ·refine KL st (said ++ [(1,x.v)]) (c:=100) (tag:=tag+1) (b:=b) (g2.ok ho) g1 (by simp;omega) (by omega) (by decide) fun l2 y2 p2 Ul h1 h2=>?_
   have:=K l2 y2 p2 Ul h1 (g2.trans h2)
   rw [List.map_cons] at this
   rw [List.append_assoc said [(1,x.v)],List.singleton_append]
   exact this
end
end Go.Proofs.YthomdlajobnmnaaGreatDoor
