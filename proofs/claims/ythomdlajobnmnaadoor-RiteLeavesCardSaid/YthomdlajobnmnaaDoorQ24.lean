/- part 24 of the proof -/
import Derived.Test.YthomdlajobnmnaaDoorQ10
import Derived.Test.YthomdlajobnmnaaDoorQ19
import Derived.Test.YthomdlajobnmnaaDoorQ21
set_option linter.unusedSimpArgs false
set_option linter.unusedVariables false
namespace Go.Proofs.YthomdlajobnmnaaDoor
open Go.Rex
def Kt (b:SB):SB:={b with own:=false,ro:=true}
def Ku:List SB:=iy.map Kt
def l9:eH:={f:=16,nv:=13,gl:=gL zz 0,args:=[.one (.ptr {aI:=8}),.agg [.int .i64 (.lit 0),.int .i64 (.lit 0),iv 12]],hp:=gz ++ (Ef 0 2 8).map Kt,jL:=18,ret:=.je [.agg (mJ 13),.one (.bool (.lit true))],hp':=List.replicate 13 dJ}
end Go.Proofs.YthomdlajobnmnaaDoor
namespace Go.Proofs.YthomdlajobnmnaaDoor
open Go.RowKit Go.Rex
theorem YL {ρ:Env} {ν:Nat→Addr} {hp:List SB} {w:World} (ho:nV hp=true) (hm:(hp.all fun b=>!b.iU)=true) (h:aN ρ ν hp w):aN ρ ν (hp.map Kt) w:=by
 have at_:∀(k:Nat) (sb:SB),(hp.map Kt)[k]?=some sb→∃b,hp[k]?=some b∧sb=Kt b:=fun k sb hk=>by
  rw [List.getElem?_map,Option.map_eq_some_iff] at hk
  obtain ⟨b,hb,rfl⟩:=hk
  exact ⟨b,hb,rfl⟩
 refine ⟨fun i j a b hi hj _ _ ra _=>?_,fun k sb hk _ hr=>?_,fun k sb hk hd _=>?_⟩
 ·obtain ⟨a',_,rfl⟩:=at_ i a hi
  cases ra
 ·obtain ⟨b',_,rfl⟩:=at_ k sb hk
  cases hr
 ·obtain ⟨b,hb,rfl⟩:=at_ k sb hk
  have hd':b.dead ρ=false:=hd
  obtain ⟨g1,cs,g2,g3⟩:=h.aI k b hb hd' (qX ho hb (SB.dO hd')).2
  have hmb:b.iU=false:=by
   have:=List.all_eq_true.1 hm b (List.mem_of_getElem? hb)
   simpa using this
  have hc:=g2.cells hmb
  refine ⟨⟨(Array.getElem?_eq_some_iff.1 hc).1,fun _ _=>⟨cs,b.t,hc⟩⟩,cs,⟨g3.un,g3.size,g3.cap,g3.ex,g3.sg⟩,fun p v hp'=>?_⟩
  rw [g1]
  have e:(⟨(ν k).block,0,none⟩:Addr).add p=⟨(ν k).block,p,none⟩:=by
   unfold Addr.add
   split
   ·rename_i h;subst h;rfl
   ·simp
  rw [e]
  unfold World.cell?
  rw [hc]
  exact hp'
noncomputable def U5:Ex:={sched:=sched,loops:=[],cons:=[],fin:=l9}
def Mh:Out :=
 .ob (.aA (.lit 0) (.var 0)) <|
 .fin {lo:=13,az:=13,iv:=[(16,.cell 8 (.var 12) (.lit 0) 3),(15,.cell 8 (.var 12) (.lit 0) 2),(14,.cell 8 (.var 12) (.lit 0) 1),(13,.cell 8 (.var 12) (.lit 0) 0)],bv:=[(17,.cell 8 (.var 12) (.lit 0) 4)]}
def Zn:Kn:=[(.aA (.lit 0) (.var 12),true),(.bS (.var 12) (.var 0),true)]
theorem TH:exec tab U5 8000 [] (gI l9.f l9.nv Zn l9.gl l9.hp l9.args)=Mh:=by kernel_rfl
def Wl (ρ:Env):Prop:=0≤ρ.iv 12∧ρ.iv 12<ρ.iv 0
def TJ (ρ:Env):Prop:=av ρ 13=aF (ρ.ic 8 (ρ.iv 12).toNat 0) (ρ.bc 8 (ρ.iv 12).toNat 0)
theorem TK:bF Tryd.prog l9 Wl TJ :=
 dP fC (E:=U5) (cs:=[]) rfl (fun k pre post h=>by cases h) df rfl TH (by kernel_rfl) (fun ρ h p hp=>by
   replace h:0≤ρ.iv 12∧ρ.iv 12<ρ.iv 0:=h
   simp only [Zn,List.mem_cons,List.not_mem_nil,or_false] at hp
   rcases hp with rfl | rfl
   · exact decide_eq_true h.1
   · exact decide_eq_true h.2) fun ρ h=>by
  replace h:0≤ρ.iv 12∧ρ.iv 12<ρ.iv 0:=h
  unfold Mh
  refine Sat.ob (decide_eq_true (show 0≤ρ.iv 0 by omega)) (Sat.fin ?_)
  rfl
theorem Yp {w:World} {ρ:Env} {ν:Nat→Addr} (h:aN ρ ν iy w):aN ρ ν Ku w:=YL Ev (by kernel_rfl) h
theorem Wm {w:World} {aP:Addr} {p:PS} {B:Nat→Prop} {iG:Nat→Addr} {f:Int} (hs:qG w iG) (hp:lU w aP p B) (h0:0≤f) (h1:f<p.nb) :
  Calls Tryd.prog 16 #[.pointer (some aP),.agg #[.int .i64 0,.int .i64 0,.int .i64 f]] w fun ev w'=>ev=.returned (.tuple #[UR (p.bd f.toNat),.bool true])∧Nw w w':=by
 obtain ⟨dB,fG,rfl,QO,rfl,hpo,hpb⟩:=hp.ex
 obtain ⟨⟨GU,hsh⟩,hgl⟩:=hs
 obtain ⟨q,hq⟩:∃q:Env,q={dB with iv:=fun i=>if i=12 then f else dB.iv i}:=⟨_,rfl⟩
 obtain ⟨ν,kV⟩:∃ν,ν=iJ gz.length iG fG:=⟨_,rfl⟩
 have hro:aN q fG Ku w:=aN.ext (nv:=12) (n:=5) ⟨fun i hi=>by rw [hq];exact if_neg (by omega),fun _ _=>by rw [hq],fun _ _=>by rw [hq],fun _ _=>by rw [hq],fun _ _=>by rw [hq],fun _ _=>by rw [hq],fun _ _=>rfl⟩ (by kernel_rfl) (by decide) (Yp QO)
 have hsh':aN q ν gz w:=aN.ext (nv:=0) (n:=8) ⟨fun i h=>absurd h (Nat.not_lt_zero _),fun i h=>absurd h (Nat.not_lt_zero _),fun i h=>absurd h (Nat.not_lt_zero _),fun i h=>absurd h (Nat.not_lt_zero _),fun i h=>absurd h (Nat.not_lt_zero _),fun i h=>absurd h (Nat.not_lt_zero _),fun i h=>by rw [kV,nC _ _ _ (Nat.lt_of_lt_of_le h (by decide))]⟩ (by kernel_rfl) (by decide) hsh
 have e1:(fun k=>ν (gz.length+k))=fG:=by rw [kV];exact funext fun k=>j6 ..
 have hall:=hsh'.app (f:=id) (hq:=Ku) (by rw [e1];exact hro) fun i j a b hi hj _ _ hr _=>by
  have ha:a.ro=true:=by
   have:(gz.all fun b=>b.ro)=true:=by kernel_rfl
   exact List.all_eq_true.1 this a (List.mem_of_getElem? hi)
  have hb:b.ro=true:=by
   have:(Ku.all fun b=>b.ro)=true:=by kernel_rfl
   exact List.all_eq_true.1 this b (List.mem_of_getElem? hj)
  rw [ha,hb] at hr
  rcases hr with h | h <;> cases h
 have eL:l9.hp=gz ++ Ku.map (SB.aU id (gz.length+·)):=by kernel_rfl
 rw [←eL] at hall
 have hG:jq ν l9.gl:=by
  refine jq.ext (nv:=0) (n:=8) (ρ:=GU) (ρ':=q) (ν:=iG) ⟨fun i h=>absurd h (Nat.not_lt_zero _),fun i h=>absurd h (Nat.not_lt_zero _),fun i h=>absurd h (Nat.not_lt_zero _),fun i h=>absurd h (Nat.not_lt_zero _),fun i h=>absurd h (Nat.not_lt_zero _),fun i h=>absurd h (Nat.not_lt_zero _),fun i h=>?_⟩ (by kernel_rfl) hgl
  rw [kV,nC _ _ _ (Nat.lt_of_lt_of_le h (by decide))]
 have e12:q.iv 12=f:=by rw [hq];rfl
 have e0:q.iv 0=dB.iv 0:=by rw [hq];rfl
 have hrun:=TK.run q ν w hall hG ⟨by show 0≤q.iv 12;rw [e12];exact h0,by show q.iv 12<q.iv 0;rw [e12,e0];exact h1⟩
 have hargs:(l9.args.map (·.den q ν)).toArray=#[.pointer (some (fG 0)),.agg #[.int .i64 0,.int .i64 0,.int .i64 f]]:=by
  rw [←e12,show fG 0=ν 8 by rw [←e1];rfl]
  rfl
 rw [hargs] at hrun
 refine Calls.mono hrun ?_
 rintro ev w' ⟨ρ',aQ,hA,rfl,jf,hwr,how,q1⟩
 replace q1:av ρ' 13=aF (ρ'.ic 8 (ρ'.iv 12).toNat 0) (ρ'.bc 8 (ρ'.iv 12).toNat 0):=q1
 refine ⟨?_,hwr.os,hwr.tape,hwr.output,hwr.size,fun k hk _=>hwr.block k hk fun h=>qF (by kernel_rfl) h⟩
 have e2:(ag dB (dB.iv 0) (dB.iv 1) 2).bd f.toNat=av ρ' 13:=by
  rw [q1,hA.iv 12 (by decide),hA.ic 8 (by decide),hA.bc 8 (by decide),e12,hq]
  rfl
 rw [e2]
 rfl
theorem Wn {k:Int} (h:0≤k∧k<6) (w:World):Calls Tryd.prog 24 #[.int .i64 k] w fun ev w'=>ev=.returned (.tuple #[.agg #[.int .i64 0,.int .i64 0,.int .i64 (79+k)],.nilIface])∧Nw w w':=by
 refine Calls.mono (Cg.run (L9 fun _=>k) (fun _=>⟨0,0,none⟩) w Ew ⟨fun g k _ h=>(by cases h),fun g g' k k' _ _ h=>(by cases h)⟩ h) ?_
 rintro ev w' ⟨ρ',aQ,hA,rfl,jf,hwr,how,q1⟩
 refine ⟨?_,hwr.os,hwr.tape,hwr.output,hwr.size,fun k hk _=>hwr.block k hk fun h=>qF (by kernel_rfl) h⟩
 show Ending.returned (.tuple #[.agg #[.int .i64 0,.int .i64 0,.int .i64 (79+ρ'.iv 0)],.nilIface])=_
 rw [hA.iv 0 (by decide)]
 rfl
theorem Wo {k i:Int} (h:(0≤k∧k<6)∧0≤i∧i<9) (w:World):Calls Tryd.prog 25 #[.int .i64 k,.int .i64 i] w fun ev w'=>ev=.returned (.tuple #[.agg #[.int .i64 0,.int .i64 0,.int .i64 (25+k * 9+i)],.nilIface])∧Nw w w':=by
 refine Calls.mono (Cf.run (L9 fun j=>if j=0 then k else i) (fun _=>⟨0,0,none⟩) w Ew ⟨fun g k _ h=>(by cases h),fun g g' k k' _ _ h=>(by cases h)⟩ h) ?_
 rintro ev w' ⟨ρ',aQ,hA,rfl,jf,hwr,how,q1⟩
 refine ⟨?_,hwr.os,hwr.tape,hwr.output,hwr.size,fun k hk _=>hwr.block k hk fun h=>qF (by kernel_rfl) h⟩
 show Ending.returned (.tuple #[.agg #[.int .i64 0,.int .i64 0,.int .i64 (25+ρ'.iv 0 * 9+ρ'.iv 1)],.nilIface])=_
 rw [hA.iv 0 (by decide),hA.iv 1 (by decide)]
 rfl
theorem GZ {w:World} {b:Nat} {s:Int} (h:w.cell? ⟨b,18,none⟩=some (.int .i64 s)):Calls Tryd.prog 23 #[.pointer (some ⟨b,0,none⟩)] w fun e w'=>e=.returned (.bool (decide (s≠0)))∧w'=w:=by
 go_enter Tryd.func23,Tryd.ntmps23
 go_wp2
 go_ret
 by_cases hs:s=0 <;> simp [hs]
end Go.Proofs.YthomdlajobnmnaaDoor
namespace Go.Proofs.YthomdlajobnmnaaDoor
open Go.Rex
section
variable {n:Nat} {e:Int} {p p':PS} {T:Nat→Th} {own:Int→gQ} {A:Nat→Int} {i k:Nat} {h h':Th}
def Th.Ii (h:Th):Prop:=h.pc=0∧h.t.bg=0
def Quiet (n:Nat) (T:Nat→Th) (k:Nat):Prop:=(∀j,j<n→j≠k→(T j).Ii)∧(T k).pc=0
theorem ve (h0:h.t.bg=0):¬h.dn∧¬h.dK:=by
 obtain ⟨x,hx⟩:=RT.jo h0
 unfold Th.dn Th.dK
 rw [hx]
 exact ⟨id,id⟩
theorem Inv.YM (H:Inv n e p T own A) (hq:Quiet n T k) (hk:¬(T k).dn) {j m:Nat} (hj:j<n) (hm:m<9):p.bd (25+9 * j+m)=Wd.zero:=by
 have L:=H.loc j hj
 have hp:¬(T j).dn∧(T j).pc=0:=by
  by_cases hjk:j=k
  ·rw [hjk];exact ⟨hk,hq.2⟩
  ·exact ⟨(ve (hq.1 j hj hjk).2).1,(hq.1 j hj hjk).1⟩
 by_cases h0:m=0
 ·rw [h0,Nat.add_zero,L.kc hp.1]
  exact (L.off hp.2).1
 ·exact L.kz m h0 hm
theorem Inv.YN (H:Inv n e p T own A) (hq:Quiet n T k) (hk:¬(T k).dK) {j:Nat} (hj:j<n):p.bd (79+j)=Wd.zero:=by
 have L:=H.loc j hj
 have hp:¬(T j).dK∧(T j).pc=0:=by
  by_cases hjk:j=k
  ·rw [hjk];exact ⟨hk,hq.2⟩
  ·exact ⟨(ve (hq.1 j hj hjk).2).2,(hq.1 j hj hjk).1⟩
 rw [L.sc hp.1,(L.off hp.2).2]
 rfl
def Rest (e c:Int) (m:Nt):Prop:=e=4∧c≤m.dm
def AJ (e c:Int) (p:PS) (h:Th):Prop :=
 match h.t with
 | .idle _=>(e=4→p.aB=c+1)∧∀m∈h.l.notes,Rest e c m
 | .iT=>e=4∧p.aB=c
 | .bL ck seen=>(∀w∈seen,w=Wd.zero)∧(e=4→ck=dW c∧p.aB=c)
 | .iC ck=>ck=dW c∧p.aB=c
 | .dN=>p.aB=c+1
 | .bV d r=>(e=4→p.aB=c+1)∧∀m∈h.l.notes,m∈d :: r∨Rest e c m
 | _=>False
theorem QT {l:Lo} {ck:Wd} {seen:List Wd} {m:Nt} (hl:l.aj=e) (he:e=2∨e=3∨e=5) (hz:∀w∈seen,w=Wd.zero) (hm:1≤m.ref.slot):RT.kept l ck seen m=false:=by
 unfold RT.kept
 rcases he with h | h | h
 ·rw [if_pos (hl.trans h),List.any_eq_false]
  intro w hw
  rw [hz w hw]
  unfold RS.ow
  simp only [Wd.zero,beq_iff_eq]
  omega
 ·rw [if_neg (by omega),if_pos (hl.trans h),List.any_eq_false]
  intro w hw
  rw [hz w hw]
  unfold RS.qy
  simp [Wd.zero]
 ·rw [if_neg (by omega),if_neg (by omega),if_pos (hl.trans h),List.any_eq_false]
  intro w hw
  rw [hz w hw]
  unfold RS.oz RS.gN
  simp [Wd.zero,Sp.zero]
theorem TL {c:Int} {seen:List Wd} (hz:∀w∈seen,w=Wd.zero):RS.may c (seen.map RS.gN)=true:=by
 unfold RS.may
 rw [List.all_eq_true]
 intro s hs
 obtain ⟨w,hw,rfl⟩:=List.mem_map.1 hs
 rw [hz w hw]
 rfl
theorem Ez {x:Rp} {ck:Wd} {seen:List Wd} {c:Int} (hx:h'=h.with (RT.dQ h.l ck seen)) (hc:e=4→p.aB=c+1) (hk:∀m∈h.l.notes,RT.kept h.l ck seen m=true→Rest e c m):AJ e c p h':=by
 rcases lT (l:=h.l) (ck:=ck) (seen:=seen) with ⟨g1,g2⟩ | ⟨d,r,g1,g2⟩
 ·rw [hx,g1]
  exact ⟨hc,fun m hm=>hk m hm (g2 m hm)⟩
 ·rw [hx,g1]
  refine ⟨hc,fun m hm=>?_⟩
  cases wL:RT.kept h.l ck seen m with
  | true=>exact .inr (hk m hm wL)
  | false=>exact .inl (by rw [g2];exact List.mem_filter.2 ⟨hm,by rw [wL];rfl⟩)
theorem AJ.step (H:Inv n e p T own A) (hk:k<n) (hq:Quiet n T k) {c:Int} (hs:AJ e c p (T k)) (hb:(T k).t.bg≠0) {x:Rp} (ha:p.act ((T k).t.acc (T k).l)=(p',some x)):AJ e c p' ((T k).aJ x)∧(∀m∈((T k).aJ x).l.notes,m∈(T k).l.notes)∧((T k).aJ x).pc=0∧(e≠4→p'.aB=p.aB):=by
 have L:=H.loc k hk
 have h6:=H.n6
 have hsh:=L.jI
 unfold Th.sh at hsh
 unfold AJ at hs
 refine ⟨?_,?_,hq.2,?_⟩
 ·cases ht:(T k).t with
  | idle y=>rw [ht] at hb;exact absurd rfl hb
  | iT =>
   rw [ht] at hs ha
   have h1:=(lS H).symm.trans ha
   simp only [Prod.mk.injEq,Option.some.injEq] at h1
   have htk:(T k).aJ x={T k with l:=(T k).l,t:=.bL x.word []}:=Th.aW ht rfl
   rw [htk,←h1.1,←h1.2]
   exact ⟨fun w hw=>(by cases hw),fun _=>⟨by rw [hs.2],hs.2⟩⟩
  | bL ck seen =>
   rw [ht] at hs ha hsh
   obtain ⟨q,he,hlen,hck⟩:=hsh
   have U6:¬(T k).dn∧¬(T k).dK:=by unfold Th.dn Th.dK;rw [ht];exact ⟨id,id⟩
   have Tf:=L.nK
   have hz:∃b:Nat,(T k).l.base+seen.length=(b:Int)∧b<85∧p.bd b=Wd.zero:=by
    unfold Lo.base
    unfold Lo.all at hlen
    by_cases g:(T k).l.aZ
    ·rw [if_pos g] at hlen ⊢
     refine ⟨25+seen.length,by omega,by omega,?_⟩
     have:=H.YM hq U6.1 (j:=seen.length / 9) (m:=seen.length % 9) (by omega) (by omega)
     rwa [show 25+9 * (seen.length / 9)+seen.length % 9=25+seen.length by omega] at this
    ·rw [if_neg g] at hlen ⊢
     exact ⟨79+seen.length,by omega,by omega,H.YN hq U6.2 (by omega)⟩
   obtain ⟨b,hb1,hb2,hb3⟩:=hz
   have hal:p.act (Ac.load 0 0 ((T k).l.base+seen.length))=({p with steps:=p.steps+1},some ⟨p.bd b,true⟩):=by
    rw [hb1]
    have:=qD (p:=p) (s:=0) (g:=0) (f:=(b:Int)) (o:=Wd.zero) (w:=Wd.zero) (H.Cz (by omega) (by omega)) Inv.xY
    rw [qE,Int.toNat_natCast] at this
    exact this
   have h1:=hal.symm.trans ha
   simp only [Prod.mk.injEq,Option.some.injEq] at h1
   have hx:x.word=Wd.zero:=by rw [←h1.2];exact hb3
   have hzs:∀w∈seen ++ [x.word],w=Wd.zero:=fun w hw=>by
    rcases List.mem_append.1 hw with hw | hw
    ·exact hs.1 w hw
    ·rw [List.mem_singleton.1 hw,hx]
   rw [←h1.1]
   by_cases g:(seen.length:Int)+1<(T k).l.all
   ·have htk:(T k).aJ x={T k with l:=(T k).l,t:=.bL ck (seen ++ [x.word])}:=Th.aW ht (if_pos g)
    rw [htk]
    exact ⟨hzs,hs.2⟩
   ·by_cases g4:(T k).l.aj≠4
    ·have htk:(T k).aJ x=(T k).with (RT.dQ (T k).l ck (seen ++ [x.word])):=by
      unfold Th.aJ
      rw [ht]
      show (T k).with (if (seen.length:Int)+1<(T k).l.all then _ else if (T k).l.aj≠4 then _ else _:LR)=_
      rw [if_neg g,if_pos g4]
     have jQ:=L.ik
     have h5:=H.e5
     have he':e=2∨e=3∨e=5:=by clear hck;omega
     refine Ez (x:=x) htk (fun h=>absurd (jQ.trans h) g4) fun m hm wL=>?_
     obtain ⟨r1,_⟩:=H.oi.jU (o:=.note k) (w:=m.ref) ⟨m,hm,rfl⟩
     rw [QT jQ he' hzs r1] at wL
     cases wL
    ·have g4':(T k).l.aj=4:=by
      by_cases h:(T k).l.aj=4
      ·exact h
      ·exact absurd h g4
     have htk:(T k).aJ x={T k with l:=(T k).l,t:=.iC ck}:=Th.aW ht (by
       show (if (seen.length:Int)+1<(T k).l.all then _ else if (T k).l.aj≠4 then _ else if RS.may ck.num ((seen ++ [x.word]).map RS.gN)=true then _ else _:LR)=_
       rw [if_neg g,if_neg g4,if_pos (TL hzs)])
     rw [htk]
     exact hs.2 (L.ik.symm.trans g4')
  | iC ck =>
   rw [ht] at hs ha
   obtain ⟨rfl,hc⟩:=hs
   have h1:=(LW H (c:=c)).symm.trans ha
   rw [if_pos hc] at h1
   simp only [Prod.mk.injEq,Option.some.injEq] at h1
   have htk:(T k).aJ x={T k with l:=(T k).l,t:=.dN}:=Th.aW ht rfl
   rw [htk,←h1.1]
   show (p.cZ (p.steps+1) 24 (dW (p.aB+1))).aB=c+1
   rw [PS.aB,wI,hc]
   rfl
  | dN =>
   rw [ht] at hs ha
   have h1:=(lS H).symm.trans ha
   simp only [Prod.mk.injEq,Option.some.injEq] at h1
   have htk:(T k).aJ x=(T k).with (RT.dQ (T k).l x.word []):=by unfold Th.aJ;rw [ht];rfl
   have he:e=4:=by rw [ht] at hsh;exact hsh.2
   refine Ez (x:=x) htk (fun _=>by rw [←h1.1];exact hs) fun m hm wL=>⟨he,?_⟩
   have jQ:=L.ik
   unfold RT.kept at wL
   rw [if_neg (by omega),if_neg (by omega),if_neg (by omega),←h1.2] at wL
   unfold RS.mM at wL
   have wL:=of_decide_eq_true wL
   have hC:=H.clock.2
   replace hs:p.aB=c+1:=hs
   have wL:p.aB < -9223372036854775808+2∨m.dm > p.aB-2:=wL
   omega
  | bV d r =>
   rw [ht] at hs ha hsh
   obtain ⟨q,he,hsub,hnd⟩:=hsh
   have hd:d∈(T k).l.notes:=hsub d (List.mem_cons_self ..)
   have hnn:=lG (H.oi.pM k)
   obtain ⟨m1,m2,m3,m4,m5⟩:=H.CB (o:=.note k) (w:=d.ref) ⟨d,hd,rfl⟩
   have hal:p.act ⟨5,0,0,0,d.ref,Wd.zero⟩=(PS.free {p with steps:=p.steps+1} d.ref.slot,some ⟨Wd.zero,true⟩):=xX m3 m4
   have h1:=hal.symm.trans ha
   simp only [Prod.mk.injEq,Option.some.injEq] at h1
   rw [←h1.1]
   have hrest:∀m∈(T k).l.notes.erase d,m∈r∨Rest e c m:=fun m hm=>by
    rw [hnn.mem_erase_iff] at hm
    rcases hs.2 m hm.2 with h | h
    ·rcases List.mem_cons.1 h with h | h
     ·exact absurd h hm.1
     ·exact .inl h
    ·exact .inr h
   cases r with
   | nil =>
    have htk:(T k).aJ x={T k with l:={(T k).l with notes:=(T k).l.notes.erase d,freed:=(T k).l.freed+1},t:=.idle Rp.yes}:=Th.aW ht rfl
    rw [htk]
    refine ⟨hs.1,fun m hm=>?_⟩
    rcases hrest m hm with h | h
    ·cases h
    ·exact h
   | cons d' r' =>
    have htk:(T k).aJ x={T k with l:={(T k).l with notes:=(T k).l.notes.erase d,freed:=(T k).l.freed+1},t:=.bV d' r'}:=Th.aW ht rfl
    rw [htk]
    exact ⟨hs.1,hrest⟩
  | _=>rw [ht] at hs;exact hs.elim
 ·intro m hm
  cases ht:(T k).t with
  | idle y=>rw [ht] at hb;exact absurd rfl hb
  | iT =>
   have htk:(T k).aJ x={T k with l:=(T k).l,t:=.bL x.word []}:=Th.aW ht rfl
   rw [htk] at hm;exact hm
  | bL ck seen =>
   have hl:((T k).aJ x).l=(T k).l:=by
    unfold Th.aJ
    rw [ht]
    show (if (seen.length:Int)+1<(T k).l.all then _ else if (T k).l.aj≠4 then _ else if RS.may ck.num ((seen ++ [x.word]).map RS.gN)=true then _ else _:LR).1=_
    by_cases g:(seen.length:Int)+1<(T k).l.all
    ·rw [if_pos g]
    ·rw [if_neg g]
     by_cases g4:(T k).l.aj≠4
     ·rw [if_pos g4]
      rcases lT (l:=(T k).l) (ck:=ck) (seen:=seen ++ [x.word]) with ⟨g1,g2⟩ | ⟨d,r,g1,g2⟩ <;> rw [g1]
     ·rw [if_neg g4]
      by_cases gm:RS.may ck.num ((seen ++ [x.word]).map RS.gN)=true
      ·rw [if_pos gm]
      ·rw [if_neg gm]
   rw [hl] at hm;exact hm
  | iC ck =>
   have htk:(T k).aJ x={T k with l:=(T k).l,t:=.dN}:=Th.aW ht rfl
   rw [htk] at hm;exact hm
  | dN =>
   have hl:((T k).aJ x).l=(T k).l:=by
    unfold Th.aJ
    rw [ht]
    show (RT.dQ (T k).l x.word []).1=_
    rcases lT (l:=(T k).l) (ck:=x.word) (seen:=[]) with ⟨g1,g2⟩ | ⟨d,r,g1,g2⟩ <;> rw [g1]
   rw [hl] at hm;exact hm
  | bV d r =>
   have hl:((T k).aJ x).l.notes=(T k).l.notes.erase d:=by
    unfold Th.aJ
    rw [ht]
    cases r <;> rfl
   rw [hl] at hm
   exact List.mem_of_mem_erase hm
  | _=>rw [ht] at hs;exact hs.elim
 ·intro Yq
  cases ht:(T k).t with
  | idle y=>rw [ht] at hb;exact absurd rfl hb
  | iT=>rw [ht] at hs;exact absurd hs.1 Yq
  | iC ck=>rw [ht] at hsh;exact absurd hsh.2.1 Yq
  | dN=>rw [ht] at hsh;exact absurd hsh.2 Yq
  | bL ck seen =>
   rw [ht] at ha
   have:p'.bd=p.bd:=by
    have h2:(p.act (Ac.load 0 0 ((T k).l.base+seen.length))).1.bd=p.bd:=by
     unfold PS.act
     split
     ·split <;> rfl
     ·rfl
    have ha':p.act (Ac.load 0 0 ((T k).l.base+seen.length))=(p',some x):=ha
    rw [ha'] at h2
    exact h2
   unfold PS.aB
   rw [this]
  | bV d r =>
   rw [ht] at ha hsh
   have hd:d∈(T k).l.notes:=hsh.2.2.1 d (List.mem_cons_self ..)
   obtain ⟨m1,m2,m3,m4,m5⟩:=H.CB (o:=.note k) (w:=d.ref) ⟨d,hd,rfl⟩
   have hal:p.act ⟨5,0,0,0,d.ref,Wd.zero⟩=(PS.free {p with steps:=p.steps+1} d.ref.slot,some ⟨Wd.zero,true⟩):=xX m3 m4
   have h1:=hal.symm.trans ha
   simp only [Prod.mk.injEq,Option.some.injEq] at h1
   rw [←h1.1]
   rfl
  | _=>rw [ht] at hs;exact hs.elim
theorem Inv.scan (H:Inv n e p T own A) (hk:k<n) (h0:(T k).Ii) (h1:e=1→(T k).l.notes=[]):Inv n e p (bK T k ((T k).with (RT.scan (T k).l))) own A∧AJ e p.aB p ((T k).with (RT.scan (T k).l))∨e=1∧RT.scan (T k).l=((T k).l,.idle Rp.yes)∧Inv n e p (bK T k ((T k).with (RT.scan (T k).l))) own A:=by
 have L:=H.loc k hk
 obtain ⟨x,hx⟩:=RT.jo h0.2
 obtain ⟨g1,g2⟩:=ve h0.2
 have P:Plain (T k):=kF hx (.inl h0.1)
 have jQ:=L.ik
 have hnb:∀t:RT,(t=.idle Rp.yes∨t=.iT∨t=.bL Wd.zero [])→¬({T k with t:=t}:Th).busy:=fun t ht hb=>by
  unfold Th.busy at hb
  have:=h0.1
  rcases ht with rfl | rfl | rfl <;> simp only at hb <;> omega
 unfold RT.scan
 by_cases e1:e=1
 ·right
  rw [if_pos (jQ.trans e1)]
  refine ⟨e1,rfl,?_⟩
  exact H.uW hk H.self P (kF (h:=(T k).with ((T k).l,.idle Rp.yes)) rfl (.inl h0.1)) rfl (L.go (h':=(T k).with ((T k).l,.idle Rp.yes)) rfl g1 g2 (fun _ hb=>absurd hb (hnb _ (.inl rfl))) L.off ⟨⟨by show 0≤(T k).pc;rw [h0.1];decide,by show (T k).pc≤7;rw [h0.1];decide⟩,fun h=>absurd (show (T k).pc=3 from h) (by rw [h0.1];decide)⟩) (Calm.idle _)
 ·left
  rw [if_neg (fun h=>e1 (jQ.symm.trans h))]
  by_cases e4:e=4
  ·rw [if_pos (jQ.trans e4)]
   exact ⟨H.uW hk H.self P (cu (h:=(T k).with ((T k).l,.iT)) (.inl rfl)) rfl (L.go (h':=(T k).with ((T k).l,.iT)) rfl g1 g2 (fun _ hb=>absurd hb (hnb _ (.inr (.inl rfl)))) L.off ⟨.inl h0.1,e4⟩) (dX (.inl (by show (12:Int)<13;decide))),e4,rfl⟩
  ·rw [if_neg (fun h=>e4 (jQ.symm.trans h))]
   exact ⟨H.uW hk H.self P (cu (h:=(T k).with ((T k).l,.bL Wd.zero [])) (.inr (.inl ⟨_,_,rfl⟩))) rfl (L.go (h':=(T k).with ((T k).l,.bL Wd.zero [])) rfl g1 g2 (fun _ hb=>absurd hb (hnb _ (.inr (.inr rfl)))) L.off ⟨.inl h0.1,e1,L.nG H.n6,fun h=>absurd h e4⟩) (Calm.new _),fun w hw=>(by cases hw),fun h=>absurd h e4⟩
end
end Go.Proofs.YthomdlajobnmnaaDoor
namespace Go.Proofs.YthomdlajobnmnaaDoor
open Go.RowKit Go.Rex
theorem G5:∀(k:Nat) (h:Th),(h.go k).1.stop=h.stop
 | 0,h=>rfl
 | k+1,h=>by
  by_cases hz:h.t.bg=0
  ·obtain ⟨x,hx⟩:=RT.jo hz
   rw [Th.qB hx]
   by_cases hs:h.stop=true∧h.pc=0
   ·rw [if_pos hs]
   ·rw [if_neg hs]
    exact (G5 k _).trans (h.pK x).2.2
  ·rw [Th.nE hz]
theorem QU (h:Th) (p:PS):(h.step p).1.stop=h.stop:=by
 have a:=G5 12 h
 unfold Th.step
 generalize h.go 12=g at a
 obtain ⟨g1,g2⟩:=g
 simp only at a
 cases g2 with
 | some c=>exact a
 | none =>
  simp only
  by_cases hz:g1.t.bg=0
  ·rw [if_pos hz];exact a
  ·rw [if_neg hz]
   cases p.act (g1.t.acc g1.l) with
   | mk p' xo =>
    cases xo with
    | none=>exact a
    | some x=>exact a
def Th.off (h:Th):Th:={h with stop:=true}
def Mn.off (m:Mn):Mn:={m with stop:=true}
section
variable {n:Nat} {e k:Int} {p:PS} {T:Nat→Th} {own:Int→gQ} {A:Nat→Int} {i:Nat} {M:Nat→Mn}
theorem Sys.off (S:Sys k n e p T own A M) (hi:i<n):Sys k n e p (bK T i (T i).off) own A (bK M i (M i).off):=by
 have L:=S.inv.loc i hi
 have hI:Inv n e {p with steps:=p.steps} (bK T i (T i).off) own A :=
  S.inv.stay hi S.inv.ok rfl rfl rfl ⟨L.ik,L.me,L.nK,L.most,L.hz,L.kz,L.nk,L.ns,L.h3,L.s5,L.b5,L.kc,L.sc,L.on,L.off,L.jI⟩ (S.inv.snap i hi) (S.inv.full i hi) (S.inv.rb i hi) (S.inv.held i hi) (fun _ _ _ _ h=>h) (fun _ _ _ _ _ h=>h)
 refine ⟨hI,fun j hj=>?_,fun j hj=>?_,fun j hj=>?_,fun j hj=>?_,S.pw,S.st,S.k0⟩
 all_goals
  by_cases hji:j=i
  ·rw [hji]
   simp only [aK]
   first
    | (have m:=S.mt i hi;exact ⟨m.rep,m.pc,m.old,m.node,m.bad,rfl⟩)
    | (have m:=S.wb i hi;exact ⟨m.old,m.node,m.l,m.t⟩)
    | exact S.bad i hi
    | exact S.fr i hi
  ·simp only [bD _ _ hji]
   first
    | exact S.mt j hj
    | exact S.wb j hj
    | exact S.bad j hj
    | exact S.fr j hj
end
section
variable {w1 w w':World} {aP:Addr} {aM:Nat→Addr} {g n i b:Nat} {e k:Int} {p:PS} {T:Nat→Th} {own:Int→gQ} {A:Nat→Int} {M:Nat→Mn} {ν:Nat→Addr}
theorem dE.new (R:dE w1 aP aM g n e k w p T own A M) (hn:Nw w w'):dE w1 aP aM g n e k w' p T own A M:=by
 obtain ⟨F,lW,hF⟩:=R.Mf
 exact ⟨R.sys,⟨F,lW.frame fun b hb _=>hn.block b hb id,hF⟩,fun j hj=>hn.pR (R.row j hj),R.nw.trans hn⟩
theorem dE.off (R:dE w1 aP aM g n e k w p T own A M) (hi:i<n) (hb:aM i=⟨b,0,none⟩) :
  (w.cell? ⟨b,13,none⟩=some (.bool (M i).stop)∧w.frozen? ⟨b,13,none⟩=false)∧dE w1 aP aM g n e k (w.setCell ⟨b,13,none⟩ (.bool true)) p (bK T i (T i).off) own A (bK M i (M i).off):=by
 obtain ⟨BM,h1,h2⟩:=R.QS hi
 obtain ⟨ρ,ν,b',e1,⟨q1,q2,q3⟩,q4,q5,q6,q7⟩:=CQ h1
 rw [hb,Addr.mk.injEq] at e1
 obtain rfl:=e1.1
 have hother:∀x,x≠b→(w.setCell ⟨b,13,none⟩ (.bool true)).heap[x]?=w.heap[x]?:=fun x hx=>heap_setCell_other w ⟨b,13,none⟩ x _ hx
 have hsame:=heap_setCell_same w b 13 _ _ (.bool true) q7
 have hrt:aN ρ ν dC (w.setCell ⟨b,13,none⟩ (.bool true)):=q1.Eu Ig fun x hx=>hother x fun e=>q5 (e ▸ hx)
 have Ma:=Mg (m:=(M i).off) hrt q2 q3 q5 (by rw [hsame];rfl)
 refine ⟨⟨by unfold World.cell?;rw [q7];rfl,by unfold World.frozen?;rw [q7];rfl⟩,h2 _ _ _ k _ own A (by rw [hb];exact Ma) (fun x hx=>?_) ⟨rfl,rfl,rfl,by simp [World.setCell],fun x hx hn=>hother x fun e=>hn (e ▸ q6)⟩ (R.sys.off hi)⟩
 rcases hx with rfl | hx
 ·exact .inr q6
 ·exact .inr (q4 x hx)
theorem dE.ZZ (R:dE w1 aP aM g n e k w p T own A M) (hi:i<n) (hb:aM i=⟨b,0,none⟩) :
  ∃rb,w.cell? ⟨b,0,none⟩=some (.pointer (some ⟨rb,0,none⟩))∧w.cell? ⟨rb,18,none⟩=some (.int .i64 (T i).t.bg)∧w.cell? ⟨b,1,none⟩=some (.int .i64 (T i).pc):=by
 obtain ⟨BM,h1,h2⟩:=R.QS hi
 obtain ⟨ρ,ν,b',e1,⟨q1,q2,q3⟩,q4,q5,q6,q7⟩:=CQ h1
 rw [hb,Addr.mk.injEq] at e1
 obtain rfl:=e1.1
 obtain ⟨g1,cs,g2,g3⟩:=q1.aI 0 _ rfl rfl rfl
 have g2:=g2.cells rfl
 refine ⟨(ν 0).block,by unfold World.cell?;rw [q7,←g1];rfl,?_,?_⟩
 ·have:=g3.ex 18 _ rfl rfl
  unfold World.cell?
  rw [g2]
  refine this.trans (congrArg some ?_)
  show Value.int .i64 (ρ.iv 22)=_
  rw [←(R.sys.mt i hi).rep.step,←q2]
  rfl
 ·unfold World.cell?
  rw [q7,←(R.sys.mt i hi).pc]
  rfl
theorem dE.pl (R:dE w1 aP aM g n e k w p T own A M):∃B,lU w aP p B:=by
 obtain ⟨F,lW,hF⟩:=R.Mf
 obtain ⟨BP,BM,h1,-⟩:=lW.ex
 exact ⟨BP,h1⟩
theorem dE.Yr (R:dE w1 aP aM g n e k w p T own A M) (hs:mh w1 ν) {f:Int} (h0:0≤f) (h1:f<85) :
  Calls Tryd.prog 16 #[.pointer (some aP),.agg #[.int .i64 0,.int .i64 0,.int .i64 f]] w fun ev w'=>ev=.returned (.tuple #[UR (p.bd f.toNat),.bool true])∧Nw w w':=by
 obtain ⟨B,hB⟩:=R.pl
 exact Wm (hs.nw R.nw).sn hB h0 (by rw [R.sys.inv.nb];exact h1)
end
theorem Inv.YO {n:Nat} {e:Int} {p:PS} {T:Nat→Th} {own:Int→gQ} {A:Nat→Int} {i:Nat} (H:Inv n e p T own A) (hi:i<n) (h0:(T i).Ii):p.bd (79+i)=Wd.zero∧∀m,m<9→p.bd (25+9 * i+m)=Wd.zero:=by
 have L:=H.loc i hi
 obtain ⟨q1,q2⟩:=ve h0.2
 obtain ⟨o1,o2⟩:=L.off h0.1
 refine ⟨by rw [L.sc q2,o2];rfl,fun m hm=>?_⟩
 by_cases h:m=0
 ·rw [h,Nat.add_zero,L.kc q1,o1]
 ·exact L.kz m h hm
end Go.Proofs.YthomdlajobnmnaaDoor
