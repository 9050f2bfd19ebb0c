/- part 2 of the proof -/
import Derived.MapKept
import Derived.Test.YthomdlajobnmnaaGreatDoorX0
import Derived.Test.YthomdlajobnmnaaGreatDoorX1
set_option linter.unusedSimpArgs false
set_option linter.unusedVariables false
namespace Go.Rex
open Go.MapKept
abbrev tH (n v:Int) (b:Nat):MapEntry:=⟨.int .i64 n,.int .i64 v,b⟩
def tJ (es:List MapEntry):Prop:=∀e∈es,∃n v b,e=tH n v b∧-9223372036854775808≤n∧n≤9223372036854775807
theorem fQ (n v:Int) (b:Nat) (r:List MapEntry) (k:Int):eG (tH n v b :: r) k=if n=k then some v else eG r k:=rfl
theorem CB {k':IntKind} (key:Int):∀{es:List MapEntry},tJ es→∀i0:Nat,
  match eG es key with
  | none=>Instr.findNow (.int k') (.int .i64 key) es i0=some none
  | some v=>∃i b,Instr.findNow (.int k') (.int .i64 key) es i0=some (some (i0+i,.int .i64 v))∧es[i]?=some (tH key v b)
 | [],_,_=>rfl
 | e :: r,h,i0=>by
  obtain ⟨n,v,b,rfl,-⟩:=h e (by simp)
  have ih:=CB (k':=k') key (es:=r) (fun e he=>h e (by simp [he])) (i0+1)
  rw [fQ]
  by_cases hk:n=key
  ·rw [if_pos hk]
   subst hk
   exact ⟨0,b,by simp [Instr.findNow,Instr.sameNow],rfl⟩
  ·rw [if_neg hk]
   have hk':(key == n)=false:=by simp;exact fun e=>hk e.symm
   have e1:Instr.findNow (.int k') (.int .i64 key) (tH n v b :: r) i0=Instr.findNow (.int k') (.int .i64 key) r (i0+1):=by simp [Instr.findNow,Instr.sameNow,hk']
   rw [e1]
   cases hm:eG r key with
   | none=>rw [hm] at ih;exact ih
   | some u =>
    rw [hm] at ih
    obtain ⟨i,b',h1,h2⟩:=ih
    exact ⟨i+1,b',by rw [h1];congr 3;omega,by simpa using h2⟩
theorem Fz {key:Int}:∀{es:List MapEntry},tJ es→eG es key=none→Value.int .i64 key ∉ es.map (·.key)
 | [],_,_=>by simp
 | e :: r,h,hm=>by
  obtain ⟨n,v,b,rfl,-⟩:=h e (by simp)
  rw [fQ] at hm
  split at hm
  ·cases hm
  ·rename_i hne
   have:=Fz (fun e he=>h e (by simp [he])) hm
   simp only [List.map_cons,List.mem_cons,not_or]
   exact ⟨fun e=>hne (by injection e with _ e;exact e.symm),this⟩
theorem zO {key:Int}:∀{es:List MapEntry},tJ es→Value.int .i64 key ∉ es.map (·.key)→eG es key=none
 | [],_,_=>rfl
 | e :: r,h,hm=>by
  obtain ⟨n,v,b,rfl,-⟩:=h e (by simp)
  simp only [List.map_cons,List.mem_cons,not_or] at hm
  rw [fQ,if_neg (fun e=>hm.1 (by rw [e]))]
  exact zO (fun e he=>h e (by simp [he])) hm.2
theorem Ak {key v':Int} {k:Int}:∀{es:List MapEntry} {i:Nat} {v:Int} {b:Nat},tJ es→(es.map (·.key)).Nodup→es[i]?=some (tH key v b) →
  eG (es.modify i fun e=>{e with key:=.int .i64 key,val:=.int .i64 v'}) k=if k=key then some v' else eG es k
 | [],i,v,b,_,_,hi=>by simp at hi
 | e :: r,0,v,b,h,_,hi=>by
  simp at hi
  subst hi
  rw [List.modify_zero_cons]
  show eG (tH key v' b :: r) k=_
  rw [fQ,fQ]
  by_cases hk:key=k
  ·rw [if_pos hk,if_pos hk.symm]
  ·rw [if_neg hk,if_neg (fun e=>hk e.symm),if_neg hk]
 | e :: r,i+1,v,b,h,hn,hi=>by
  obtain ⟨n,u,c,rfl,-⟩:=h e (by simp)
  rw [List.modify_succ_cons,fQ,fQ]
  simp only [List.map_cons,List.nodup_cons] at hn
  have hi':r[i]?=some (tH key v b):=by simpa using hi
  rw [Ak (fun e he=>h e (by simp [he])) hn.2 hi']
  have hne:n≠key:=fun e=>hn.1 (by rw [e];exact List.mem_map.2 ⟨_,List.mem_of_getElem? hi',rfl⟩)
  by_cases hk:n=k
  ·rw [if_pos hk,if_pos hk,if_neg (by omega)]
  ·rw [if_neg hk,if_neg hk]
theorem FB {key v':Int} {c:Nat} {k:Int}:∀{es:List MapEntry},tJ es→eG es key=none→eG (es ++ [tH key v' c]) k=if k=key then some v' else eG es k
 | [],_,_=>by
  rw [List.nil_append,fQ]
  by_cases hk:key=k
  ·rw [if_pos hk,if_pos hk.symm]
  ·rw [if_neg hk,if_neg (fun e=>hk e.symm)]
 | e :: r,h,hm=>by
  obtain ⟨n,u,b,rfl,-⟩:=h e (by simp)
  rw [fQ] at hm
  split at hm
  ·cases hm
  ·rename_i hne
   rw [List.cons_append,fQ,fQ,FB (fun e he=>h e (by simp [he])) hm]
   by_cases hk:n=k
   ·rw [if_pos hk,if_pos hk,if_neg (by omega)]
   ·rw [if_neg hk,if_neg hk]
theorem Du {key:Int} {k:Int}:∀{es:List MapEntry} {i:Nat} {v:Int} {b:Nat},tJ es→(es.map (·.key)).Nodup→es[i]?=some (tH key v b) →
  eG (es.eraseIdx i) k=if k=key then none else eG es k
 | [],i,v,b,_,_,hi=>by simp at hi
 | e :: r,0,v,b,h,hn,hi=>by
  simp at hi
  subst hi
  simp only [List.map_cons,List.nodup_cons] at hn
  rw [List.eraseIdx_cons_zero,fQ]
  by_cases hk:key=k
  ·subst hk
   rw [if_pos rfl,zO (fun e he=>h e (by simp [he])) hn.1]
  ·rw [if_neg (fun e=>hk e.symm),if_neg hk]
 | e :: r,i+1,v,b,h,hn,hi=>by
  obtain ⟨n,u,c,rfl,-⟩:=h e (by simp)
  simp only [List.map_cons,List.nodup_cons] at hn
  have hi':r[i]?=some (tH key v b):=by simpa using hi
  rw [List.eraseIdx_cons_succ,fQ,fQ,Du (fun e he=>h e (by simp [he])) hn.2 hi']
  have hne:n≠key:=fun e=>hn.1 (by rw [e];exact List.mem_map.2 ⟨_,List.mem_of_getElem? hi',rfl⟩)
  by_cases hk:n=k
  ·rw [if_pos hk,if_pos hk,if_neg (by omega)]
  ·rw [if_neg hk,if_neg hk]
structure Js (es es':List MapEntry) (key:Int) (x:Option Int):Prop where
 wf:kX es'
 look:∀k,eG es' k=if k=key then x else eG es k
theorem kX.D5 {es:List MapEntry} (h:kX es):tJ es:=h.all
theorem Q9 {es:List MapEntry} (h:kX es) {key v v':Int} {i b:Nat} (hi:es[i]?=some (tH key v b)) :
  Js es (es.modify i fun e=>{e with key:=.int .i64 key,val:=.int .i64 v'}) key (some v'):=by
 have hmod:(es.modify i fun e=>{e with key:=.int .i64 key,val:=.int .i64 v'}).map (·.key)=es.map (·.key):=by
  apply List.ext_getElem?
  intro j
  rw [List.getElem?_map,List.getElem?_map,List.getElem?_modify]
  by_cases hj:i=j
  ·subst hj
   simp [hi]
  ·simp [hj]
 refine ⟨⟨fun e he=>?_,by rw [hmod];exact h.nodup⟩,fun k=>Ak h.D5 h.nodup hi⟩
 obtain ⟨j,hj⟩:=List.mem_iff_getElem?.1 he
 rw [List.getElem?_modify] at hj
 by_cases hji:i=j
 ·subst hji
  simp [hi] at hj
  obtain ⟨n,u,c,e1,e2⟩:=h.all _ (List.mem_of_getElem? hi)
  injection e1 with e3 e4 e5
  injection e3 with _ e3
  subst e3
  exact ⟨key,v',b,hj.symm,e2⟩
 ·cases hx:es[j]? with
  | none=>simp [hx] at hj
  | some y =>
   simp [hx,hji] at hj
   rw [←hj]
   exact h.all y (List.mem_of_getElem? hx)
theorem XA {es:List MapEntry} (h:kX es) {key v':Int} {c:Nat} (hm:eG es key=none) (hr:-9223372036854775808≤key∧key≤9223372036854775807):Js es (es ++ [tH key v' c]) key (some v'):=by
 refine ⟨⟨fun e he=>?_,?_⟩,fun k=>FB h.D5 hm⟩
 ·rcases List.mem_append.1 he with he | he
  ·exact h.all e he
  ·exact ⟨key,v',c,by simpa using he,hr⟩
 ·rw [List.map_append]
  refine List.nodup_append.2 ⟨h.nodup,by simp,fun a ha b hb=>?_⟩
  simp at hb
  subst hb
  exact fun e=>Fz h.D5 hm (e ▸ ha)
theorem Ul {es:List MapEntry} (h:kX es) {key v:Int} {i b:Nat} (hi:es[i]?=some (tH key v b)):Js es (es.eraseIdx i) key none:=by
 refine ⟨⟨fun e he=>h.all e (List.mem_of_mem_eraseIdx he),?_⟩,fun k=>Du h.D5 h.nodup hi⟩
 exact List.Nodup.sublist (List.Sublist.map _ (List.eraseIdx_sublist _ _)) h.nodup
theorem XB {es:List MapEntry} (h:kX es) {key:Int} (hm:eG es key=none):Js es es key none :=
 ⟨h,fun k=>by split <;> simp_all⟩
def dL (key:Int) (j:Nat):Nat:=(key+9223372036854775808).toNat * 2+j
theorem XC {es es':List MapEntry} {key:Int} {x:Option Int} (h:Js es es' key x) (h1:-9223372036854775808≤key) (h2:key≤9223372036854775807) :
  lg es'=((lg es).setIfInBounds (dL key 1) (.int .i64 (x.getD 0))).setIfInBounds (dL key 0) (.bool x.isSome):=by
 apply Array.ext_getElem?
 intro p
 have hs:((lg es).setIfInBounds (dL key 1) (.int .i64 (x.getD 0))).size=36893488147419103232:=by rw [Array.size_setIfInBounds];unfold lg;rw [Array.size_ofFn]
 have hs0:(lg es).size=36893488147419103232:=by unfold lg;rw [Array.size_ofFn]
 have hp0:dL key 0<36893488147419103232:=by unfold dL;omega
 have hp1:dL key 1<36893488147419103232:=by unfold dL;omega
 by_cases hp:p<36893488147419103232
 ·rw [xV _ hp,Array.getElem?_setIfInBounds,Array.getElem?_setIfInBounds,hs,hs0,xV _ hp]
  unfold Ah
  rw [h.look]
  by_cases hk:((p / 2:Nat):Int)-9223372036854775808=key
  ·rw [if_pos hk]
   have hp2:p=dL key (p % 2):=by unfold dL;omega
   have hm:p % 2=0∨p % 2=1:=by omega
   rcases hm with hm | hm
   ·rw [hm] at hp2
    rw [if_pos hp2.symm,if_pos hp0]
    cases x <;> simp [hm]
   ·rw [hm] at hp2
    have hne:¬dL key 0=p:=by rw [hp2];unfold dL;omega
    rw [if_neg hne,if_pos hp2.symm,if_pos hp1]
    cases x <;> simp [hm]
  ·rw [if_neg hk]
   have hn0:¬dL key 0=p:=by unfold dL;omega
   have hn1:¬dL key 1=p:=by unfold dL;omega
   rw [if_neg hn0,if_neg hn1]
 ·rw [Jl _ hp,Array.getElem?_setIfInBounds,Array.getElem?_setIfInBounds,hs,hs0,Jl _ hp]
  rw [if_neg (by omega),if_neg (by omega)]
theorem D6 (es:List MapEntry) {key:Int} (h1:-9223372036854775808≤key) (h2:key≤9223372036854775807) :
  (lg es)[dL key 0]?=some (.bool (eG es key).isSome)∧(lg es)[dL key 1]?=some (.int .i64 ((eG es key).getD 0)):=by
 have e0:((dL key 0 / 2:Nat):Int)-9223372036854775808=key:=by unfold dL;omega
 have e1:((dL key 1 / 2:Nat):Int)-9223372036854775808=key:=by unfold dL;omega
 have m0:dL key 0 % 2=0:=by unfold dL;omega
 have m1:dL key 1 % 2=1:=by unfold dL;omega
 refine ⟨?_,?_⟩
 ·rw [xV _ (by unfold dL;omega)]
  unfold Ah
  rw [e0]
  cases eG es key <;> simp [m0]
 ·rw [xV _ (by unfold dL;omega)]
  unfold Ah
  rw [e1]
  cases eG es key <;> simp [m1]
section
variable {P:Program} {w:World} {t kt et:TypeId} (hd:P.underlying t=some (.map kt et)) (hk:P.underlying kt=some (.int .i64))
include hd hk
theorem Ra (he:(zeroValue et).run P w=.ok (.int .i64 0) w) {b:Nat} {es:Array MapEntry} {clock:Nat} (hb:w.heap[b]?=some (.map es clock)) (hw:kX es.toList) (key:Int) (ok:Bool) :
  (Instr.lookup t (.map (some b)) (.int .i64 key) ok).run P w =
   .ok (if ok then .tuple #[.int .i64 ((eG es.toList key).getD 0),.bool (eG es.toList key).isSome] else .int .i64 ((eG es.toList key).getD 0)) w:=by
 have hc:=run_checkKey (w:=w) hk (k:=.int .i64 key) (by simp [IsKey]) es.isEmpty 9999
 have hf:=CB (k':=.i64) key hw.D5 0
 unfold Instr.lookup
 cases hm:eG es.toList key with
 | none =>
  rw [hm] at hf
  have:=run_findKey (w:=w) hk hf
  cases ok <;> simp [run_underlying hd,_root_.Go.MapKept.run_getObj_map hb,hc,this,he,Result.andThen]
 | some v =>
  rw [hm] at hf
  obtain ⟨i,c,h1,h2⟩:=hf
  have:=run_findKey (w:=w) hk h1
  cases ok <;> simp [run_underlying hd,_root_.Go.MapKept.run_getObj_map hb,hc,this,he,Result.andThen]
theorem Rb {b:Nat} {es:Array MapEntry} {clock:Nat} (hb:w.heap[b]?=some (.map es clock)) (hw:kX es.toList) {key v:Int} (hr:-9223372036854775808≤key∧key≤9223372036854775807) :
  ∃es' clock',(Instr.mapUpdate t (.map (some b)) (.int .i64 key) (.int .i64 v)).run P w=.ok () {w with heap:=w.heap.setIfInBounds b (.map es' clock')}∧Js es.toList es'.toList key (some v):=by
 have hc:=run_checkKey (w:=w) hk (k:=.int .i64 key) (by simp [IsKey]) false 9999
 have hf:=CB (k':=.i64) key hw.D5 0
 cases hm:eG es.toList key with
 | none =>
  rw [hm] at hf
  have h1:=run_findKey (w:=w) hk hf
  refine ⟨es.push (tH key v clock),clock+1,?_,by rw [Array.toList_push];exact XA hw hm hr⟩
  unfold Instr.mapUpdate
  simp [run_underlying hd,_root_.Go.MapKept.run_getObj_map hb,hc,h1,Result.andThen,_root_.Go.MapKept.run_setObj_map _ hb]
 | some u =>
  rw [hm] at hf
  obtain ⟨i,c,h1,h2⟩:=hf
  rw [Nat.zero_add] at h1
  have h3:=run_findKey (w:=w) hk h1
  have h2':es[i]?=some (tH key u c):=by rw [←Array.getElem?_toList];exact h2
  refine ⟨es.modify i fun e=>{e with key:=.int .i64 key,val:=.int .i64 v},clock,?_,by rw [Array.toList_modify];exact Q9 hw h2⟩
  unfold Instr.mapUpdate
  simp [run_underlying hd,_root_.Go.MapKept.run_getObj_map hb,hc,h3,Result.andThen,h2',Instr.keyThatStays,Instr.sameBits,_root_.Go.MapKept.run_setObj_map _ hb]
theorem Rc {b:Nat} {es:Array MapEntry} {clock:Nat} (hb:w.heap[b]?=some (.map es clock)) (hw:kX es.toList) {key:Int} {t2 t3:TypeId} :
  ∃es' clock',(Builtin.delete_ #[t,t2] t3 #[.map (some b),.int .i64 key]).run P w=.ok (.tuple #[]) {w with heap:=w.heap.setIfInBounds b (.map es' clock')}∧Js es.toList es'.toList key none:=by
 have hc:=run_checkKey (w:=w) hk (k:=.int .i64 key) (by simp [IsKey]) es.isEmpty 9999
 have hf:=CB (k':=.i64) key hw.D5 0
 cases hm:eG es.toList key with
 | none =>
  rw [hm] at hf
  have h1:=run_findKey (w:=w) hk hf
  refine ⟨es,clock,?_,XB hw hm⟩
  unfold Builtin.delete_
  simp [run_underlying hd,_root_.Go.MapKept.run_getObj_map hb,hc,h1,Result.andThen,_root_.Go.MapKept.run_setObj_map _ hb]
 | some u =>
  rw [hm] at hf
  obtain ⟨i,c,h1,h2⟩:=hf
  rw [Nat.zero_add] at h1
  have h3:=run_findKey (w:=w) hk h1
  refine ⟨es.eraseIdxIfInBounds i,clock,?_,by rw [Array.toList_eraseIdxIfInBounds];exact Ul hw h2⟩
  unfold Builtin.delete_
  simp [run_underlying hd,_root_.Go.MapKept.run_getObj_map hb,hc,h3,Result.andThen,_root_.Go.MapKept.run_setObj_map _ hb]
end
end Go.Rex
namespace Go.Rex
def yn (T:aY) (t:TypeId) (lo hi:Option SW):PR :=
 match T.ty t with
 | some ti=>match ti.d with
  | .sl et=>match T.ty et with
   | some _ =>
    match (match hi with | none=>some (IE.lit 0) | some (.one (.int _ e))=>some e | _=>none),(match lo with | none=>some (IE.lit 0) | some (.one (.int _ e))=>some e | _=>none) with
    | some h,some l=>PR.one .bG [.ai (.lit 0) l,.ai l h,.ai h (.lit 0)]
    | _,_=>.no
   | none=>.no
  | _=>.no
 | none=>.no
def tK (T:aY) (kn:Kn) (t:TypeId) (x:SW) (lo hi:Option SW):PR :=
 match x with
 | .one .bG=>yn T t lo hi
 | .one (.fw c a len cap)=>match c.decide kn with
  | none=>.br c
  | some true=>yn T t lo hi
  | some false=>match Fy T kn t (.one (.sl a len cap)) lo hi with
   | .ok (.w (.one (.sl b l m))) os=>.ok (.w (.one (.fw c b l m))) os
   | r=>r
 | x=>Fy T kn t x lo hi
def Al (sb:SB):Option ae :=
 match sb.aX with
 | [g]=>if sb.iN && (match g.n1.dE with | some n=>n == 18446744073709551616 | none=>false) && g.s1 == 2 && g.n2 == 1 && g.s2 == 0 && g.lo == 0 && (match g.ks with | [.bool,.int .i64]=>true | _=>false) then some g else none
 | _=>none
def mapKey (ke:IE):IE:=ke.iO (.lit 9223372036854775808)
def ll (sb:SB) (ke:IE):List BE:=sb.vT ++ [.ai (.lit 0) (mapKey ke),.bO (mapKey ke) (.lit 18446744073709551616)]
def FC:TD→Bool
 | .int .i64=>true
 | _=>false
def Ic (te:TI):Bool:=match te.zero with | [.int .i64 (.lit n)]=>n == 0 | _=>false
def CE (T:aY) (t:TypeId):Bool :=
 match T.ty t with
 | some ti=>match ti.d with
  | .map kt et=>match T.ty kt,T.ty et with
   | some tk,some te=>FC tk.d && FC te.d && Ic te
   | _,_=>false
  | _=>false
 | none=>false
def KJ (ok:Bool) (e:IE) (b:Bool) (os:List BE):PR :=
 if ok then .ok (.iF [.one (.int .i64 e),.one (.bool (.lit b))]) os else .ok (.w (.one (.int .i64 e))) os
def lookW (T:aY) (kn:Kn) (hp:List SB) (t:TypeId) (m k:SW) (ok:Bool):PR :=
 if CE T t then
  match m,k with
  | .one (.mp b),.one (.int .i64 ke) =>
   match hp[b]? with
   | some sb =>
    if sb.gone || sb.ro then .no else
    match Al sb with
    | none=>.no
    | some g =>
     match sb.read kn (.sg 0 g (mapKey ke) (.lit 0) 0) with
     | .no=>.no
     | .br c=>.br c
     | .ok c =>
      match pg (.w (.one c)) with
      | none=>.no
      | some cb =>
       match cb.decide kn with
       | none=>.br cb
       | some false=>KJ ok (.lit 0) false (ll sb ke)
       | some true=>match sb.read kn (.sg 0 g (mapKey ke) (.lit 0) 1) with
        | .ok d=>match nz (.w (.one d)) with
         | some (.i64,e)=>KJ ok e true (ll sb ke)
         | _=>.no
        | .br c=>.br c
        | .no=>.no
   | none=>.no
  | _,_=>.no
 else .no
def wN (T:aY) (gl:List (Nat × Nat)) (kn:Kn) (fr:Fr) (hp:List SB) (o:Oper):PR :=
 match o.op with
 | .move x | .assign x=>match dK gl kn fr x with | some v=>.ok v [] | none=>.no
 | .pick c a b =>
  match (dK gl kn fr c).bind pg with
  | none=>.no
  | some cb =>
   match cb.decide kn with
   | some true=>match dK gl kn fr a with | some v=>.ok v [] | none=>.no
   | some false=>match dK gl kn fr b with | some v=>.ok v [] | none=>.no
   | none =>
    match (dK gl ((cb,true) :: kn) fr a).bind pg,(dK gl ((cb,false) :: kn) fr b).bind pg with
    | some x,some y=>PR.one (.bool (cb.Xq x y))
    | _,_=>.br cb
 | .load t a=>match dK gl kn fr a with | some (.w (.one (.ptr sa)))=>Fx T kn hp t sa | _=>.no
 | .nilCheck x =>
  match dK gl kn fr x with
  | some (.w (.one (.ptr a)))=>PR.one (.ptr a)
  | some (.w (.one (.fn f c)))=>PR.one (.fn f c)
  | _=>.no
 | .binOp op t x y _=>match dK gl kn fr x,dK gl kn fr y with | some (.w a),some (.w b)=>Xx T op t (Ai x || Ai y) a b | _,_=>.no
 | .unOp op _ x =>
  match op,dK gl kn fr x with
  | .not,some (.w (.one (.bool b)))=>PR.one (.bool b.mF)
  | .neg,some (.w (.one (.int k e)))=>match ow T.wr k (IE.pq (.lit 0) e) with | (e',os)=>PR.one (.int k e') os
  | _,_=>.no
 | .convert s d x=>match dK gl kn fr x with | some (.w y)=>Q8 T s d y | _=>.no
 | .makeInterface t x =>
  match dK gl kn fr x,T.ty t with
  | some (.w (.one c)),some ti=>match ti.d with | .wJ | .other=>.no | _=>PR.one (.iface t c)
  | _,_=>.no
 | .makeFunc (.func f) first jS =>
  if first.isEmpty then match oM (jS.toList.map (dK gl kn fr)) with | some bs=>PR.one (.fn f bs) | none=>.no else .no
 | .slice t x lo hi none =>
  match dK gl kn fr x,lo.map (dK gl kn fr),hi.map (dK gl kn fr) with
  | some (.w y),none,none=>tK T kn t y none none
  | some (.w y),some (some (.w l)),none=>tK T kn t y (some l) none
  | some (.w y),none,some (some (.w h))=>tK T kn t y none (some h)
  | some (.w y),some (some (.w l)),some (some (.w h))=>tK T kn t y (some l) (some h)
  | _,_,_=>.no
 | .fieldAddr s x f=>match dK gl kn fr x with | some (.w y)=>yg T s y f | _=>.no
 | .field s x f=>match dK gl kn fr x with | some (.w y)=>Lv T s y f | _=>.no
 | .indexAddr t x i=>match dK gl kn fr x,dK gl kn fr i with | some (.w y),some (.w j)=>yh T t y j | _,_=>.no
 | .extract x i=>match dK gl kn fr x with | some (.iF xs)=>(match xs[i]? with | some y=>.ok (.w y) [] | none=>.no) | _=>.no
 | .build t parts=>match Jq (parts.toList.map fun p=>(p.1,dK gl kn fr p.2)) with | some ps=>LB T t ps | none=>.no
 | .call {callee:=.builtin .len,args,argTypes} =>
  match args.toList,argTypes.toList with
  | [x],[t]=>match dK gl kn fr x with | some (.w y)=>Xz T t y | _=>.no
  | _,_=>.no
 | .call {callee:=.builtin .min,args,..} =>
  match args.toList.map (dK gl kn fr) with
  | [some (.w (.one (.int k a))),some (.w (.one (.int _ b)))]=>PR.one (.int k (.qg a b))
  | _=>.no
 | .call {callee:=.builtin .max,args,..} =>
  match args.toList.map (dK gl kn fr) with
  | [some (.w (.one (.int k a))),some (.w (.one (.int _ b)))]=>PR.one (.int k (.imax a b))
  | _=>.no
 | .lookup t m k ok=>match dK gl kn fr m,dK gl kn fr k with | some (.w x),some (.w y)=>lookW T kn hp t x y ok | _,_=>.no
 | .index t x i=>match dK gl kn fr x,dK gl kn fr i with | some (.w y),some (.w j)=>Lx T t y j | _,_=>.no
 | _=>.no
section
variable {P:Program} {T:aY} {ρ:Env} {ν:Nat→Addr} {w:World}
theorem XD (hT:dD P T) {src dst:TypeId} {x:SW} {v:SV} {os:List BE} (h:Q8 T src dst x=.ok v os) (ho:∀o∈os,o.den ρ=true) :
  (convert src dst (x.den ρ ν)).run P w=.ok (v.den ρ ν) w:=by
 unfold Q8 at h
 split at h
 ·rename_i ti tj k e hs hd
  obtain ⟨d1,h1,c1,-⟩:=(hT.ty hs).und
  obtain ⟨d2,h2,c2,-⟩:=(hT.ty hd).und
  split at h
  ·rename_i k1 k2 e1 e2
   rw [e1] at c1;rw [e2] at c2
   cases d1 <;> simp [fJ] at c1
   cases d2 <;> simp [fJ] at c2
   have:=iL c2
   subst this
   simp only [PR.one,PR.ok.injEq] at h
   obtain ⟨rfl,XE⟩:=h
   have:=qo (wr:=T.wr) (ρ:=ρ) (k:=k2) (e:=e) (by rw [XE];exact ho)
   simp [convert,run_underlying h1,run_underlying h2,SW.den,SC.den,SV.den,Conv.intToInt,this]
  ·cases h
 ·rename_i ti0 tj l hs hd
  obtain ⟨d1,h1,c1,-⟩:=(hT.ty hs).und
  obtain ⟨d2,h2,c2,-⟩:=(hT.ty hd).und
  split at h
  ·rename_i e2
   rw [e2] at c2
   cases d2 <;> simp [fJ] at c2
   simp only [PR.one,PR.ok.injEq] at h
   obtain ⟨rfl,_⟩:=h
   cases d1 <;> simp [convert,run_underlying h1,run_underlying h2,SW.den,SC.den,SV.den]
  ·cases h
 ·cases h
theorem abk (hT:dD P T) {t ty:TypeId} {x:SW} {v:SV} {os:List BE} (h:Xz T t x=.ok v os) (ho:∀o∈os,o.den ρ=true) :
  (Builtin.len_ #[t] ty #[x.den ρ ν]).run P w=.ok (v.den ρ ν) w:=by
 unfold Xz at h
 split at h
 ·cases h
 rename_i ti hs
 obtain ⟨d1,h1,c1,-⟩:=(hT.ty hs).und
 split at h
 all_goals try cases h
 all_goals rename_i e1
 all_goals rw [e1] at c1
 all_goals cases d1 <;> simp [fJ] at c1
 ·have:=ho _ (List.mem_singleton.2 rfl)
  simp only [BE.den,IE.den] at this
  have:=of_decide_eq_true this
  simp [Builtin.len_,run_underlying h1,SW.den,SC.den,SV.den,goInt]
  omega
 ·simp [Builtin.len_,run_underlying h1,SW.den,SC.den,SV.den,goInt,IE.den]
 ·rename_i c a len cap _
  have h2:=yf (ho _ (List.mem_cons_self ..))
  have:=ho (.ai (.lit 0) len) (by simp)
  simp only [BE.den,IE.den] at this
  have:=of_decide_eq_true this
  cases hc:c.den ρ with
  | true=>simp [Builtin.len_,run_underlying h1,SW.den,SC.den,SV.den,goInt,hc,h2 hc]
  | false =>
   simp [Builtin.len_,run_underlying h1,SW.den,SC.den,SV.den,goInt,hc]
   omega
 ·rename_i l
  have hl:(ByteArray.mk l.toArray).size=l.length:=List.size_toArray
  simp [Builtin.len_,run_underlying h1,SW.den,SC.den,SV.den,goInt,IE.den,hl]
 ·obtain ⟨rfl,rfl⟩:=c1
  simp [Builtin.len_,run_underlying h1,SW.den,SC.den,SV.den,goInt,IE.den]
theorem KE (hT:dD P T) {s:TypeId} {x:SW} {f:Nat} {v:SV} {os:List BE} (h:yg T s x f=.ok v os) :
  (Instr.fieldAt s (x.den ρ ν) f).run P w=.ok (v.den ρ ν) w:=by
 unfold yg at h
 split at h
 ·rename_i ti a hs
  obtain ⟨d1,h1,c1,-⟩:=(hT.ty hs).und
  split at h
  ·rename_i fs e1
   rw [e1] at c1
   cases d1 <;> simp [fJ] at c1
   rename_i gs
   split at h
   ·rename_i off ft hf
    split at h
    ·rename_i tf htf
     split at h
     ·cases h
     ·rename_i hsz
      simp only [PR.one,PR.ok.injEq] at h
      obtain ⟨rfl,_⟩:=h
      rw [c1,List.getElem?_map] at hf
      simp only [Option.map_eq_some_iff] at hf
      obtain ⟨fd,FD,hfe⟩:=hf
      simp only [Prod.mk.injEq] at hfe
      obtain ⟨rfl,rfl⟩:=hfe
      have hsz':tf.size≠0:=by simpa using hsz
      have XF:gs[f]?=some fd:=by simpa using FD
      simp [Instr.fieldAt,run_underlying h1,XF,SW.den,SC.den,SV.den,Instr.sureAddr,fieldPlace,(hT.ty htf).size,hsz',abf]
    ·cases h
   ·cases h
  ·cases h
 ·cases h
theorem Um (hT:dD P T) {s:TypeId} {x:SW} {f:Nat} {v:SV} {os:List BE} (h:Lv T s x f=.ok v os) :
  (Instr.field s (x.den ρ ν) f).run P w=.ok (v.den ρ ν) w:=by
 unfold Lv at h
 split at h
 ·rename_i ti cs hs
  obtain ⟨d1,h1,c1,-⟩:=(hT.ty hs).und
  split at h
  ·rename_i fs e1
   rw [e1] at c1
   cases d1 <;> simp [fJ] at c1
   rename_i gs
   split at h
   ·rename_i off ft hf
    split at h
    ·rename_i y hy
     simp only [PR.ok.injEq] at h
     obtain ⟨rfl,_⟩:=h
     rw [c1,List.getElem?_map] at hf
     simp only [Option.map_eq_some_iff] at hf
     obtain ⟨fd,FD,hfe⟩:=hf
     simp only [Prod.mk.injEq] at hfe
     obtain ⟨rfl,rfl⟩:=hfe
     have XF:gs[f]?=some fd:=by simpa using FD
     have:=qm (w:=w) (ρ:=ρ) (ν:=ν) hT hy
     simp [Instr.field,run_underlying h1,XF,SW.den,asAgg,SV.den,this]
    ·cases h
   ·cases h
  ·cases h
 ·cases h
theorem Un (hT:dD P T) {t:TypeId} {x i:SW} {v:SV} {os:List BE} (h:Lx T t x i=.ok v os) :
  (Instr.index t (x.den ρ ν) (i.den ρ ν)).run P w=.ok (v.den ρ ν) w:=by
 unfold Lx at h
 split at h
 ·rename_i ti cs k n hs
  obtain ⟨d1,h1,c1,-⟩:=(hT.ty hs).und
  split at h
  ·rename_i len et e1
   rw [e1] at c1
   cases d1 <;> simp [fJ] at c1
   obtain ⟨rfl,rfl⟩:=c1
   split at h
   ·rename_i hn
    replace hn:=of_decide_eq_true hn
    split at h
    ·rename_i te hte
     split at h
     ·rename_i y hy
      simp only [PR.ok.injEq] at h
      obtain ⟨rfl,_⟩:=h
      have:=qm (w:=w) (ρ:=ρ) (ν:=ν) hT hy
      simp only [Instr.index,SW.den,SC.den,SV.den,asIntOf,Sem.run_bind,Sem.run_pure,Result.andThen_ok,run_underlying h1,IE.den]
      rw [if_pos hn]
      simp [(hT.ty hte).size,this]
      cases y <;> rfl
     ·cases h
    ·cases h
   ·cases h
  ·cases h
 ·cases h
theorem den_add {a b:SA} {n:Nat} (hb:b.aC=a.aC) (ho:b.off ρ=a.off ρ+n):(a.den ρ ν).add n=b.den ρ ν:=by
 unfold SA.den
 rw [hb,ho,Addr.add_add]
theorem KF (hT:dD P T) {t:TypeId} {x i:SW} {v:SV} {os:List BE} (h:yh T t x i=.ok v os) (ho:∀o∈os,o.den ρ=true) :
  (Instr.indexAt t (x.den ρ ν) (i.den ρ ν)).run P w=.ok (v.den ρ ν) w:=by
 unfold yh at h
 split at h
 ·rename_i ti k e hs
  obtain ⟨d1,h1,c1,-⟩:=(hT.ty hs).und
  split at h
  ·rename_i et a len cap e1
   rw [e1] at c1
   cases d1 <;> simp [fJ] at c1
   subst c1
   split at h
   ·rename_i te hte
    split at h
    ·rename_i b os' hb
     simp only [PR.one,PR.ok.injEq] at h
     obtain ⟨rfl,rfl⟩:=h
     have o1:=of_decide_eq_true (ho (.ai (.lit 0) e) (by simp))
     have o2:=of_decide_eq_true (ho (.bO e len) (by simp))
     simp only [IE.den] at o1
     obtain ⟨g1,g2⟩:=Cz hb (fun o hm=>ho o (by simp [hm])) o1
     have hlt:e.den ρ<((len.den ρ).toNat:Int):=by omega
     simp only [Instr.indexAt,SW.den,SC.den,SV.den,asIntOf,Sem.run_bind,Sem.run_pure,Result.andThen_ok,run_underlying h1]
     rw [if_pos ⟨o1,hlt⟩]
     simp [(hT.ty hte).size,den_add (ν:=ν) g1 g2]
    ·cases h
   ·cases h
  ·rename_i et c a len cap e1
   rw [e1] at c1
   cases d1 <;> simp [fJ] at c1
   subst c1
   split at h
   ·rename_i te hte
    split at h
    ·rename_i b os' hb
     simp only [PR.one,PR.ok.injEq] at h
     obtain ⟨rfl,rfl⟩:=h
     have o0:=ho c.mF (by simp)
     rw [BE.iP] at o0
     have o1:=of_decide_eq_true (ho (.ai (.lit 0) e) (by simp))
     have o2:=of_decide_eq_true (ho (.bO e len) (by simp))
     simp only [IE.den] at o1
     obtain ⟨g1,g2⟩:=Cz hb (fun o hm=>ho o (by simp [hm])) o1
     have hlt:e.den ρ<((len.den ρ).toNat:Int):=by omega
     have hc:c.den ρ=false:=by simpa using o0
     simp only [Instr.indexAt,SW.den,SC.den,SV.den,hc,Bool.false_eq_true,if_false,asIntOf,Sem.run_bind,Sem.run_pure,Result.andThen_ok,run_underlying h1]
     rw [if_pos ⟨o1,hlt⟩]
     simp [(hT.ty hte).size,den_add (ν:=ν) g1 g2]
    ·cases h
   ·cases h
  ·rename_i n et a e1
   rw [e1] at c1
   cases d1 <;> simp [fJ] at c1
   obtain ⟨rfl,rfl⟩:=c1
   split at h
   ·rename_i te hte
    split at h
    ·rename_i b os' hb
     simp only [PR.one,PR.ok.injEq] at h
     obtain ⟨rfl,rfl⟩:=h
     have o1:=of_decide_eq_true (ho (.ai (.lit 0) e) (by simp))
     have o2:=of_decide_eq_true (ho (.bO e (.lit n)) (by simp))
     simp only [IE.den] at o1 o2
     obtain ⟨g1,g2⟩:=Cz hb (fun o hm=>ho o (by simp [hm])) o1
     simp only [Instr.indexAt,SW.den,SC.den,SV.den,asIntOf,Sem.run_bind,Sem.run_pure,Result.andThen_ok,run_underlying h1,Instr.sureAddr]
     rw [if_pos ⟨o1,o2⟩]
     simp [(hT.ty hte).size,den_add (ν:=ν) g1 g2]
    ·cases h
   ·cases h
  ·cases h
 ·cases h
theorem rP {k:IntKind} {n:Int} {y:Nat} {code:BoundsCode} (h0:0≤n) (h1:n≤y):(Instr.sliceBound (.int k n) y code).run P w=.ok n.toNat w:=by
 simp only [Instr.sliceBound,asIntOf,Sem.run_bind,Sem.run_pure,Result.andThen_ok]
 rw [if_pos ⟨h0,h1⟩]
 rfl
theorem Am (hT:dD P T) {kn:Kn} (hk:Kn.ok ρ kn) {t:TypeId} {x:SW} {lo hi:Option SW} {v:SV} {os:List BE} (h:Fy T kn t x lo hi=.ok v os) (ho:∀o∈os,o.den ρ=true) :
  (Instr.sliceAt t (x.den ρ ν) (lo.map (·.den ρ ν)) (hi.map (·.den ρ ν)) none).run P w=.ok (v.den ρ ν) w:=by
 unfold Fy at h
 split at h
 case h_2=>cases h
 rename_i ti a len cap hs
 obtain ⟨d1,h1,c1,-⟩:=(hT.ty hs).und
 split at h
 case h_2=>cases h
 rename_i et e1
 rw [e1] at c1
 cases d1 <;> simp [fJ] at c1
 subst c1
 split at h
 case h_2=>cases h
 rename_i te hte
 simp only at h
 split at h
 case h_2=>cases h
 rename_i hE lE hh hl
 have hhi:(hi=none∧hE=len)∨∃k,hi=some (.one (.int k hE)):=by
  split at hh
  ·simp at hh;exact .inl ⟨rfl,hh.symm⟩
  ·rename_i k e;simp at hh;subst hh;exact .inr ⟨k,rfl⟩
  ·cases hh
 have hlo:(lo=none∧lE=.lit 0)∨∃k,lo=some (.one (.int k lE)):=by
  split at hl
  ·simp at hl;exact .inl ⟨rfl,hl.symm⟩
  ·rename_i k e;simp at hl;subst hl;exact .inr ⟨k,rfl⟩
  ·cases hl
 clear hh hl
 have key:∀(b:SA),(∀o∈([.ai (.lit 0) lE,.ai lE hE,.ai hE cap,.ai (.lit 0) len]:List BE),o.den ρ=true) →
   (lE.den ρ=cap.den ρ→b=a)→(¬lE.den ρ=cap.den ρ→(a.den ρ ν).add ((lE.den ρ).toNat * te.size)=b.den ρ ν) →
   (Instr.sliceAt t ((SW.one (.sl a len cap)).den ρ ν) (lo.map (·.den ρ ν)) (hi.map (·.den ρ ν)) none).run P w =
    .ok ((SW.one (.sl b (hE.pq lE) (cap.pq lE))).den ρ ν) w:=by
  intro b Pq hb1 hb2
  have o1:=of_decide_eq_true (Pq (.ai (.lit 0) lE) (by simp))
  have o2:=of_decide_eq_true (Pq (.ai lE hE) (by simp))
  have o3:=of_decide_eq_true (Pq (.ai hE cap) (by simp))
  have o4:=of_decide_eq_true (Pq (.ai (.lit 0) len) (by simp))
  simp only [IE.den] at o1 o4
  have D7:(Instr.sliceBounds true (len.den ρ).toNat (cap.den ρ).toNat (lo.map (·.den ρ ν)) (hi.map (·.den ρ ν)) none).run P w =
    .ok ((lE.den ρ).toNat,(hE.den ρ).toNat,(cap.den ρ).toNat) w:=by
   have s1:∀k code,(Instr.sliceBound (.int k (hE.den ρ)) (cap.den ρ).toNat code).run P w=.ok (hE.den ρ).toNat w:=fun k code=>rP (by omega) (by omega)
   have s2:∀k code,(Instr.sliceBound (.int k (lE.den ρ)) (hE.den ρ).toNat code).run P w=.ok (lE.den ρ).toNat w:=fun k code=>rP (by omega) (by omega)
   rcases hhi with ⟨rfl,rfl⟩ | ⟨k,rfl⟩ <;> rcases hlo with ⟨rfl,rfl⟩ | ⟨k',rfl⟩ <;>
    simp [Instr.sliceBounds,SW.den,SC.den,s1,s2,IE.den]
  have e3:(hE.den ρ).toNat-(lE.den ρ).toNat=(hE.den ρ-lE.den ρ).toNat:=by omega
  have e4:(cap.den ρ).toNat-(lE.den ρ).toNat=(cap.den ρ-lE.den ρ).toNat:=by omega
  generalize lo.map (·.den ρ ν)=lv at D7 ⊢
  generalize hi.map (·.den ρ ν)=hv at D7 ⊢
  simp only [Instr.sliceAt,Instr.slice,SW.den,SC.den,Sem.run_bind,run_underlying h1,Result.andThen_ok,D7,(hT.ty hte).size,Sem.run_pure,IE.xZ,e3,e4]
  by_cases hc:lE.den ρ=cap.den ρ
  ·rw [if_pos (by rw [hc]),hb1 hc]
  ·rw [if_neg (by omega)]
   simp only [Option.map_some,hb2 hc]
 rcases hlo with ⟨rfl,rfl⟩ | ⟨k,rfl⟩
 ·simp only [if_true,PR.one,PR.ok.injEq] at h
  obtain ⟨rfl,rfl⟩:=h
  have:=key a ho (fun _=>rfl) (fun _=>by simp [IE.den,Addr.add])
  rw [this]
  simp [SV.den,SW.den,SC.den,IE.xZ,IE.den]
 ·simp only [Bool.false_eq_true,if_false] at h
  split at h
  ·rename_i hd
   simp only [PR.one,PR.ok.injEq] at h
   obtain ⟨rfl,rfl⟩:=h
   have hd':=BE.dw hk hd
   simp [BE.den] at hd'
   exact key a ho (fun _=>rfl) (fun hne=>absurd hd' hne)
  ·rename_i hd
   have hd':=BE.dw hk hd
   simp [BE.den] at hd'
   split at h
   ·rename_i b os' hb
    simp only [PR.one,PR.ok.injEq] at h
    obtain ⟨rfl,rfl⟩:=h
    have o1:=of_decide_eq_true (ho (.ai (.lit 0) lE) (by simp))
    simp only [IE.den] at o1
    obtain ⟨g1,g2⟩:=Cz hb (fun o hm=>ho o (List.mem_append_right _ hm)) o1
    have hadd:=den_add (ν:=ν) g1 g2
    exact key b (fun o hm=>ho o (List.mem_append_left _ hm)) (fun hc=>absurd hc hd') (fun _=>hadd)
   ·cases h
  ·cases h
theorem Dv (hT:dD P T) {t:TypeId} {lo hi:Option SW} {v:SV} {os:List BE} (h:yn T t lo hi=.ok v os) (ho:∀o∈os,o.den ρ=true) :
  (Instr.sliceAt t (.slice none 0 0) (lo.map (·.den ρ ν)) (hi.map (·.den ρ ν)) none).run P w=.ok (v.den ρ ν) w:=by
 unfold yn at h
 split at h
 case h_2=>cases h
 rename_i ti hs
 obtain ⟨d1,h1,c1,-⟩:=(hT.ty hs).und
 split at h
 case h_2=>cases h
 rename_i et e1
 rw [e1] at c1
 cases d1 <;> simp [fJ] at c1
 subst c1
 split at h
 case h_2=>cases h
 rename_i te hte
 split at h
 case h_2=>cases h
 rename_i hE lE hh hl
 have hhi:(hi=none∧hE=.lit 0)∨∃k,hi=some (.one (.int k hE)):=by
  split at hh
  ·simp at hh;exact .inl ⟨rfl,hh.symm⟩
  ·rename_i k e;simp at hh;subst hh;exact .inr ⟨k,rfl⟩
  ·cases hh
 have hlo:(lo=none∧lE=.lit 0)∨∃k,lo=some (.one (.int k lE)):=by
  split at hl
  ·simp at hl;exact .inl ⟨rfl,hl.symm⟩
  ·rename_i k e;simp at hl;subst hl;exact .inr ⟨k,rfl⟩
  ·cases hl
 clear hh hl
 simp only [PR.one,PR.ok.injEq] at h
 obtain ⟨rfl,rfl⟩:=h
 have o1:=of_decide_eq_true (ho (.ai (.lit 0) lE) (by simp))
 have o2:=of_decide_eq_true (ho (.ai lE hE) (by simp))
 have o3:=of_decide_eq_true (ho (.ai hE (.lit 0)) (by simp))
 simp only [IE.den] at o1 o3
 have z1:hE.den ρ=0:=by omega
 have z2:lE.den ρ=0:=by omega
 have D7:(Instr.sliceBounds true 0 0 (lo.map (·.den ρ ν)) (hi.map (·.den ρ ν)) none).run P w=.ok (0,0,0) w:=by
  have s1:∀k code,(Instr.sliceBound (.int k 0) 0 code).run P w=.ok 0 w:=fun k code=>rP (by omega) (by omega)
  rcases hhi with ⟨rfl,rfl⟩ | ⟨k,rfl⟩ <;> rcases hlo with ⟨rfl,rfl⟩ | ⟨k',rfl⟩ <;>
   simp [Instr.sliceBounds,SW.den,SC.den,z1,z2,s1]
 generalize lo.map (·.den ρ ν)=lv at D7 ⊢
 generalize hi.map (·.den ρ ν)=hv at D7 ⊢
 simp only [Instr.sliceAt,Instr.slice,Sem.run_bind,run_underlying h1,Result.andThen_ok,D7,(hT.ty hte).size,Sem.run_pure]
 rfl
theorem Uo (hT:dD P T) {kn:Kn} (hk:Kn.ok ρ kn) {t:TypeId} {x:SW} {lo hi:Option SW} {v:SV} {os:List BE} (h:tK T kn t x lo hi=.ok v os) (ho:∀o∈os,o.den ρ=true) :
  (Instr.sliceAt t (x.den ρ ν) (lo.map (·.den ρ ν)) (hi.map (·.den ρ ν)) none).run P w=.ok (v.den ρ ν) w:=by
 unfold tK at h
 split at h
 ·exact Dv hT h ho
 ·rename_i c a len cap
  split at h
  ·cases h
  ·rename_i hd
   have:(SW.one (.fw c a len cap)).den ρ ν=.slice none 0 0:=by simp [SW.den,SC.den,BE.dw hk hd]
   rw [this]
   exact Dv hT h ho
  ·rename_i hd
   have:(SW.one (.fw c a len cap)).den ρ ν=(SW.one (.sl a len cap)).den ρ ν:=by simp [SW.den,SC.den,BE.dw hk hd]
   rw [this]
   split at h
   ·rename_i b l m os' hs
    simp only [PR.ok.injEq] at h
    obtain ⟨rfl,rfl⟩:=h
    have e2:(SV.w (.one (.fw c b l m))).den ρ ν=(SV.w (.one (.sl b l m))).den ρ ν:=by simp [SV.den,SW.den,SC.den,BE.dw hk hd]
    rw [e2]
    exact Am hT hk hs ho
   ·exact Am hT hk h ho
 ·exact Am hT hk h ho
end
theorem Re {P:Program} {T:aY} {t:TypeId} {te:TI} {w:World} (hT:dD P T) (ht:T.ty t=some te) (hz:Ic te=true) (hi:FC te.d=true):(zeroValue t).run P w=.ok (.int .i64 0) w:=by
 obtain ⟨z,h1,h2,h3⟩:=(hT.ty ht).zeroV (w:=w) {} (fun _=>⟨0,0,none⟩)
 unfold Ic at hz
 split at hz
 ·rename_i n he
  simp at hz
  subst hz
  rw [he] at h2
  have ha:j6 z=false:=by
   rw [h3]
   unfold FC at hi
   split at hi
   ·rename_i hd;rw [hd];rfl
   ·cases hi
  have:z=.int .i64 0:=by
   cases z <;> simp [Value.cells,j6,SC.den,IE.den] at h2 ha <;> simp_all
  rw [h1,this]
 ·cases hz
theorem LC {P:Program} {T:aY} {t:TypeId} (hT:dD P T) (h:CE T t=true):∃kt et,P.underlying t=some (.map kt et)∧P.underlying kt=some (.int .i64)∧(∀w,(zeroValue et).run P w=.ok (.int .i64 0) w)∧nQ t=false:=by
 unfold CE at h
 split at h
 case h_2=>cases h
 rename_i ti hti
 split at h
 case h_2=>cases h
 rename_i kt et hd
 split at h
 case h_2=>cases h
 rename_i tk te hk he
 simp only [Bool.and_eq_true] at h
 obtain ⟨d1,e1,c1,-⟩:=(hT.ty hti).und
 obtain ⟨d2,e2,c2,-⟩:=(hT.ty hk).und
 rw [hd] at c1
 cases d1 <;> simp [fJ] at c1
 obtain ⟨rfl,rfl⟩:=c1
 have hk2:tk.d=.int .i64:=by
  have:=h.1.1
  unfold FC at this
  split at this
  ·assumption
  ·cases this
 rw [hk2] at c2
 cases d2 <;> simp [fJ] at c2
 rw [←iL c2] at e2
 exact ⟨_,_,e1,e2,fun w=>Re hT he h.2 h.1.2,(hT.ty hti).lt⟩
theorem Rf {ρ:Env} (ke:IE):(mapKey ke).den ρ=ke.den ρ+9223372036854775808:=by
 unfold mapKey
 rw [IE.kL]
 rfl
theorem Ao {sb:SB} {g:ae} (h:Al sb=some g):sb.aX=[g]∧sb.iN=true∧g.n1.dE=some 18446744073709551616∧g.s1=2∧g.n2=1∧g.s2=0∧g.lo=0∧g.ks=[.bool,.int .i64]:=by
 unfold Al at h
 split at h
 case h_2=>cases h
 rename_i g' hs
 rw [Option.ite_none_right_eq_some] at h
 obtain ⟨hc,h⟩:=h
 simp only [Option.some.injEq] at h
 subst h
 simp only [Bool.and_eq_true,beq_iff_eq] at hc
 obtain ⟨⟨⟨⟨⟨⟨c1,c2⟩,c3⟩,c4⟩,c5⟩,c6⟩,c7⟩:=hc
 refine ⟨hs,c1,?_,c3,c4,c5,c6,?_⟩
 ·split at c2
  ·rename_i n hn;simp at c2;rw [hn,c2]
  ·cases c2
 ·split at c7
  ·assumption
  ·cases c7
theorem uR {ρ:Env} {sb:SB} {g:ae} {ke:IE} (h:Al sb=some g) (ho:∀o∈ll sb ke,o.den ρ=true) :
  (-9223372036854775808≤ke.den ρ∧ke.den ρ≤9223372036854775807)∧(∀o∈sb.vT,o.den ρ=true) ∧
  ∀j,j<2→(Loc.sg 0 g (mapKey ke) (.lit 0) j).ok sb∧(∀o∈(Loc.sg 0 g (mapKey ke) (.lit 0) j).gH,o.den ρ=true)∧(Loc.sg 0 g (mapKey ke) (.lit 0) j).pos ρ=dL (ke.den ρ) j:=by
 obtain ⟨h1,h2,h3,h4,h5,h6,h7,h8⟩:=Ao h
 have a1:0≤(mapKey ke).den ρ:=of_decide_eq_true (ho (.ai (.lit 0) (mapKey ke)) (by simp [ll]))
 have a2:(mapKey ke).den ρ<18446744073709551616:=of_decide_eq_true (ho (.bO (mapKey ke) (.lit 18446744073709551616)) (by simp [ll]))
 have e:=Rf (ρ:=ρ) ke
 refine ⟨by omega,fun o hm=>ho o (by simp [ll,hm]),fun j hj=>⟨⟨by rw [h1];rfl,by rw [h8];exact hj⟩,fun o hm=>?_,?_⟩⟩
 ·have hn:=IE.aN (ρ:=ρ) h3
  simp only [Loc.gH,List.mem_cons,List.not_mem_nil,or_false] at hm
  rcases hm with rfl | rfl | rfl | rfl
  ·exact ho _ (by simp [ll])
  ·exact decide_eq_true (by rw [hn];exact a2)
  ·rfl
  ·rw [h5];rfl
 ·simp only [Loc.pos,IE.den,h4,h6,h7,e]
  unfold dL
  omega
theorem XG {P:Program} {T:aY} (hT:dD P T) {ρ:Env} {ν:Nat→Addr} {kn:Kn} (hk:Kn.ok ρ kn) {hp:List SB} {w:World} (hh:aH ρ ν hp w) {t:TypeId} {m k:SW} {ok:Bool} {v:SV} {os:List BE}
  (h:lookW T kn hp t m k ok=.ok v os) (ho:∀o∈os,o.den ρ=true):(Instr.lookup t (m.den ρ ν) (k.den ρ ν) ok).run P w=.ok (v.den ρ ν) w:=by
 unfold lookW at h
 split at h
 case isFalse=>cases h
 rename_i hty
 obtain ⟨kt,et,u1,u2,u3,-⟩:=LC hT hty
 split at h
 case h_2=>cases h
 rename_i b ke
 split at h
 case h_2=>cases h
 rename_i sb hsb
 split at h
 ·cases h
 rename_i hgr
 simp only [Bool.or_eq_true,not_or,Bool.not_eq_true] at hgr
 split at h
 ·cases h
 rename_i g hg
 have main:(∀o∈ll sb ke,o.den ρ=true)→∃es clock,w.heap[(ν b).block]?=some (.map es clock)∧kX es.toList∧sb.has ρ ν (lg es.toList):=by
  intro ho'
  obtain ⟨-,hnl,-⟩:=uR (ρ:=ρ) hg ho'
  obtain ⟨-,cs,h1,h2⟩:=hh.aC b sb hsb (SB.wK hgr.1 hnl) hgr.2
  have hmp:=(Ao hg).2.1
  obtain ⟨es,clock,e1,e2,e3⟩:=fC.map h1 hmp
  rw [e3] at h2
  exact ⟨es,clock,e1,e2,h2⟩
 have fin:∀e x,KJ ok e x (ll sb ke)=.ok v os→(∀es:Array MapEntry,kX es.toList→sb.has ρ ν (lg es.toList)→(∀o∈ll sb ke,o.den ρ=true)→(eG es.toList (ke.den ρ)).isSome=x∧(eG es.toList (ke.den ρ)).getD 0=e.den ρ) →
   (Instr.lookup t ((SW.one (.mp b)).den ρ ν) ((SW.one (.int .i64 ke)).den ρ ν) ok).run P w=.ok (v.den ρ ν) w:=by
  intro e x hv hx
  have hos:os=ll sb ke∧v=(if ok then .iF [.one (.int .i64 e),.one (.bool (.lit x))] else .w (.one (.int .i64 e))):=by
   unfold KJ at hv
   cases ok <;> simp at hv <;> exact ⟨hv.2.symm,by simpa using hv.1.symm⟩
  obtain ⟨rfl,rfl⟩:=hos
  obtain ⟨es,clock,e1,e2,e3⟩:=main ho
  obtain ⟨x1,x2⟩:=hx es e2 e3 ho
  have hr:=Ra u1 u2 (u3 w) e1 e2 (ke.den ρ) ok
  simp only [SW.den,SC.den]
  rw [hr,x1,x2]
  cases ok <;> simp [SV.den,SW.den,SC.den,BE.den]
 split at h
 ·cases h
 ·cases h
 rename_i c hc
 split at h
 ·cases h
 rename_i cb hcb
 have hcv:c=.bool cb:=by
  unfold pg at hcb
  split at hcb
  ·rename_i heq;simp at hcb;subst hcb;cases heq;rfl
  ·cases hcb
 have r0:∀es:Array MapEntry,sb.has ρ ν (lg es.toList)→(∀o∈ll sb ke,o.den ρ=true)→(eG es.toList (ke.den ρ)).isSome=cb.den ρ:=by
  intro es e3 ho'
  obtain ⟨⟨k1,k2⟩,-,hl⟩:=uR (ρ:=ρ) hg ho'
  obtain ⟨l1,l2,l3⟩:=hl 0 (by decide)
  have:=SB.H7 hk e3 l1 l2 hc
  rw [l3,(D6 es.toList k1 k2).1,hcv] at this
  simpa [SC.den] using this
 split at h
 ·cases h
 ·rename_i hdec
  refine fin _ _ h fun es e2 e3 ho'=>?_
  have:=r0 es e3 ho'
  rw [BE.dw hk hdec] at this
  refine ⟨this,?_⟩
  cases hm:eG es.toList (ke.den ρ) with
  | none=>rfl
  | some u=>rw [hm] at this;cases this
 ·rename_i hdec
  split at h
  case h_2=>cases h
  case h_3=>cases h
  rename_i d hd
  split at h
  case h_2=>cases h
  rename_i e he
  have hdv:d=.int .i64 e:=by
   unfold nz at he
   split at he
   ·rename_i heq;simp at he;obtain ⟨rfl,rfl⟩:=he;cases heq;rfl
   ·cases he
  refine fin _ _ h fun es e2 e3 ho'=>?_
  obtain ⟨⟨k1,k2⟩,-,hl⟩:=uR (ρ:=ρ) hg ho'
  obtain ⟨l1,l2,l3⟩:=hl 1 (by decide)
  have:=SB.H7 hk e3 l1 l2 hd
  rw [l3,(D6 es.toList k1 k2).2,hdv] at this
  refine ⟨by rw [r0 es e3 ho',BE.dw hk hdec],by simpa [SC.den] using this⟩
theorem Uq {ρ:Env} {ν:Nat→Addr} {gl:List (Nat × Nat)} {kn:Kn} {fr:Fr} {a:Act} (hg:iQ ν gl) (hk:Kn.ok ρ kn) (hf:ou ρ ν fr a) :
  ∀{l:List (Nat × Operand)} {ps:List (Nat × SW)},Jq (l.map fun p=>(p.1,dK gl kn fr p.2))=some ps→l.map (fun p=>(p.1,a.eval p.2))=ps.map fun p=>(p.1,p.2.den ρ ν)
 | [],ps,h=>by simp [Jq] at h;subst h;rfl
 | (i,x) :: r,ps,h=>by
  simp only [List.map_cons] at h
  unfold Jq at h
  split at h
  ·rename_i heq;cases heq
  ·rename_i j y r' heq
   simp only [List.cons.injEq,Prod.mk.injEq] at heq
   obtain ⟨⟨rfl,hx⟩,rfl⟩:=heq
   simp only [Option.map_eq_some_iff] at h
   obtain ⟨qs,hqs,rfl⟩:=h
   have:=lh hg hk hf hx
   simp only [List.map_cons,Uq hg hk hf hqs,this]
   rfl
  ·cases h
theorem O4 {ρ:Env} {ν:Nat→Addr} {v:SV} {b:Nat} (h:DZ v=some b):v.den ρ ν=.pointer (some (ν b)):=by
 unfold DZ at h
 split at h
 ·rename_i a
  split at h
  ·rename_i ha
   simp at h
   subst h
   have:=SA.aN (ρ:=ρ) ha
   simp [SV.den,SW.den,SC.den,SA.den,this,Addr.add_zero]
  ·cases h
 ·cases h
theorem Aq {ρ:Env} {ν:Nat→Addr} {gl:List (Nat × Nat)} {kn:Kn} {fr:Fr} {a:Act} (hg:iQ ν gl) (hk:Kn.ok ρ kn) (hf:ou ρ ν fr a) :
  ∀{l:List Operand} {bs:List Nat},oM (l.map (dK gl kn fr))=some bs→l.map a.eval=bs.map fun b=>Value.pointer (some (ν b))
 | [],bs,h=>by simp [oM] at h;subst h;rfl
 | x :: r,bs,h=>by
  simp only [List.map_cons] at h
  cases hx:dK gl kn fr x with
  | none=>simp [hx,oM] at h
  | some v =>
   simp only [hx,oM] at h
   split at h
   ·rename_i b cs hb hcs
    simp at h
    subst h
    simp only [List.map_cons,Aq hg hk hf hcs,lh hg hk hf hx,O4 hb]
   ·cases h
theorem Ar {v:SV} {b:BE} (h:pg v=some b):v=.w (.one (.bool b)):=by
 unfold pg at h
 split at h
 ·simp at h;rw [h]
 ·cases h
set_option maxHeartbeats 1000000 in
theorem uS {P:Program} {T:aY} (hT:dD P T) {ρ:Env} {ν:Nat→Addr} {gl:List (Nat × Nat)} {kn:Kn} {fr:Fr} {hp:List SB} {a:Act} {w:World}
  (hg:iQ ν gl) (hk:Kn.ok ρ kn) (hf:ou ρ ν fr a) (hh:aH ρ ν hp w) {o:Oper} {v:SV} {os:List BE}
  (h:wN T gl kn fr hp o=.ok v os) (ho:∀b∈os,b.den ρ=true):(execOp a.eval o).run P w=.ok (.value (v.den ρ ν)) w:=by
 have eH:∀{x v},dK gl kn fr x=some v→a.eval x=v.den ρ ν:=fun hx=>lh hg hk hf hx
 unfold wN at h
 unfold execOp
 split at h
 case h_1 x ho' =>
  split at h
  ·rename_i v' hx
   simp only [PR.ok.injEq] at h
   obtain ⟨rfl,rfl⟩:=h
   simp [ho',eH hx]
  ·cases h
 case h_2 x ho' =>
  split at h
  ·rename_i v' hx
   simp only [PR.ok.injEq] at h
   obtain ⟨rfl,rfl⟩:=h
   simp [ho',eH hx]
  ·cases h
 case h_3 c x y ho' =>
  simp only [ho']
  split at h
  ·cases h
  rename_i cb hcb
  simp only [Option.bind_eq_some_iff] at hcb
  obtain ⟨vc,hvc,hvb⟩:=hcb
  have hc:=eH hvc
  rw [Ar hvb] at hc
  simp only [SV.den,SW.den,SC.den] at hc
  simp only [hc,asBool,Sem.run_bind,Sem.run_pure,Result.andThen_ok]
  split at h
  ·rename_i hd
   have hd':=BE.dw hk hd
   split at h
   ·rename_i v' hx
    simp only [PR.ok.injEq] at h
    obtain ⟨rfl,rfl⟩:=h
    simp [hd',eH hx]
   ·cases h
  ·rename_i hd
   have hd':=BE.dw hk hd
   split at h
   ·rename_i v' hx
    simp only [PR.ok.injEq] at h
    obtain ⟨rfl,rfl⟩:=h
    simp [hd',eH hx]
   ·cases h
  ·split at h
   ·rename_i p q hp' hq'
    simp only [Option.bind_eq_some_iff] at hp' hq'
    obtain ⟨vx,hvx,hbx⟩:=hp'
    obtain ⟨vy,hvy,hby⟩:=hq'
    simp only [PR.one,PR.ok.injEq] at h
    obtain ⟨rfl,rfl⟩:=h
    cases hcd:cb.den ρ
    ·have hk':Kn.ok ρ ((cb,false) :: kn):=by
      intro r hr
      rcases List.mem_cons.1 hr with rfl | hr
      ·exact hcd
      ·exact hk r hr
     have:=lh hg hk' hf hvy
     rw [Ar hby] at this
     simp [this,SV.den,SW.den,SC.den,BE.Li,hcd]
    ·have hk':Kn.ok ρ ((cb,true) :: kn):=by
      intro r hr
      rcases List.mem_cons.1 hr with rfl | hr
      ·exact hcd
      ·exact hk r hr
     have:=lh hg hk' hf hvx
     rw [Ar hbx] at this
     simp [this,SV.den,SW.den,SC.den,BE.Li,hcd]
   ·cases h
 case h_4 t x ho' =>
  simp only [ho']
  split at h
  ·rename_i sa hx
   have:=Jp hT hk hh h ho
   simp [eH hx,SV.den,SW.den,SC.den,Instr.loadAt,Instr.sureAddr,this]
  ·cases h
 case h_5 x ho' =>
  simp only [ho']
  split at h
  ·rename_i sa hx
   simp only [PR.one,PR.ok.injEq] at h
   obtain ⟨rfl,rfl⟩:=h
   simp [eH hx,SV.den,SW.den,SC.den]
  ·rename_i f c hx
   simp only [PR.one,PR.ok.injEq] at h
   obtain ⟨rfl,rfl⟩:=h
   simp [eH hx,SV.den,SW.den,SC.den]
  ·cases h
 case h_6 op t x y ty ho' =>
  simp only [ho']
  split at h
  ·rename_i p q hx hy
   have:=abj hT h ho (ρ:=ρ) (ν:=ν) (w:=w)
   simp only [eH hx,eH hy,SV.den]
   simp only [Sem.run_bind] at this ⊢
   rw [this]
   rfl
  ·cases h
 case h_7 op t x ho' =>
  simp only [ho']
  split at h
  ·rename_i b hx
   simp only [PR.one,PR.ok.injEq] at h
   obtain ⟨rfl,rfl⟩:=h
   simp [eH hx,SV.den,SW.den,SC.den,Op.unary,BE.iP]
  ·rename_i k e hx
   simp only [PR.one,PR.ok.injEq] at h
   obtain ⟨rfl,XE⟩:=h
   have:=qo (wr:=T.wr) (ρ:=ρ) (k:=k) (e:=IE.pq (.lit 0) e) (by rw [XE];exact ho)
   simp [eH hx,SV.den,SW.den,SC.den,Op.unary,Op.intArith,this,IE.xZ,IE.den]
  ·cases h
 case h_8 s d x ho' =>
  simp only [ho']
  split at h
  ·rename_i y hx
   have:=XD hT h ho (ρ:=ρ) (ν:=ν) (w:=w)
   simp [eH hx,SV.den,this]
  ·cases h
 case h_9 t x ho' =>
  simp only [ho']
  split at h
  ·rename_i c ti hx hti
   obtain ⟨d,hd,hc,-⟩:=(hT.ty hti).und
   have hcon:P.concrete t=true:=by
    unfold Program.concrete
    rw [hd]
    cases hd':ti.d <;> rw [hd'] at h hc <;> simp only at h <;> first | (cases h;done) | (cases d <;> simp [fJ] at hc <;> rfl)
   have hv:v=.w (.one (.iface t c))∧os=[]:=by
    split at h
    ·cases h
    ·cases h
    ·simp only [PR.one,PR.ok.injEq] at h;exact ⟨h.1.symm,h.2.symm⟩
   obtain ⟨rfl,rfl⟩:=hv
   simp [eH hx,SV.den,SW.den,SC.den,run_makeInterface w t _ hcon]
  ·cases h
 case h_10 f first jS ho' =>
  simp only [ho']
  split at h
  ·rename_i hfe
   split at h
   ·rename_i bs hbs
    simp only [PR.one,PR.ok.injEq] at h
    obtain ⟨rfl,rfl⟩:=h
    have h1:=Aq hg hk hf hbs
    have h2:first=#[]:=by simpa using hfe
    subst h2
    have h3:jS.map a.eval=(bs.map fun b=>Value.pointer (some (ν b))).toArray:=by
     rw [←h1]
     obtain ⟨l⟩:=jS
     simp
    simp [Instr.makeFunc,h3,SV.den,SW.den,SC.den]
   ·cases h
  ·cases h
 case h_11 t x lo hi ho' =>
  simp only [ho']
  have go:∀y l r,dK gl kn fr x=some (.w y)→lo.map a.eval=l.map (·.den ρ ν)→hi.map a.eval=r.map (·.den ρ ν)→tK T kn t y l r=.ok v os →
    (do pure (.value (←Instr.sliceAt t (a.eval x) (lo.map a.eval) (hi.map a.eval) ((none:Option Operand).map a.eval))):Sem Next).run P w=.ok (.value (v.den ρ ν)) w:=by
   intro y l r hx hl hr hs
   have:=Uo hT hk hs ho (ρ:=ρ) (ν:=ν) (w:=w)
   rw [hl,hr,eH hx]
   simp [SV.den,this]
  split at h
  ·rename_i y hx hl hr
   refine go y none none hx ?_ ?_ h
   ·cases lo <;> simp at hl ⊢
   ·cases hi <;> simp at hr ⊢
  ·rename_i y l hx hl hr
   refine go y (some l) none hx ?_ ?_ h
   ·cases lo <;> simp at hl ⊢
    rw [eH hl];rfl
   ·cases hi <;> simp at hr ⊢
  ·rename_i y r hx hl hr
   refine go y none (some r) hx ?_ ?_ h
   ·cases lo <;> simp at hl ⊢
   ·cases hi <;> simp at hr ⊢
    rw [eH hr];rfl
  ·rename_i y l r hx hl hr
   refine go y (some l) (some r) hx ?_ ?_ h
   ·cases lo <;> simp at hl ⊢
    rw [eH hl];rfl
   ·cases hi <;> simp at hr ⊢
    rw [eH hr];rfl
  ·cases h
 case h_12 s x f ho' =>
  simp only [ho']
  split at h
  ·rename_i y hx
   have:=KE hT h (ρ:=ρ) (ν:=ν) (w:=w)
   simp [eH hx,SV.den,this]
  ·cases h
 case h_13 s x f ho' =>
  simp only [ho']
  split at h
  ·rename_i y hx
   have:=Um hT h (ρ:=ρ) (ν:=ν) (w:=w)
   simp [eH hx,SV.den,this]
  ·cases h
 case h_14 t x i ho' =>
  simp only [ho']
  split at h
  ·rename_i y j hx hi
   have:=KF hT h ho (ρ:=ρ) (ν:=ν) (w:=w)
   simp [eH hx,eH hi,SV.den,this]
  ·cases h
 case h_15 x i ho' =>
  simp only [ho']
  split at h
  ·rename_i xs hx
   split at h
   ·rename_i y hy
    simp only [PR.ok.injEq] at h
    obtain ⟨rfl,rfl⟩:=h
    simp [eH hx,SV.den,Instr.extract,hy]
   ·cases h
  ·cases h
 case h_16 t parts ho' =>
  simp only [ho']
  split at h
  ·rename_i ps hps
   have h1:=Uq hg hk hf hps
   have:=Uk hT h (ρ:=ρ) (ν:=ν) (w:=w)
   have h2:(parts.map fun (p:Nat × Operand)=>(p.1,a.eval p.2))=(ps.map fun p=>(p.1,p.2.den ρ ν)).toArray:=by
    rw [←h1]
    obtain ⟨l⟩:=parts
    simp
   simp only [h2,Sem.run_bind,this,Result.andThen_ok]
   rfl
  ·cases h
 case h_17 args argTypes ho' =>
  simp only [ho']
  split at h
  ·rename_i x t hx ht
   split at h
   ·rename_i y hy
    have e1:args=#[x]:=by obtain ⟨l⟩:=args;simp at hx;rw [hx]
    have e2:argTypes=#[t]:=by obtain ⟨l⟩:=argTypes;simp at ht;rw [ht]
    subst e1 e2
    have:=abk (ty:=o.type) hT h ho (ρ:=ρ) (ν:=ν) (w:=w)
    simp [resolve,invoke,builtin,eH hy,SV.den,this]
   ·cases h
  ·cases h
 case h_18 args argTypes ho' =>
  simp only [ho']
  split at h
  ·rename_i k p k' q hx
   obtain ⟨l⟩:=args
   simp only [PR.one,PR.ok.injEq] at h
   obtain ⟨rfl,rfl⟩:=h
   rcases l with _ | ⟨x,_ | ⟨y,_ | ⟨z,r⟩⟩⟩ <;> simp only [List.map_cons,List.map_nil,List.cons.injEq,and_true,reduceCtorEq,and_false] at hx
   have e:(if (q.den ρ)<(p.den ρ) then q.den ρ else p.den ρ)=min (p.den ρ) (q.den ρ):=by split <;> omega
   simp [resolve,invoke,builtin,eH hx.1,eH hx.2,SV.den,SW.den,SC.den,Builtin.min_,Builtin.min2,IE.den,e]
  ·cases h
 case h_19 args argTypes ho' =>
  simp only [ho']
  split at h
  ·rename_i k p k' q hx
   obtain ⟨l⟩:=args
   simp only [PR.one,PR.ok.injEq] at h
   obtain ⟨rfl,rfl⟩:=h
   rcases l with _ | ⟨x,_ | ⟨y,_ | ⟨z,r⟩⟩⟩ <;> simp only [List.map_cons,List.map_nil,List.cons.injEq,and_true,reduceCtorEq,and_false] at hx
   have e:(if (p.den ρ)<(q.den ρ) then q.den ρ else p.den ρ)=max (p.den ρ) (q.den ρ):=by split <;> omega
   simp [resolve,invoke,builtin,eH hx.1,eH hx.2,SV.den,SW.den,SC.den,Builtin.max_,Builtin.max2,IE.den,e]
  ·cases h
 case h_20 t m k ok ho' =>
  split at h
  ·rename_i x y hx hy
   have:=XG hT hk hh h ho
   simp [ho',eH hx,eH hy,SV.den] at this ⊢
   simp [this]
  ·cases h
 case h_21 t x i ho' =>
  simp only [ho']
  split at h
  ·rename_i y j hx hi
   have:=Un hT h (ρ:=ρ) (ν:=ν) (w:=w)
   simp [eH hx,eH hi,SV.den,this]
  ·cases h
 case h_22=>cases h
section
variable {P:Program} {ops:Array Oper} {Q:Exit→Act→World→Prop} {md:Region.Mode} {S:World→Prop} {m:Option Nat}
def asked (m:Option Nat) (listed:Array Bool):Prop:=∀c,m=some c→listed.getD c true=false
def jw (P:Program) (md:Region.Mode) (ops:Array Oper) (Q:Exit→Act→World→Prop) (S:World→Prop) (m:Option Nat):Nat→Array Bool→Act→World→Prop
 | 0,listed,a,w=>Region.ready md ops listed=[]∧Q .normal a w
 | fuel+1,listed,a,w =>
  (Region.ready md ops listed=[]→Q .normal a w) ∧
  ∀i∈Region.ready md ops listed,wpOp P ops Q i (fun a' w'=>(asked m (listed.setIfInBounds i true)→S w')∧jw P md ops Q S m fuel (listed.setIfInBounds i true) a' w') a w
theorem FE:∀(fuel:Nat) (listed:Array Bool) (a:Act) (w:World),jw P md ops Q S m fuel listed a w→wpAny P md ops Q fuel listed a w
 | 0,_,_,_,h=>h
 | fuel+1,_,_,_,h=>⟨h.1,fun i hi=>wpOp_mono (fun a' w' h'=>FE fuel _ a' w' h'.2) (h.2 i hi)⟩
theorem Dw {S':World→Prop} (h:∀w,S' w→S w):∀{fuel:Nat} {listed:Array Bool} {a:Act} {w:World},jw P md ops Q S' m fuel listed a w→jw P md ops Q S m fuel listed a w
 | 0,_,_,_,hh=>hh
 | _+1,_,_,_,hh=>⟨hh.1,fun i hi=>wpOp_mono (fun _ _ h'=>⟨fun hm=>h _ (h'.1 hm),Dw h h'.2⟩) (hh.2 i hi)⟩
theorem yt {listed:Array Bool} {i:Nat} (h:asked m (listed.setIfInBounds i true)):asked m listed:=by
 intro c hc
 have h1:=h c hc
 by_cases hic:i=c
 ·subst hic
  rcases Nat.lt_or_ge i listed.size with h' | h'
  ·simp [Array.getD_eq_getD_getElem?,Array.getElem?_setIfInBounds,h'] at h1
  ·rwa [Array.setIfInBounds_eq_of_size_le h'] at h1
 ·rwa [getD_set_ne true hic] at h1
theorem D8 (i j c:Nat) (listed:Array Bool) (h:i≠c):((listed.setIfInBounds i true).setIfInBounds j true).getD c true=(listed.setIfInBounds j true).getD c true:=by
 by_cases hjc:j=c
 ·subst hjc
  simp only [Array.getD_eq_getD_getElem?,Array.getElem?_setIfInBounds,Array.size_setIfInBounds]
  simp [h]
 ·rw [getD_set_ne true hjc,getD_set_ne true h,getD_set_ne true hjc]
theorem Dx {S':World→Prop}:∀{fuel:Nat} {listed:Array Bool} {a:Act} {w:World},¬asked m listed→jw P md ops Q S' m fuel listed a w→jw P md ops Q S m fuel listed a w
 | 0,_,_,_,_,hh=>hh
 | n+1,_,_,_,hf,hh=>⟨hh.1,fun i hi=>wpOp_mono (fun _ _ h'=>⟨fun hm=>absurd (yt hm) hf,Dx (fun hm=>hf (yt hm)) h'.2⟩) (hh.2 i hi)⟩
structure KL (md:Region.Mode) (ops:Array Oper) (listed:Array Bool) (i:Nat) (l:List Nat):Prop where
 un:∀j∈l,listed.getD j true=false∧j≠i
 on:∀j∈l,∃o e,ops[j]?=some o∧e∈o.after∧Region.binds md e=true∧(e.on=i∨e.on∈l)
theorem LD {i:Nat} {oi:Oper} {v:Value} {S1:World→Prop} {l:List Nat} (hi:ops[i]?=some oi) (hsel:∀(j:Nat) (o:Oper) cs b,ops[j]?=some o→o.op≠.select cs b)
  (hQ:∀c a w,Q (.panic c) (a.put oi.dst v) w→Q (.panic c) a w) (hne:m≠some i) (hS1:(∀w,S1 w)∨(S1=S∧∀c,m=some c→c∈l)) :
  ∀(fuel:Nat) (listed:Array Bool) (a:Act) (w:World),
   (∀j oj,ops[j]?=some oj→j≠i→listed.getD j true=false→(∀e∈oj.after,Region.binds md e=true→e.on≠i)→oi.apart ops oj=true) →
   i∈Region.ready md ops listed→YieldsIf P ops S1 oi v a→S1 w→(asked m (listed.setIfInBounds i true)→S w)→KL md ops listed i l →
   jw P md ops Q S m fuel (listed.setIfInBounds i true) (a.put oi.dst v) w→jw P md ops Q S m (fuel+1) listed a w:=by
 intro fuel
 induction fuel with
 | zero =>
  intro listed a w _ hr hy hS hS0 _ H
  refine ⟨fun h=>(by rw [h] at hr;cases hr),fun j hj=>?_⟩
  by_cases hji:j=i
  ·subst hji;exact hy.wpOp hi hS ⟨hS0,H⟩
  ·have:=ready_mono hj hji
   rw [H.1] at this
   cases this
 | succ fuel ih =>
  intro listed a w hfree hr hy hS hS0 hW H
  refine ⟨fun h=>(by rw [h] at hr;cases hr),fun j hj=>?_⟩
  by_cases hji:j=i
  ·subst hji;exact hy.wpOp hi hS ⟨hS0,H⟩
  ·have h1:=H.2 j (ready_mono hj hji)
   obtain ⟨hjun,oj,hoj,hall⟩:=mem_ready.1 hj
   have hnot:∀e∈oj.after,Region.binds md e=true→e.on≠i:=fun e he hb heq=>by
    have h1:=hall e he hb
    have h0:=(mem_ready.1 hr).1
    rw [heq] at h1
    rcases Nat.lt_or_ge i listed.size with h' | h'
    ·simp [h'] at h0 h1;rw [h0] at h1;cases h1
    ·simp [Array.getElem?_eq_none h'] at h1
   have hjl:j ∉ l:=fun hjl=>by
    obtain ⟨o,e,ho,he,hb,hon⟩:=hW.on j hjl
    rw [hoj] at ho
    cases ho
    rcases hon with hon | hon
    ·exact hnot e he hb hon
    ·have h1:=hall e he hb
     have h0:=(hW.un _ hon).1
     rcases Nat.lt_or_ge e.on listed.size with h' | h'
     ·simp [h'] at h0 h1;rw [h0] at h1;cases h1
     ·simp [Array.getElem?_eq_none h'] at h1
   have h2:=wpOp_putIf hoj (hfree j oj hoj hji hjun hnot) (fun cs b=>hsel i oi cs b hi) (fun cs b=>hsel j oj cs b hoj) hQ hy h1
   have hfree':∀k ok,ops[k]?=some ok→k≠i→(listed.setIfInBounds j true).getD k true=false →
     (∀e∈ok.after,Region.binds md e=true→e.on≠i)→oi.apart ops ok=true:=fun k ok hk hki hun hno=>by
    refine hfree k ok hk hki ?_ hno
    by_cases hjk:j=k
    ·subst hjk;exact hjun
    ·rw [getD_set_ne true hjk] at hun;exact hun
   have hW':KL md ops (listed.setIfInBounds j true) i l:=⟨fun k hk=>by
     obtain ⟨a2,a3⟩:=hW.un k hk
     refine ⟨?_,a3⟩
     rw [getD_set_ne true fun e=>hjl (by rw [e];exact hk)]
     exact a2,hW.on⟩
   refine wpOp_mono (fun a' w' h3=>?_) h2
   have qd:asked m (listed.setIfInBounds j true)→S w':=fun hm=>h3.2.1 fun c hc=>by
    rw [D8 i j c listed (fun e=>hne (e ▸ hc))]
    exact hm c hc
   have hS':S1 w':=by
    rcases hS1 with h | ⟨h,hm⟩
    ·exact h w'
    ·rw [h]
     exact qd fun c hc=>(hW'.un c (hm c hc)).1
   refine ⟨qd,ih (listed.setIfInBounds j true) a' w' hfree' (ready_mono hr (Ne.symm hji)) h3.1 hS' (fun hm=>qd (yt hm)) hW' ?_⟩
   rw [Array.setIfInBounds_comm _ _ hji]
   exact h3.2.2
theorem O5 {listed:Array Bool} {a:Act} {w:World} (hr:Region.ready md ops listed=[]) (h:Q .normal a w):∀fuel,jw P md ops Q S m fuel listed a w
 | 0=>⟨hr,h⟩
 | _+1=>⟨fun _=>h,by rw [hr];simp⟩
theorem O6 {id:Nat} {a:Act} {w:World} (hm:P.follows .mixedOrders=true)
  (h:jw P .any ops Q S m ops.size (Array.replicate ops.size false) a {w with drawn:=w.drawn+1}):(Code.region id ops true).wp P Q a w :=
 wp_region_any hm (FE _ _ _ _ h)
end
def Reach (P:Program) (f:FuncId) (R:Ending→World→Prop) (a:Act) (k:List Item) (w:World):Prop :=
 ∀(b:Frame),b.fn=f→b.kind=.normal→∀cs,∃e w' fr,R e w'∧Comes P (lone (b.at a k) cs w) (lone fr cs w') e∧fr.fn=f∧fr.leaving P w' e
section
variable {P:Program} {f:FuncId} {R:Ending→World→Prop} {a a':Act} {k k':List Item} {w w':World}
theorem Reach.steps (h:∀(b:Frame) (cs:List Frame),Steps P (lone (b.at a k) cs w) (lone (b.at a' k') cs w')) (hr:Reach P f R a' k' w'):Reach P f R a k w:=by
 intro b hb hk cs
 obtain ⟨e,w2,fr,hR,hc,h1,h2⟩:=hr b hb hk cs
 exact ⟨e,w2,fr,hR,Comes.of_steps (h b cs) hc,h1,h2⟩
theorem Reach.step (h:∀(b:Frame) (cs:List Frame),Go.step P (lone (b.at a k) cs w)=.next (lone (b.at a' k') cs w')) (hr:Reach P f R a' k' w'):Reach P f R a k w :=
 Reach.steps (fun b cs=>.one (h b cs)) hr
theorem Reach.mono {R':Ending→World→Prop} (hr:Reach P f R a k w) (h:∀e w,R e w→R' e w):Reach P f R' a k w:=by
 intro b hb hk cs
 obtain ⟨e,w2,fr,hR,r⟩:=hr b hb hk cs
 exact ⟨e,w2,fr,h _ _ hR,r⟩
def kg (P:Program) (f:FuncId) (R:Ending→World→Prop) (k:List Item):Exit→Act→World→Prop:=fun e a w=>e=.normal∧Reach P f R a k w
theorem Reach.wp {c:Code} (h:c.wp P (kg P f R k) a w):Reach P f R a (.code c :: k) w:=by
 intro b hb hk cs
 obtain ⟨e,a',w',⟨rfl,hr⟩,harr⟩:=h b k cs
 obtain ⟨e2,w2,fr,hR,hc,h1,h2⟩:=hr b hb hk cs
 exact ⟨e2,w2,fr,hR,Comes.of_steps harr hc,h1,h2⟩
theorem Reach.ops {ops:Array Oper} {l:List Nat} (h:wpOps P ops (kg P f R k) l a w):Reach P f R a (.inRegion ops l :: k) w:=by
 intro b hb hk cs
 obtain ⟨e,a',w',⟨rfl,hr⟩,harr⟩:=wp_ops l a w h b k cs
 obtain ⟨e2,w2,fr,hR,hc,h1,h2⟩:=hr b hb hk cs
 exact ⟨e2,w2,fr,hR,Comes.of_steps harr hc,h1,h2⟩
theorem Reach.region {ops:Array Oper} {id:Nat} (h:wpOps P ops (kg P f R k) (List.range ops.size) a w):Reach P f R a (.code (.region id ops false) :: k) w :=
 Reach.wp (wp_region h)
theorem Reach.draw {ops:Array Oper} {id:Nat} {S:World→Prop} {m:Option Nat} (hm:P.follows .mixedOrders=true)
  (h:jw P .any ops (kg P f R k) S m ops.size (Array.replicate ops.size false) a {w with drawn:=w.drawn+1}):Reach P f R a (.code (.region id ops true) :: k) w :=
 Reach.wp (O6 hm h)
theorem Reach.ret {fn:Func} {v:Value} (hf:P.funcs[f]?=some fn) (hd:a.defers=[]) (hr:(results fn a.tmps).run P w=.ok v w) (hR:R (.returned v) w) :
  Reach P f R a (.code .ret :: k) w:=by
 intro b hb hk cs
 subst hb
 exact ⟨.returned v,w,{b.at a (.code .ret :: k) with mode:=.returning},hR,.one step_ret,rfl,rfl,hd,hk,fn,hf,hr⟩
theorem Reach.end {fn:Func} {v:Value} (hf:P.funcs[f]?=some fn) (hd:a.defers=[]) (hr:(results fn a.tmps).run P w=.ok v w) (hR:R (.returned v) w) :
  Reach P f R a [] w:=by
 intro b hb hk cs
 subst hb
 exact ⟨.returned v,w,{b.at a [] with mode:=.returning},hR,.one step_end,rfl,rfl,hd,hk,fn,hf,hr⟩
theorem Reach.calls {fn:Func} {c:Code} {args:Array Value} (hf:P.funcs[f]?=some fn) (hb:fn.body=some c)
  (h:Reach P f R {tmps:=args ++ Array.replicate (fn.ntmps-args.size) undef,defers:=[]} [.code c] w):Calls P f args w R:=by
 intro cs
 let b:Frame:={(default:Frame) with fn:=f,kind:=.normal}
 have henter:Frame.enter P f args .normal=b.at {tmps:=args ++ Array.replicate (fn.ntmps-args.size) undef,defers:=[]} [.code c]:=by
  simp [Frame.enter,Frame.at,hf,hb,b]
 obtain ⟨e,w',fr,hR,hc,h1,h2⟩:=h b rfl rfl cs
 rw [←henter] at hc
 exact ⟨e,w',fr,hR,hc,h1,h2⟩
end
def Code.at:Code→List Nat→Option Code
 | c,[]=>some c
 | .seq a _,0 :: p=>Code.at a p
 | .seq _ b,1 :: p=>Code.at b p
 | .cond _ t _,0 :: p=>Code.at t p
 | .cond _ _ e,1 :: p=>Code.at e p
 | .block _ b,0 :: p=>Code.at b p
 | .loop b,0 :: p=>Code.at b p
 | .scope b,0 :: p=>Code.at b p
 | _,_=>none
theorem Code.abl:∀(c:Code) (p:List Nat) (i:Nat),Code.at c (p ++ [i])=(Code.at c p).bind fun d=>Code.at d [i]:=by
 intro c p
 induction p generalizing c with
 | nil=>intro i;simp [Code.at]
 | cons q p ih =>
  intro i
  cases c <;> simp only [List.cons_append]
  all_goals first
   | (rcases q with _ | _ | q <;> simp [Code.at,ih];done)
   | (simp [Code.at];done)
inductive SI where
 | code (p:List Nat)
 | aC (id:Nat)
 | FH (p:List Nat)
 | ZK (p:List Nat)
 deriving Inhabited
def SI.jB (body:Code):SI→Item
 | .code p=>.code ((Code.at body p).getD .skip)
 | .aC id=>.inBlock id
 | .FH p=>.inLoop ((Code.at body p).getD .skip)
 | .ZK p=>.inScope ((Code.at body p).getD .skip)
def sK (id:Nat):List SI→Option (List SI)
 | .aC id' :: k=>if id' == id then some k else sK id k
 | _ :: k=>sK id k
 | []=>none
theorem pE (body:Code) (id:Nat):∀{k k':List SI},sK id k=some k'→exitTo id (k.map (SI.jB body))=some (k'.map (SI.jB body))
 | [],_,h=>by simp [sK] at h
 | x :: k,k',h=>by
  cases x <;> simp only [sK,List.map_cons,SI.jB,exitTo] at h ⊢
  ·exact pE body id h
  ·split at h
   ·rename_i he;rw [if_pos he];simp at h;rw [h]
   ·rename_i he;rw [if_neg he];exact pE body id h
  ·exact pE body id h
  ·exact pE body id h
def IE.sc (n:Nat):IE→Bool
 | .lit _=>true
 | .var i=>Nat.blt i n
 | .add a b | .sub a b | .mul a b | .div a b | .mod a b | .qg a b | .imax a b=>a.sc n && b.sc n
 | .wrap _ a=>a.sc n
 | .cell r a b _=>Nat.blt r n && a.sc n && b.sc n
def BE.sc (n:Nat):BE→Bool
 | .lit _=>true
 | .var i=>Nat.blt i n
 | .not a=>a.sc n
 | .and a b | .or a b | .beq a b=>a.sc n && b.sc n
 | .ite a b c=>a.sc n && b.sc n && c.sc n
 | .aA a b | .ai a b | .bO a b=>IE.sc n a && IE.sc n b
 | .inr _ a=>IE.sc n a
 | .cell r a b _=>Nat.blt r n && IE.sc n a && IE.sc n b
def SA.sc (nv n:Nat) (a:SA):Bool:=Nat.blt a.aC n && a.i1.sc nv && a.i2.sc nv
def SC.sc (nv n:Nat):SC→Bool
 | .int _ e=>e.sc nv
 | .bool b=>b.sc nv
 | .val i=>Nat.blt i nv
 | .jO r a b _=>Nat.blt r nv && a.sc nv && b.sc nv
 | .ptr a=>a.sc nv n
 | .sl a l c=>a.sc nv n && l.sc nv && c.sc nv
 | .fw k a l c=>k.sc nv && a.sc nv n && l.sc nv && c.sc nv
 | .fn _ jS=>jS.all (Nat.blt · n)
 | .iface _ c=>c.sc nv n
 | .iY k c=>k.sc nv && c.sc nv n
 | .mp b=>Nat.blt b n
 | _=>true
def pF (nv n:Nat):List SC→Bool
 | []=>true
 | c :: r=>c.sc nv n && pF nv n r
def SW.sc (nv n:Nat) (x:SW):Bool:=pF nv n x.cells
def KM (nv n:Nat):List SW→Bool
 | []=>true
 | c :: r=>c.sc nv n && KM nv n r
def SV.sc (nv n:Nat):SV→Bool
 | .w x=>x.sc nv n
 | .iF xs=>KM nv n xs
 | .gd c x=>c.sc nv && x.sc nv n
def LF (nv:Nat):List BE→Bool
 | []=>true
 | b :: r=>b.sc nv && LF nv r
def D9 (nv:Nat):Kn→Bool
 | []=>true
 | b :: r=>b.1.sc nv && D9 nv r
def FI (nv:Nat):List ae→Bool
 | []=>true
 | g :: r=>Nat.blt g.r nv && g.n1.sc nv && FI nv r
def rV (nv n:Nat):List Up→Bool
 | []=>true
 | u :: r=>u.i1.sc nv && u.i2.sc nv && u.c.sc nv n && rV nv n r
def SB.sc (nv n:Nat) (b:SB):Bool:=b.gone || (pF nv n b.cs && FI nv b.aX && rV nv n b.ups && (match b.cap with | some (e,_)=>e.sc nv | none=>true) && b.nl.sc nv)
def qp (nv n:Nat):List SB→Bool
 | []=>true
 | b :: r=>b.sc nv n && qp nv n r
def LG (nv n:Nat):Fr→Bool
 | []=>true
 | x :: r=>x.2.sc nv n && LG nv n r
structure dF (nv n:Nat) (ρ ρ':Env) (ν aK:Nat→Addr):Prop where
 iv:∀i,i<nv→ρ'.iv i=ρ.iv i
 bv:∀i,i<nv→ρ'.bv i=ρ.bv i
 vv:∀i,i<nv→ρ'.vv i=ρ.vv i
 ic:∀i,i<nv→ρ'.ic i=ρ.ic i
 bc:∀i,i<nv→ρ'.bc i=ρ.bc i
 vc:∀i,i<nv→ρ'.vc i=ρ.vc i
 bl:∀i,i<n→aK i=ν i
theorem dF.refl (nv n:Nat) (ρ:Env) (ν:Nat→Addr):dF nv n ρ ρ ν ν:=⟨fun _ _=>rfl,fun _ _=>rfl,fun _ _=>rfl,fun _ _=>rfl,fun _ _=>rfl,fun _ _=>rfl,fun _ _=>rfl⟩
theorem dF.trans {nv n jf n':Nat} {ρ ρ' LH:Env} {ν aK acI:Nat→Addr} (h:dF nv n ρ ρ' ν aK) (h':dF jf n' ρ' LH aK acI) (h1:nv≤jf) (h2:n≤n'):dF nv n ρ LH ν acI :=
 ⟨fun i hi=>(h'.iv i (Nat.lt_of_lt_of_le hi h1)).trans (h.iv i hi),fun i hi=>(h'.bv i (Nat.lt_of_lt_of_le hi h1)).trans (h.bv i hi),fun i hi=>(h'.vv i (Nat.lt_of_lt_of_le hi h1)).trans (h.vv i hi),
  fun i hi=>(h'.ic i (Nat.lt_of_lt_of_le hi h1)).trans (h.ic i hi),fun i hi=>(h'.bc i (Nat.lt_of_lt_of_le hi h1)).trans (h.bc i hi),fun i hi=>(h'.vc i (Nat.lt_of_lt_of_le hi h1)).trans (h.vc i hi),
  fun i hi=>(h'.bl i (Nat.lt_of_lt_of_le hi h2)).trans (h.bl i hi)⟩
theorem dF.symm {nv n:Nat} {ρ ρ':Env} {ν aK:Nat→Addr} (hA:dF nv n ρ ρ' ν aK):dF nv n ρ' ρ aK ν :=
 ⟨fun i hi=>(hA.iv i hi).symm,fun i hi=>(hA.bv i hi).symm,fun i hi=>(hA.vv i hi).symm,fun i hi=>(hA.ic i hi).symm,fun i hi=>(hA.bc i hi).symm,fun i hi=>(hA.vc i hi).symm,fun i hi=>(hA.bl i hi).symm⟩
theorem dF.join {nv n:Nat} {ρ ρ':Env} {ν aK:Nat→Addr} (h:dF nv n ρ ρ' ν aK):ρ.join nv ρ'=ρ':=by
 obtain ⟨a,b,c,d,e,f⟩:=ρ'
 simp only [Env.join,Env.mk.injEq]
 refine ⟨?_,?_,?_,?_,?_,?_⟩ <;> funext i <;> split
 ·rename_i hi;exact (h.iv i hi).symm
 ·rfl
 ·rename_i hi;exact (h.bv i hi).symm
 ·rfl
 ·rename_i hi;exact (h.vv i hi).symm
 ·rfl
 ·rename_i hi;exact (h.ic i hi).symm
 ·rfl
 ·rename_i hi;exact (h.bc i hi).symm
 ·rfl
 ·rename_i hi;exact (h.vc i hi).symm
 ·rfl
theorem jg {nv n:Nat}:∀{hp:List SB},qp nv n hp=true→∀(k:Nat) (sb:SB),hp[k]?=some sb→sb.sc nv n=true
 | [],_,k,sb,h=>by simp at h
 | b :: r,hs,k,sb,h=>by
  simp only [qp,Bool.and_eq_true] at hs
  cases k with
  | zero=>simp at h;rw [←h];exact hs.1
  | succ k=>exact jg hs.2 k sb (by simpa using h)
section
variable {nv n:Nat} {ρ ρ':Env} {ν aK:Nat→Addr} (hA:dF nv n ρ ρ' ν aK)
include hA
theorem IE.aL:∀{e:IE},e.sc nv=true→e.den ρ'=e.den ρ:=by
 intro e
 induction e with
 | lit n=>intro _;rfl
 | var i=>intro h;exact hA.iv i (by simpa [IE.sc] using h)
 | add a b iha ihb | sub a b iha ihb | mul a b iha ihb | div a b iha ihb | mod a b iha ihb | qg a b iha ihb | imax a b iha ihb =>
  intro h
  simp only [IE.sc,Bool.and_eq_true] at h
  simp only [IE.den,iha h.1,ihb h.2]
 | wrap k a ih=>intro h;simp only [IE.den,ih (by simpa [IE.sc] using h)]
 | cell r a b j iha ihb =>
  intro h
  simp only [IE.sc,Bool.and_eq_true,Nat.blt_eq] at h
  simp only [IE.den,iha h.1.2,ihb h.2,hA.ic r h.1.1]
theorem BE.aL:∀{e:BE},e.sc nv=true→e.den ρ'=e.den ρ:=by
 intro e
 induction e with
 | lit n=>intro _;rfl
 | var i=>intro h;exact hA.bv i (by simpa [BE.sc] using h)
 | not a ih=>intro h;simp only [BE.den,ih (by simpa [BE.sc] using h)]
 | and a b iha ihb | or a b iha ihb | beq a b iha ihb =>
  intro h
  simp only [BE.sc,Bool.and_eq_true] at h
  simp only [BE.den,iha h.1,ihb h.2]
 | ite a b c iha ihb ihc =>
  intro h
  simp only [BE.sc,Bool.and_eq_true] at h
  simp only [BE.den,iha h.1.1,ihb h.1.2,ihc h.2]
 | aA a b | ai a b | bO a b =>
  intro h
  simp only [BE.sc,Bool.and_eq_true] at h
  simp only [BE.den,IE.aL hA h.1,IE.aL hA h.2]
 | inr k a=>intro h;simp only [BE.den,IE.aL hA (show a.sc nv=true by simpa [BE.sc] using h)]
 | cell r a b j =>
  intro h
  simp only [BE.sc,Bool.and_eq_true,Nat.blt_eq] at h
  simp only [BE.den,IE.aL hA h.1.2,IE.aL hA h.2,hA.bc r h.1.1]
theorem SA.aL {a:SA} (h:a.sc nv n=true):a.den ρ' aK=a.den ρ ν:=by
 simp only [SA.sc,Bool.and_eq_true,Nat.blt_eq] at h
 simp only [SA.den,SA.off,hA.bl _ h.1.1,IE.aL hA h.1.2,IE.aL hA h.2]
theorem SC.aL:∀{c:SC},c.sc nv n=true→c.den ρ' aK=c.den ρ ν:=by
 intro c
 induction c with
 | int k e=>intro h;simp only [SC.den,IE.aL hA (show e.sc nv=true by simpa [SC.sc] using h)]
 | bool e=>intro h;simp only [SC.den,BE.aL hA (show e.sc nv=true by simpa [SC.sc] using h)]
 | val i=>intro h;simp only [SC.sc,Nat.blt_eq] at h;simp only [SC.den,hA.vv i h]
 | jO r a b j =>
  intro h
  simp only [SC.sc,Bool.and_eq_true,Nat.blt_eq] at h
  simp only [SC.den,IE.aL hA h.1.2,IE.aL hA h.2,hA.vc r h.1.1]
 | fw k a l c =>
  intro h
  simp only [SC.sc,Bool.and_eq_true] at h
  simp only [SC.den,BE.aL hA h.1.1.1,SA.aL hA h.1.1.2,IE.aL hA h.1.2,IE.aL hA h.2]
 | ptr a=>intro h;simp only [SC.den,SA.aL hA (show a.sc nv n=true by simpa [SC.sc] using h)]
 | sl a l c =>
  intro h
  simp only [SC.sc,Bool.and_eq_true] at h
  simp only [SC.den,SA.aL hA h.1.1,IE.aL hA h.1.2,IE.aL hA h.2]
 | fn f jS =>
  intro h
  simp only [SC.sc,List.all_eq_true,Nat.blt_eq] at h
  simp only [SC.den]
  congr 2
  exact List.map_congr_left fun b hb=>by rw [hA.bl b (h b hb)]
 | iface t c ih=>intro h;simp only [SC.den,ih (by simpa [SC.sc] using h)]
 | iY k c ih =>
  intro h
  simp only [SC.sc,Bool.and_eq_true] at h
  simp only [SC.den,BE.aL hA h.1,ih h.2]
 | mp b=>intro h;simp only [SC.sc,Nat.blt_eq] at h;simp only [SC.den,hA.bl b h]
 | _=>intro _;rfl
theorem qw:∀{cs:List SC},pF nv n cs=true→∀c∈cs,c.den ρ' aK=c.den ρ ν
 | [],_,_,h=>by cases h
 | c :: r,hs,d,h=>by
  simp only [pF,Bool.and_eq_true] at hs
  rcases List.mem_cons.1 h with rfl | h
  ·exact SC.aL hA hs.1
  ·exact qw hs.2 d h
theorem SW.aL {x:SW} (h:x.sc nv n=true):x.den ρ' aK=x.den ρ ν:=by
 cases x with
 | one c=>exact qw hA h c (by simp [SW.cells])
 | agg cs =>
  simp only [SW.den]
  congr 2
  exact List.map_congr_left (qw hA h)
theorem Ps:∀{cs:List SW},KM nv n cs=true→∀c∈cs,c.den ρ' aK=c.den ρ ν
 | [],_,_,h=>by cases h
 | c :: r,hs,d,h=>by
  simp only [KM,Bool.and_eq_true] at hs
  rcases List.mem_cons.1 h with rfl | h
  ·exact SW.aL hA hs.1
  ·exact Ps hs.2 d h
theorem SV.aL {x:SV} (h:x.sc nv n=true):x.den ρ' aK=x.den ρ ν:=by
 cases x with
 | w x=>exact SW.aL hA h
 | iF xs =>
  simp only [SV.den]
  congr 2
  exact List.map_congr_left (Ps hA h)
 | gd c x =>
  simp only [SV.sc,Bool.and_eq_true] at h
  simp only [SV.den,BE.aL hA h.1,SW.aL hA h.2]
theorem LJ:∀{cs:List BE},LF nv cs=true→∀c∈cs,c.den ρ'=c.den ρ
 | [],_,_,h=>by cases h
 | c :: r,hs,d,h=>by
  simp only [LF,Bool.and_eq_true] at hs
  rcases List.mem_cons.1 h with rfl | h
  ·exact BE.aL hA hs.1
  ·exact LJ hs.2 d h
theorem FJ:∀{kn:Kn},D9 nv kn=true→Kn.ok ρ kn→Kn.ok ρ' kn
 | [],_,_=>fun p hp=>by cases hp
 | c :: r,hs,hk=>fun p hp=>by
  simp only [D9,Bool.and_eq_true] at hs
  rcases List.mem_cons.1 hp with rfl | hp
  ·rw [BE.aL hA hs.1];exact hk _ (by simp)
  ·exact FJ hs.2 (fun q hq=>hk q (by simp [hq])) p hp
theorem LK:∀{gs:List ae},FI nv gs=true→∀g∈gs,g.r<nv∧g.n1.den ρ'=g.n1.den ρ
 | [],_,_,h=>by cases h
 | c :: r,hs,d,h=>by
  simp only [FI,Bool.and_eq_true,Nat.blt_eq] at hs
  rcases List.mem_cons.1 h with rfl | h
  ·exact ⟨hs.1.1,IE.aL hA hs.1.2⟩
  ·exact LK hs.2 d h
theorem CF:∀{us:List Up},rV nv n us=true→∀u∈us,u.i1.den ρ'=u.i1.den ρ∧u.i2.den ρ'=u.i2.den ρ∧u.c.den ρ' aK=u.c.den ρ ν
 | [],_,_,h=>by cases h
 | c :: r,hs,d,h=>by
  simp only [rV,Bool.and_eq_true] at hs
  rcases List.mem_cons.1 h with rfl | h
  ·exact ⟨IE.aL hA hs.1.1.1,IE.aL hA hs.1.1.2,SC.aL hA hs.1.2⟩
  ·exact CF hs.2 d h
theorem yx:∀{us:List Up},rV nv n us=true→∀g i1 i2 j b,cK ρ' aK us g i1 i2 j b=cK ρ ν us g i1 i2 j b
 | [],_=>fun _ _ _ _ _=>rfl
 | u :: r,hs=>fun g i1 i2 j b=>by
  obtain ⟨h1,h2,h3⟩:=CF hA hs u (by simp)
  simp only [rV,Bool.and_eq_true] at hs
  simp only [cK,h1,h2,h3,yx hs.2]
theorem ae.Ea (g:ae) (hr:g.r<nv) (i1 i2 j:Nat):g.base ρ' i1 i2 j=g.base ρ i1 i2 j:=by
 simp only [ae.base,hA.ic g.r hr,hA.bc g.r hr,hA.vc g.r hr]
theorem SB.ZL {sb:SB} (hs:sb.sc nv n=true) (hg:sb.gone=false):sb.nl.den ρ'=sb.nl.den ρ:=by
 simp only [SB.sc,hg,Bool.false_or,Bool.and_eq_true] at hs
 exact BE.aL hA hs.2
theorem SB.nA {sb:SB} (hs:sb.sc nv n=true):sb.dead ρ'=sb.dead ρ:=by
 cases hg:sb.gone with
 | true=>simp [SB.dead,hg]
 | false=>simp [SB.dead,hg,SB.ZL hA hs hg]
theorem SB.Au {sb:SB} (hs:sb.sc nv n=true) (hg:sb.gone=false) {cs:Array Value} (h:sb.has ρ ν cs):sb.has ρ' aK cs:=by
 simp only [SB.sc,hg,Bool.false_or,Bool.and_eq_true] at hs
 obtain ⟨⟨⟨⟨h1,h2⟩,h3⟩,h4⟩,-⟩:=hs
 refine ⟨fun u hu=>?_,h.size,fun e m he=>?_,fun p c hp hh=>?_,fun gi g hg i1 i2 j a1 a2 a3=>?_⟩
 ·obtain ⟨e1,e2,-⟩:=CF hA h3 u hu
  rw [e1,e2];exact h.un u hu
 ·rw [he] at h4
  rw [IE.aL hA h4];exact h.cap e m he
 ·rw [qw hA h1 c (List.mem_of_getElem? hp)];exact h.ex p c hp hh
 ·obtain ⟨hr,hn⟩:=LK hA h2 g (List.mem_of_getElem? hg)
  rw [hn] at a1
  rw [yx hA h3,ae.Ea hA g hr]
  exact h.sg gi g hg i1 i2 j a1 a2 a3
theorem aH.ext {hp:List SB} {w:World} (hs:qp nv n hp=true) (hl:hp.length≤n) (h:aH ρ ν hp w):aH ρ' aK hp w:=by
 have hlt:∀(k:Nat) (sb:SB),hp[k]?=some sb→k<n:=fun k sb hk=>Nat.lt_of_lt_of_le (List.getElem?_eq_some_iff.1 hk).1 hl
 have hd:∀(k:Nat) (sb:SB),hp[k]?=some sb→sb.dead ρ'=false→sb.dead ρ=false:=fun k sb hk h=>by rwa [SB.nA hA (jg hs k sb hk)] at h
 refine ⟨fun i j a b hi hj ga gb ra he=>h.inj i j a b hi hj (hd i a hi ga) (hd j b hj gb) ra ?_,fun k sb hk hg hr=>?_,fun k sb hk hg hr=>?_⟩
 ·rwa [hA.bl i (hlt i a hi),hA.bl j (hlt j b hj)] at he
 ·obtain ⟨h0,cs,h1,h2⟩:=h.aC k sb hk (hd k sb hk hg) hr
  rw [hA.bl k (hlt k sb hk)]
  exact ⟨h0,cs,h1,SB.Au hA (jg hs k sb hk) (SB.dP hg) h2⟩
 ·obtain ⟨h0,cs,h1,h2⟩:=h.rd k sb hk (hd k sb hk hg) hr
  rw [hA.bl k (hlt k sb hk)]
  exact ⟨h0,cs,SB.Au hA (jg hs k sb hk) (SB.dP hg) h1,h2⟩
end
theorem aH.ext_iff {nv n:Nat} {ρ ρ':Env} {ν aK:Nat→Addr} (hA:dF nv n ρ ρ' ν aK) {hp:List SB} {w:World} (hs:qp nv n hp=true) (hl:hp.length≤n) :
  aH ρ ν hp w↔aH ρ' aK hp w:=⟨aH.ext hA hs hl,aH.ext hA.symm hs hl⟩
theorem Pt {nv n:Nat}:∀{fr:Fr},LG nv n fr=true→∀t v,assoc t fr=some v→v.sc nv n=true
 | [],_,t,v,h=>by simp [assoc] at h
 | (k,x) :: r,hs,t,v,h=>by
  simp only [LG,Bool.and_eq_true] at hs
  unfold assoc at h
  split at h
  ·simp at h;rw [←h];exact hs.1
  ·exact Pt hs.2 t v h
theorem ou.ext {nv n:Nat} {ρ ρ':Env} {ν aK:Nat→Addr} (hA:dF nv n ρ ρ' ν aK) {fr:Fr} {a:Act} (hs:LG nv n fr=true) (h:ou ρ ν fr a):ou ρ' aK fr a:=by
 intro t v ht
 rw [SV.aL hA (Pt hs t v ht)]
 exact h t v ht
def dummy:ae:={r:=0,n1:=.lit 0,ks:=[]}
def FL:Kd→Kd→Bool
 | .int a,.int b=>j4 a b
 | .bool,.bool=>true
 | .val,.val=>true
 | _,_=>false
def lq:List Kd→List Kd→Bool
 | [],[]=>true
 | a :: r,b :: s=>FL a b && lq r s
 | _,_=>false
def ae.same (a b:ae):Bool:=a.r == b.r && a.n1.same b.n1 && a.s1 == b.s1 && a.n2 == b.n2 && a.s2 == b.s2 && a.lo == b.lo && a.z == b.z && lq a.ks b.ks
def kP:List ae→List ae→Bool
 | [],[]=>true
 | a :: r,b :: s=>a.same b && kP r s
 | _,_=>false
def Up.same (a b:Up):Bool:=a.g == b.g && a.i1.same b.i1 && a.i2.same b.i2 && a.j == b.j && a.c.same b.c
def l9:List Up→List Up→Bool
 | [],[]=>true
 | a :: r,b :: s=>a.same b && l9 r s
 | _,_=>false
def mo:List SC→List SC→Bool
 | [],[]=>true
 | a :: r,b :: s=>(a.isHole || a.same b) && mo r s
 | _,_=>false
def sM:Option (IE × Nat)→Option (IE × Nat)→Bool
 | none,none=>true
 | some (a,n),some (b,m)=>a.same b && n == m
 | _,_=>false
def SB.wk (a b:SB):Bool :=
 a.gone || (!b.gone && (a.ro == b.ro && ((!a.own || b.own) && (a.nl.same b.nl && (a.t == b.t && ((a.opn || !b.opn) && (sM a.cap b.cap && (mo a.cs b.cs && ((kP a.aX b.aX && l9 a.ups b.ups) || (kP a.aX [dummy] && a.ups.isEmpty))))))))))
def gq:List SB→List SB→Bool
 | [],_=>true
 | a :: r,b :: s=>a.wk b && gq r s
 | _ :: _,[]=>false
section
variable {ρ:Env} {ν:Nat→Addr}
theorem Pv:∀{a b:List SC},mo a b=true→a.length=b.length∧∀(p:Nat) (c:SC),a[p]?=some c→c.isHole=false→b[p]?=some c
 | [],[],_=>⟨rfl,fun p c h=>by simp at h⟩
 | [],_ :: _,h=>by simp [mo] at h
 | _ :: _,[],h=>by simp [mo] at h
 | x :: a,y :: b,h=>by
  simp only [mo,Bool.and_eq_true,Bool.or_eq_true] at h
  obtain ⟨h1,h2⟩:=Pv h.2
  refine ⟨by simp [h1],fun p c hp hh=>?_⟩
  cases p with
  | zero =>
   simp at hp
   subst hp
   rcases h.1 with h | h
   ·rw [hh] at h;cases h
   ·rw [SC.aD h];rfl
  | succ p=>exact h2 p c (by simpa using hp) hh
theorem Ur {a b:Kd} (h:FL a b=true):a=b:=by
 cases a <;> cases b <;> simp [FL] at h
 ·rw [iL h]
 ·rfl
 ·rfl
theorem pG:∀{a b:List Kd},lq a b=true→a=b
 | [],[],_=>rfl
 | [],_ :: _,h=>by simp [lq] at h
 | _ :: _,[],h=>by simp [lq] at h
 | x :: a,y :: b,h=>by
  simp only [lq,Bool.and_eq_true] at h
  rw [Ur h.1,pG h.2]
theorem ae.aD {a b:ae} (h:a.same b=true):a=b:=by
 obtain ⟨_,_,_,_,_,_,_,_⟩:=a
 obtain ⟨_,_,_,_,_,_,_,_⟩:=b
 simp only [ae.same,Bool.and_eq_true,beq_iff_eq] at h
 obtain ⟨⟨⟨⟨⟨⟨⟨rfl,h1⟩,rfl⟩,rfl⟩,rfl⟩,rfl⟩,rfl⟩,h2⟩:=h
 rw [IE.aD h1,pG h2]
theorem ma:∀{a b:List ae},kP a b=true→a=b
 | [],[],_=>rfl
 | [],_ :: _,h=>by simp [kP] at h
 | _ :: _,[],h=>by simp [kP] at h
 | x :: a,y :: b,h=>by
  simp only [kP,Bool.and_eq_true] at h
  rw [ae.aD h.1,ma h.2]
theorem Up.aD {a b:Up} (h:a.same b=true):a=b:=by
 obtain ⟨_,_,_,_,_⟩:=a
 obtain ⟨_,_,_,_,_⟩:=b
 simp only [Up.same,Bool.and_eq_true,beq_iff_eq] at h
 obtain ⟨⟨⟨⟨rfl,h1⟩,h2⟩,rfl⟩,h3⟩:=h
 rw [IE.aD h1,IE.aD h2,SC.aD h3]
theorem rW:∀{a b:List Up},l9 a b=true→a=b
 | [],[],_=>rfl
 | [],_ :: _,h=>by simp [l9] at h
 | _ :: _,[],h=>by simp [l9] at h
 | x :: a,y :: b,h=>by
  simp only [l9,Bool.and_eq_true] at h
  rw [Up.aD h.1,rW h.2]
theorem yA {a b:Option (IE × Nat)} (h:sM a b=true):a=b:=by
 unfold sM at h
 split at h
 ·rfl
 ·simp only [Bool.and_eq_true,beq_iff_eq] at h
  rw [IE.aD h.1,h.2]
 ·cases h
theorem SB.FM {a b:SB} (h:a.wk b=true) (hg:a.gone=false):b.gone=false∧a.nl=b.nl∧a.ro=b.ro∧(a.own=true→b.own=true)∧a.t=b.t∧∀arr,b.has ρ ν arr→a.has ρ ν arr:=by
 simp only [SB.wk,hg,Bool.false_or,Bool.and_eq_true,Bool.not_eq_true',Bool.or_eq_true,beq_iff_eq] at h
 obtain ⟨h1,hro,how,hnl,h2,h3,h4,h5,h6⟩:=h
 obtain ⟨hl,hc⟩:=Pv h5
 refine ⟨h1,BE.aD hnl,hro,fun h=>by rcases how with how | how <;> simp_all,h2,fun arr hb=>?_⟩
 rcases h6 with ⟨h6,h7⟩ | ⟨h6,h7⟩
 ·have e1:=ma h6
  have e2:=rW h7
  refine ⟨fun u hu=>hb.un u (e2 ▸ hu),fun hs ho=>?_,fun e n he=>hb.cap e n (yA h4 ▸ he),fun p c hp hh=>hb.ex p c (hc p c hp hh) hh,fun gi g hgi=>?_⟩
  ·rw [hl]
   refine hb.size (e1 ▸ hs) ?_
   rcases h3 with h3 | h3
   ·rw [ho] at h3;cases h3
   ·exact h3
  ·rw [e2]
   exact hb.sg gi g (e1 ▸ hgi)
 ·have e1:=ma h6
  have e2:a.ups=[]:=by simpa using h7
  refine ⟨fun u hu=>(by rw [e2] at hu;cases hu),fun hs=>(by rw [e1] at hs;cases hs),fun e n he=>hb.cap e n (yA h4 ▸ he),fun p c hp hh=>hb.ex p c (hc p c hp hh) hh,fun gi g hgi i1 i2 j a1 a2 a3=>?_⟩
  rw [e1] at hgi
  cases gi with
  | zero=>simp at hgi;subst hgi;simp [dummy] at a3
  | succ gi=>simp at hgi
theorem wO:∀{sc hp:List SB},gq sc hp=true→∀(k:Nat) (a:SB),sc[k]?=some a→∃b,hp[k]?=some b∧a.wk b=true
 | [],_,_,k,a,h=>by simp at h
 | _ :: _,[],h,_,_,_=>by simp [gq] at h
 | x :: sc,y :: hp,h,k,a,hk=>by
  simp only [gq,Bool.and_eq_true] at h
  cases k with
  | zero=>simp at hk;subst hk;exact ⟨y,rfl,h.1⟩
  | succ k =>
   obtain ⟨b,hb,hw⟩:=wO h.2 k a (by simpa using hk)
   exact ⟨b,by simpa using hb,hw⟩
theorem SB.Pw {a b:SB} (h:a.wk b=true) (hg:a.gone=false):a.aX=[]→b.aX=[]:=by
 simp only [SB.wk,hg,Bool.false_or,Bool.and_eq_true,Bool.not_eq_true',Bool.or_eq_true,beq_iff_eq] at h
 obtain ⟨-,-,-,-,-,-,-,-,h6⟩:=h
 intro he
 rcases h6 with ⟨h6,-⟩ | ⟨h6,-⟩
 ·rw [←ma h6];exact he
 ·have:=ma h6
  rw [he] at this;cases this
theorem SB.wP {a b:SB} (h:a.wk b=true) (hg:a.dead ρ=false):b.dead ρ=false:=by
 obtain ⟨h1,h2,-⟩:=SB.FM (ρ:=ρ) (ν:=fun _=>⟨0,0,none⟩) h (SB.dP hg)
 unfold SB.dead at hg ⊢
 rw [h1]
 rw [h2] at hg
 simp at hg
 simp [hg.2]
theorem CG {sc hp:List SB} {w:World} (h:gq sc hp=true) (hh:aH ρ ν hp w):aH ρ ν sc w:=by
 refine ⟨fun i j a b hi hj ga gb ra he=>?_,fun k a hk hg hr=>?_,fun k a hk hg hr=>?_⟩
 ·obtain ⟨a',ha,wa⟩:=wO h i a hi
  obtain ⟨b',hb,wb⟩:=wO h j b hj
  obtain ⟨e1,-,e2,-⟩:=SB.FM (ρ:=ρ) (ν:=ν) wa (SB.dP ga)
  exact hh.inj i j a' b' ha hb (SB.wP wa ga) (SB.wP wb gb) (e2 ▸ ra) he
 ·obtain ⟨b,hb,wb⟩:=wO h k a hk
  obtain ⟨g1,-,gr,-,g2,g3⟩:=SB.FM (ρ:=ρ) (ν:=ν) wb (SB.dP hg)
  obtain ⟨h0,arr,h1,h2⟩:=hh.aC k b hb (SB.wP wb hg) (gr ▸ hr)
  exact ⟨h0,arr,by rw [g2];exact h1,g3 arr h2⟩
 ·obtain ⟨b,hb,wb⟩:=wO h k a hk
  obtain ⟨g1,-,gr,-,g2,g3⟩:=SB.FM (ρ:=ρ) (ν:=ν) wb (SB.dP hg)
  obtain ⟨h0,arr,h1,h2⟩:=hh.rd k b hb (SB.wP wb hg) (gr ▸ hr)
  refine ⟨h0.of (SB.Pw wb (SB.dP hg)) g2 (Nat.le_refl _) rfl,arr,g3 arr h1,h2⟩
end
theorem qM (k:IntKind):j4 k k=true:=by cases k <;> rfl
theorem IE.cZ:∀e:IE,e.same e=true:=by
 intro e
 induction e <;> simp_all [IE.same,qM]
theorem BE.cZ:∀e:BE,e.same e=true:=by
 intro e
 induction e <;> simp_all [BE.same,IE.cZ,qM]
theorem SA.cZ (a:SA):a.same a=true:=by simp [SA.same,IE.cZ]
theorem SC.cZ:∀e:SC,e.same e=true:=by
 intro e
 induction e <;> simp_all [SC.same,IE.cZ,BE.cZ,SA.cZ,qM]
theorem Jt:∀l:List SC,mo l l=true
 | []=>rfl
 | c :: r=>by simp [mo,SC.cZ,Jt r]
theorem Av:∀l:List Kd,lq l l=true
 | []=>rfl
 | c :: r=>by cases c <;> simp [lq,FL,qM,Av r]
theorem zP:∀l:List ae,kP l l=true
 | []=>rfl
 | c :: r=>by simp [kP,ae.same,IE.cZ,Av,zP r]
theorem Aw:∀l:List Up,l9 l l=true
 | []=>rfl
 | c :: r=>by simp [l9,Up.same,IE.cZ,SC.cZ,Aw r]
theorem LM (c:Option (IE × Nat)):sM c c=true:=by
 cases c with
 | none=>rfl
 | some p=>simp [sM,IE.cZ]
theorem SB.oN (a:SB):a.wk a=true:=by
 simp [SB.wk,Jt,zP,Aw,LM,BE.cZ]
theorem Ie:∀{sc hp:List SB},sc.length≤hp.length→(∀(k:Nat) (a b:SB),sc[k]?=some a→hp[k]?=some b→a.wk b=true)→gq sc hp=true
 | [],_,_,_=>by simp [gq]
 | _ :: _,[],h,_=>by simp at h
 | x :: sc,y :: hp,hl,h=>by
  simp only [gq,Bool.and_eq_true]
  exact ⟨h 0 x y rfl rfl,Ie (by simpa using hl) fun k a b ha hb=>h (k+1) a b (by simpa using ha) (by simpa using hb)⟩
def ed:SB:={t:=0,gone:=true}
theorem Ju (b:SB):ed.wk b=true:=rfl
def pI (lo n:Nat):List SC→List SC→Nat→List SC
 | _,[],_=>[]
 | [],b :: bs,i=>(if Nat.ble lo i && Nat.blt i (lo+n) then b else .hole) :: pI lo n [] bs (i+1)
 | a :: aS0,b :: bs,i=>(if (Nat.ble lo i && Nat.blt i (lo+n)) || !a.isHole then b else .hole) :: pI lo n aS0 bs (i+1)
theorem Ay {lo n:Nat}:∀{aS0 bs:List SC} {i:Nat},mo (pI lo n aS0 bs i) bs=true
 | _,[],_=>by simp [pI,mo]
 | [],b :: bs,i=>by
  simp only [pI,mo,Bool.and_eq_true]
  refine ⟨?_,Ay⟩
  split
  ·simp [SC.cZ]
  ·rfl
 | a :: aS0,b :: bs,i=>by
  simp only [pI,mo,Bool.and_eq_true]
  refine ⟨?_,Ay⟩
  split
  ·simp [SC.cZ]
  ·rfl
theorem Jv {lo n:Nat}:∀{aS0 bs:List SC} {i:Nat},mo aS0 bs=true→mo aS0 (pI lo n aS0 bs i)=true
 | [],[],_,_=>rfl
 | [],b :: bs,_,h=>by simp [mo] at h
 | a :: aS0,[],_,h=>by simp [mo] at h
 | a :: aS0,b :: bs,i,h=>by
  simp only [mo,Bool.and_eq_true] at h
  simp only [pI,mo,Bool.and_eq_true]
  refine ⟨?_,Jv h.2⟩
  cases ha:a.isHole with
  | true=>rfl
  | false =>
   have:=h.1
   rw [ha] at this
   simpa using this
def SB.mask (m:Option (Nat × Nat)) (a b:SB):SB :=
 match m with
 | some (lo,n)=>if b.aX.isEmpty then {b with cs:=pI lo n (if a.gone then [] else a.cs) b.cs 0} else if a.gone then b else a
 | none=>if a.gone then b else a
theorem SB.Px {m:Option (Nat × Nat)} {a b:SB} (h:a.wk b=true):(a.mask m b).wk b=true:=by
 unfold SB.mask
 split
 ·split
  ·have h1:=SB.oN b
   unfold SB.wk at h1 ⊢
   simp only [Bool.or_eq_true,Bool.and_eq_true] at h1 ⊢
   rcases h1 with h1 | ⟨g1,g2,g3,g4,g5,g6,g7,g8,g9⟩
   ·exact .inl h1
   ·exact .inr ⟨g1,g2,g3,g4,g5,g6,g7,Ay,g9⟩
  ·split
   ·exact SB.oN b
   ·exact h
 ·split
  ·exact SB.oN b
  ·exact h
theorem SB.abm {m:Option (Nat × Nat)} {a b:SB} (h:a.wk b=true):a.wk (a.mask m b)=true:=by
 unfold SB.mask
 cases ha:a.gone with
 | true=>simp [SB.wk,ha]
 | false =>
  simp only [Bool.false_eq_true,if_false]
  split
  ·split
   ·unfold SB.wk at h ⊢
    simp only [ha,Bool.false_or,Bool.and_eq_true] at h ⊢
    obtain ⟨g1,g2,g3,g4,g5,g6,g7,g8,g9⟩:=h
    exact ⟨g1,g2,g3,g4,g5,g6,g7,Jv g8,g9⟩
   ·exact SB.oN a
  ·exact SB.oN a
def hold (m:Option (Nat × Nat)):List SB→List SB→Nat→List SB
 | [],b :: _,0=>[ed.mask m b]
 | [],_ :: hp,k+1=>ed :: hold m [] hp k
 | a :: sc,b :: hp,0=>a.mask m b :: sc
 | a :: sc,_ :: hp,k+1=>a :: hold m sc hp k
 | sc,[],_=>sc
theorem Ig {m:Option (Nat × Nat)}:∀{sc hp:List SB} {k:Nat},gq sc hp=true→gq (hold m sc hp k) hp=true
 | [],b :: hp,0,_=>by simp [hold,gq,SB.Px (Ju b)]
 | [],b :: hp,k+1,_=>by simp only [hold,gq,Ju,Bool.true_and];exact Ig (sc:=[]) (by simp [gq])
 | a :: sc,b :: hp,0,h=>by
  simp only [gq,Bool.and_eq_true] at h
  simp [hold,gq,SB.Px h.1,h.2]
 | a :: sc,b :: hp,k+1,h=>by
  simp only [gq,Bool.and_eq_true] at h
  simp only [hold,gq,Bool.and_eq_true]
  exact ⟨h.1,Ig h.2⟩
 | [],[],_,_=>by simp [hold,gq]
 | _ :: _,[],_,h=>by simp [gq] at h
theorem Jw {m:Option (Nat × Nat)}:∀{sc hp:List SB} {k:Nat},gq sc hp=true→gq sc (hold m sc hp k)=true
 | [],_,_,_=>by simp [gq]
 | a :: sc,b :: hp,0,h=>by
  simp only [gq,Bool.and_eq_true] at h
  simp only [hold,gq,Bool.and_eq_true]
  exact ⟨SB.abm h.1,Ie (Nat.le_refl _) fun k x y hx hy=>by rw [hx] at hy;cases hy;exact SB.oN x⟩
 | a :: sc,b :: hp,k+1,h=>by
  simp only [gq,Bool.and_eq_true] at h
  simp only [hold,gq,Bool.and_eq_true]
  exact ⟨SB.oN a,Jw h.2⟩
 | a :: sc,[],_,h=>by simp [gq] at h
end Go.Rex
