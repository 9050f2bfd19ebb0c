/- Rex, part 8: 'pureOp': one operation that leaves memory as it is; that it is right. -/
import Derived.Test.YthomdlajobnmnaaDoorRex7
import Derived.Test.YthomdlajobnmnaaDoorRexY
set_option linter.unusedSimpArgs false
set_option linter.unusedVariables false
namespace Go.Rex

def sliceNil (T : Tab) (t : TypeId) (lo hi : Option SW) : PR :=
 match T.ty t with
 | some ti => match ti.d with
  | .sl et => match T.ty et with
   | some _ =>
    match (match hi with | none => some (IE.lit 0) | some (.one (.int _ e)) => some e | _ => none), (match lo with | none => some (IE.lit 0) | some (.one (.int _ e)) => some e | _ => none) with
    | some h, some l => PR.one .nilsl [.ile (.lit 0) l, .ile l h, .ile h (.lit 0)]
    | _, _ => .no
   | none => .no
  | _ => .no
 | none => .no
def sliceX (T : Tab) (kn : Kn) (t : TypeId) (x : SW) (lo hi : Option SW) : PR :=
 match x with
 | .one .nilsl => sliceNil T t lo hi
 | .one (.sln c a len cap) => match c.decide kn with
  | none => .br c
  | some true => sliceNil T t lo hi
  | some false => match sliceW T kn t (.one (.sl a len cap)) lo hi with
   | .ok (.w (.one (.sl b l m))) os => .ok (.w (.one (.sln c b l m))) os
   | r => r
 | x => sliceW T kn t x lo hi
def mapSeg (sb : SB) : Option Seg :=
 match sb.segs with
 | [g] => if sb.isMap && (match g.n1.lit? with | some n => n == 18446744073709551616 | none => false) && g.s1 == 2 && g.n2 == 1 && g.s2 == 0 && g.lo == 0 && (match g.ks with | [.bool, .int .i64] => true | _ => false) then some g else none
 | _ => none
def mapKey (ke : IE) : IE := ke.addS (.lit 9223372036854775808)
def mapObs (sb : SB) (ke : IE) : List BE := sb.nlOb ++ [.ile (.lit 0) (mapKey ke), .ilt (mapKey ke) (.lit 18446744073709551616)]
def isI64 : TD → Bool
 | .int .i64 => true
 | _ => false
def zeroI64 (te : TI) : Bool := match te.zero with | [.int .i64 (.lit n)] => n == 0 | _ => false
def mapTy (T : Tab) (t : TypeId) : Bool :=
 match T.ty t with
 | some ti => match ti.d with
  | .map kt et => match T.ty kt, T.ty et with
   | some tk, some te => isI64 tk.d && isI64 te.d && zeroI64 te
   | _, _ => false
  | _ => false
 | none => false
def lookV (ok : Bool) (e : IE) (b : Bool) (os : List BE) : PR :=
 if ok then .ok (.tup [.one (.int .i64 e), .one (.bool (.lit b))]) os else .ok (.w (.one (.int .i64 e))) os
def lookW (T : Tab) (kn : Kn) (hp : List SB) (t : TypeId) (m k : SW) (ok : Bool) : PR :=
 if mapTy T t then
  match m, k with
  | .one (.mp b), .one (.int .i64 ke) =>
   match hp[b]? with
   | some sb =>
    if sb.gone || sb.ro then .no else
    match mapSeg sb with
    | none => .no
    | some g =>
     match sb.read kn (.sg 0 g (mapKey ke) (.lit 0) 0) with
     | .no => .no
     | .br c => .br c
     | .ok c =>
      match svBool (.w (.one c)) with
      | none => .no
      | some cb =>
       match cb.decide kn with
       | none => .br cb
       | some false => lookV ok (.lit 0) false (mapObs sb ke)
       | some true => match sb.read kn (.sg 0 g (mapKey ke) (.lit 0) 1) with
        | .ok d => match svInt (.w (.one d)) with
         | some (.i64, e) => lookV ok e true (mapObs sb ke)
         | _ => .no
        | .br c => .br c
        | .no => .no
   | none => .no
  | _, _ => .no
 else .no
def pureOp (T : Tab) (gl : List (Nat × Nat)) (kn : Kn) (fr : Fr) (hp : List SB) (o : Oper) : PR :=
 match o.op with
 | .move x | .assign x => match opd gl kn fr x with | some v => .ok v [] | none => .no
 | .pick c a b =>
  match (opd gl kn fr c).bind svBool with
  | none => .no
  | some cb =>
   match cb.decide kn with
   | some true => match opd gl kn fr a with | some v => .ok v [] | none => .no
   | some false => match opd gl kn fr b with | some v => .ok v [] | none => .no
   | none =>
    match (opd gl ((cb, true) :: kn) fr a).bind svBool, (opd gl ((cb, false) :: kn) fr b).bind svBool with
    | some x, some y => PR.one (.bool (cb.iteS x y))
    | _, _ => .br cb
 | .load t a => match opd gl kn fr a with | some (.w (.one (.ptr sa))) => loadPR T kn hp t sa | _ => .no
 | .nilCheck x =>
  match opd gl kn fr x with
  | some (.w (.one (.ptr a))) => PR.one (.ptr a)
  | some (.w (.one (.fn f c))) => PR.one (.fn f c)
  | _ => .no
 | .binOp op t x y _ => match opd gl kn fr x, opd gl kn fr y with | some (.w a), some (.w b) => binW T op t (isC x || isC y) a b | _, _ => .no
 | .unOp op _ x =>
  match op, opd gl kn fr x with
  | .not, some (.w (.one (.bool b))) => PR.one (.bool b.notS)
  | .neg, some (.w (.one (.int k e))) => match fitE T.wr k (IE.subS (.lit 0) e) with | (e', os) => PR.one (.int k e') os
  | _, _ => .no
 | .convert s d x => match opd gl kn fr x with | some (.w y) => convW T s d y | _ => .no
 | .makeInterface t x =>
  match opd gl kn fr x, T.ty t with
  | some (.w (.one c)), some ti => match ti.d with | .ifc | .other => .no | _ => PR.one (.iface t c)
  | _, _ => .no
 | .makeFunc (.func f) first caps =>
  if first.isEmpty then match plainBlks (caps.toList.map (opd gl kn fr)) with | some bs => PR.one (.fn f bs) | none => .no else .no
 | .slice t x lo hi none =>
  match opd gl kn fr x, lo.map (opd gl kn fr), hi.map (opd gl kn fr) with
  | some (.w y), none, none => sliceX T kn t y none none
  | some (.w y), some (some (.w l)), none => sliceX T kn t y (some l) none
  | some (.w y), none, some (some (.w h)) => sliceX T kn t y none (some h)
  | some (.w y), some (some (.w l)), some (some (.w h)) => sliceX T kn t y (some l) (some h)
  | _, _, _ => .no
 | .fieldAddr s x f => match opd gl kn fr x with | some (.w y) => fieldAddrW T s y f | _ => .no
 | .field s x f => match opd gl kn fr x with | some (.w y) => fieldW T s y f | _ => .no
 | .indexAddr t x i => match opd gl kn fr x, opd gl kn fr i with | some (.w y), some (.w j) => indexAddrW T t y j | _, _ => .no
 | .extract x i => match opd gl kn fr x with | some (.tup xs) => (match xs[i]? with | some y => .ok (.w y) [] | none => .no) | _ => .no
 | .build t parts => match wOf (parts.toList.map fun p => (p.1, opd gl kn fr p.2)) with | some ps => buildW T t ps | none => .no
 | .call { callee := .builtin .len, args, argTypes } =>
  match args.toList, argTypes.toList with
  | [x], [t] => match opd gl kn fr x with | some (.w y) => lenW T t y | _ => .no
  | _, _ => .no
 | .call { callee := .builtin .min, args, .. } =>
  match args.toList.map (opd gl kn fr) with
  | [some (.w (.one (.int k a))), some (.w (.one (.int _ b)))] => PR.one (.int k (.imin a b))
  | _ => .no
 | .call { callee := .builtin .max, args, .. } =>
  match args.toList.map (opd gl kn fr) with
  | [some (.w (.one (.int k a))), some (.w (.one (.int _ b)))] => PR.one (.int k (.imax a b))
  | _ => .no
 | .lookup t m k ok => match opd gl kn fr m, opd gl kn fr k with | some (.w x), some (.w y) => lookW T kn hp t x y ok | _, _ => .no
 | .index t x i => match opd gl kn fr x, opd gl kn fr i with | some (.w y), some (.w j) => indexW T t y j | _, _ => .no
 | _ => .no

section
variable {P : Program} {T : Tab} {ρ : Env} {ν : Nat → Addr} {w : World}
theorem convW_ok (hT : TabOK P T) {src dst : TypeId} {x : SW} {v : SV} {os : List BE} (h : convW T src dst x = .ok v os) (ho : ∀ o ∈ os, o.den ρ = true) :
  (convert src dst (x.den ρ ν)).run P w = .ok (v.den ρ ν) w := by
 unfold convW at h
 split at h
 ·rename_i ti tj k e hs hd
  obtain ⟨d1, h1, c1, -⟩ := (hT.ty hs).und
  obtain ⟨d2, h2, c2, -⟩ := (hT.ty hd).und
  split at h
  ·rename_i k1 k2 e1 e2
   rw [e1] at c1; rw [e2] at c2
   cases d1 <;> simp [tdChk] at c1
   cases d2 <;> simp [tdChk] at c2
   have := kindEq_eq c2
   subst this
   simp only [PR.one, PR.ok.injEq] at h
   obtain ⟨rfl, hobs⟩ := h
   have := fitE_ok (wr := T.wr) (ρ := ρ) (k := k2) (e := e) (by rw [hobs]; exact ho)
   simp [convert, run_underlying h1, run_underlying h2, SW.den, SC.den, SV.den, Conv.intToInt, this]
  ·cases h
 ·rename_i ti0 tj l hs hd
  obtain ⟨d1, h1, c1, -⟩ := (hT.ty hs).und
  obtain ⟨d2, h2, c2, -⟩ := (hT.ty hd).und
  split at h
  ·rename_i e2
   rw [e2] at c2
   cases d2 <;> simp [tdChk] at c2
   simp only [PR.one, PR.ok.injEq] at h
   obtain ⟨rfl, _⟩ := h
   cases d1 <;> simp [convert, run_underlying h1, run_underlying h2, SW.den, SC.den, SV.den]
  ·cases h
 ·cases h
theorem lenW_ok (hT : TabOK P T) {t ty : TypeId} {x : SW} {v : SV} {os : List BE} (h : lenW T t x = .ok v os) (ho : ∀ o ∈ os, o.den ρ = true) :
  (Builtin.len_ #[t] ty #[x.den ρ ν]).run P w = .ok (v.den ρ ν) w := by
 unfold lenW at h
 split at h
 ·cases h
 rename_i ti hs
 obtain ⟨d1, h1, c1, -⟩ := (hT.ty hs).und
 split at h
 all_goals try cases h
 all_goals rename_i e1
 all_goals rw [e1] at c1
 all_goals cases d1 <;> simp [tdChk] at c1
 ·have := ho _ (List.mem_singleton.2 rfl)
  simp only [BE.den, IE.den] at this
  have := of_decide_eq_true this
  simp [Builtin.len_, run_underlying h1, SW.den, SC.den, SV.den, goInt]
  omega
 ·simp [Builtin.len_, run_underlying h1, SW.den, SC.den, SV.den, goInt, IE.den]
 ·rename_i c a len cap _
  have h2 := nilOb_ok (ho _ (List.mem_cons_self ..))
  have := ho (.ile (.lit 0) len) (by simp)
  simp only [BE.den, IE.den] at this
  have := of_decide_eq_true this
  cases hc : c.den ρ with
  | true => simp [Builtin.len_, run_underlying h1, SW.den, SC.den, SV.den, goInt, hc, h2 hc]
  | false =>
   simp [Builtin.len_, run_underlying h1, SW.den, SC.den, SV.den, goInt, hc]
   omega
 ·rename_i l
  have hl : (ByteArray.mk l.toArray).size = l.length := List.size_toArray
  simp [Builtin.len_, run_underlying h1, SW.den, SC.den, SV.den, goInt, IE.den, hl]
 ·obtain ⟨rfl, rfl⟩ := c1
  simp [Builtin.len_, run_underlying h1, SW.den, SC.den, SV.den, goInt, IE.den]
theorem fieldAddrW_ok (hT : TabOK P T) {s : TypeId} {x : SW} {f : Nat} {v : SV} {os : List BE} (h : fieldAddrW T s x f = .ok v os) :
  (Instr.fieldAt s (x.den ρ ν) f).run P w = .ok (v.den ρ ν) w := by
 unfold fieldAddrW at h
 split at h
 ·rename_i ti a hs
  obtain ⟨d1, h1, c1, -⟩ := (hT.ty hs).und
  split at h
  ·rename_i fs e1
   rw [e1] at c1
   cases d1 <;> simp [tdChk] at c1
   rename_i gs
   split at h
   ·rename_i off ft hf
    split at h
    ·rename_i tf htf
     split at h
     ·cases h
     ·rename_i hsz
      simp only [PR.one, PR.ok.injEq] at h
      obtain ⟨rfl, _⟩ := h
      rw [c1, List.getElem?_map] at hf
      simp only [Option.map_eq_some_iff] at hf
      obtain ⟨fd, hfd, hfe⟩ := hf
      simp only [Prod.mk.injEq] at hfe
      obtain ⟨rfl, rfl⟩ := hfe
      have hsz' : tf.size ≠ 0 := by simpa using hsz
      have hfd' : gs[f]? = some fd := by simpa using hfd
      simp [Instr.fieldAt, run_underlying h1, hfd', SW.den, SC.den, SV.den, Instr.sureAddr, fieldPlace, (hT.ty htf).size, hsz', add_den]
    ·cases h
   ·cases h
  ·cases h
 ·cases h
theorem fieldW_ok (hT : TabOK P T) {s : TypeId} {x : SW} {f : Nat} {v : SV} {os : List BE} (h : fieldW T s x f = .ok v os) :
  (Instr.field s (x.den ρ ν) f).run P w = .ok (v.den ρ ν) w := by
 unfold fieldW at h
 split at h
 ·rename_i ti cs hs
  obtain ⟨d1, h1, c1, -⟩ := (hT.ty hs).und
  split at h
  ·rename_i fs e1
   rw [e1] at c1
   cases d1 <;> simp [tdChk] at c1
   rename_i gs
   split at h
   ·rename_i off ft hf
    split at h
    ·rename_i y hy
     simp only [PR.ok.injEq] at h
     obtain ⟨rfl, _⟩ := h
     rw [c1, List.getElem?_map] at hf
     simp only [Option.map_eq_some_iff] at hf
     obtain ⟨fd, hfd, hfe⟩ := hf
     simp only [Prod.mk.injEq] at hfe
     obtain ⟨rfl, rfl⟩ := hfe
     have hfd' : gs[f]? = some fd := by simpa using hfd
     have := partW_ok (w := w) (ρ := ρ) (ν := ν) hT hy
     simp [Instr.field, run_underlying h1, hfd', SW.den, asAgg, SV.den, this]
    ·cases h
   ·cases h
  ·cases h
 ·cases h
theorem indexW_ok (hT : TabOK P T) {t : TypeId} {x i : SW} {v : SV} {os : List BE} (h : indexW T t x i = .ok v os) :
  (Instr.index t (x.den ρ ν) (i.den ρ ν)).run P w = .ok (v.den ρ ν) w := by
 unfold indexW at h
 split at h
 ·rename_i ti cs k n hs
  obtain ⟨d1, h1, c1, -⟩ := (hT.ty hs).und
  split at h
  ·rename_i len et e1
   rw [e1] at c1
   cases d1 <;> simp [tdChk] at c1
   obtain ⟨rfl, rfl⟩ := c1
   split at h
   ·rename_i hn
    replace hn := of_decide_eq_true hn
    split at h
    ·rename_i te hte
     split at h
     ·rename_i y hy
      simp only [PR.ok.injEq] at h
      obtain ⟨rfl, _⟩ := h
      have := partW_ok (w := w) (ρ := ρ) (ν := ν) hT hy
      simp only [Instr.index, SW.den, SC.den, SV.den, asIntOf, Sem.run_bind, Sem.run_pure, Result.andThen_ok, run_underlying h1, IE.den]
      rw [if_pos hn]
      simp [(hT.ty hte).size, this]
      cases y <;> rfl
     ·cases h
    ·cases h
   ·cases h
  ·cases h
 ·cases h
theorem den_add {a b : SA} {n : Nat} (hb : b.blk = a.blk) (ho : b.off ρ = a.off ρ + n) : (a.den ρ ν).add n = b.den ρ ν := by
 unfold SA.den
 rw [hb, ho, Addr.add_add]
theorem indexAddrW_ok (hT : TabOK P T) {t : TypeId} {x i : SW} {v : SV} {os : List BE} (h : indexAddrW T t x i = .ok v os) (ho : ∀ o ∈ os, o.den ρ = true) :
  (Instr.indexAt t (x.den ρ ν) (i.den ρ ν)).run P w = .ok (v.den ρ ν) w := by
 unfold indexAddrW at h
 split at h
 ·rename_i ti k e hs
  obtain ⟨d1, h1, c1, -⟩ := (hT.ty hs).und
  split at h
  ·rename_i et a len cap e1
   rw [e1] at c1
   cases d1 <;> simp [tdChk] at c1
   subst c1
   split at h
   ·rename_i te hte
    split at h
    ·rename_i b os' hb
     simp only [PR.one, PR.ok.injEq] at h
     obtain ⟨rfl, rfl⟩ := h
     have o1 := of_decide_eq_true (ho (.ile (.lit 0) e) (by simp))
     have o2 := of_decide_eq_true (ho (.ilt e len) (by simp))
     simp only [IE.den] at o1
     obtain ⟨g1, g2⟩ := idxA_ok hb (fun o hm => ho o (by simp [hm])) o1
     have hlt : e.den ρ < ((len.den ρ).toNat : Int) := by omega
     simp only [Instr.indexAt, SW.den, SC.den, SV.den, asIntOf, Sem.run_bind, Sem.run_pure, Result.andThen_ok, run_underlying h1]
     rw [if_pos ⟨o1, hlt⟩]
     simp [(hT.ty hte).size, den_add (ν := ν) g1 g2]
    ·cases h
   ·cases h
  ·rename_i et c a len cap e1
   rw [e1] at c1
   cases d1 <;> simp [tdChk] at c1
   subst c1
   split at h
   ·rename_i te hte
    split at h
    ·rename_i b os' hb
     simp only [PR.one, PR.ok.injEq] at h
     obtain ⟨rfl, rfl⟩ := h
     have o0 := ho c.notS (by simp)
     rw [BE.notS_den] at o0
     have o1 := of_decide_eq_true (ho (.ile (.lit 0) e) (by simp))
     have o2 := of_decide_eq_true (ho (.ilt e len) (by simp))
     simp only [IE.den] at o1
     obtain ⟨g1, g2⟩ := idxA_ok hb (fun o hm => ho o (by simp [hm])) o1
     have hlt : e.den ρ < ((len.den ρ).toNat : Int) := by omega
     have hc : c.den ρ = false := by simpa using o0
     simp only [Instr.indexAt, SW.den, SC.den, SV.den, hc, Bool.false_eq_true, if_false, asIntOf, Sem.run_bind, Sem.run_pure, Result.andThen_ok, run_underlying h1]
     rw [if_pos ⟨o1, hlt⟩]
     simp [(hT.ty hte).size, den_add (ν := ν) g1 g2]
    ·cases h
   ·cases h
  ·rename_i n et a e1
   rw [e1] at c1
   cases d1 <;> simp [tdChk] at c1
   obtain ⟨rfl, rfl⟩ := c1
   split at h
   ·rename_i te hte
    split at h
    ·rename_i b os' hb
     simp only [PR.one, PR.ok.injEq] at h
     obtain ⟨rfl, rfl⟩ := h
     have o1 := of_decide_eq_true (ho (.ile (.lit 0) e) (by simp))
     have o2 := of_decide_eq_true (ho (.ilt e (.lit n)) (by simp))
     simp only [IE.den] at o1 o2
     obtain ⟨g1, g2⟩ := idxA_ok hb (fun o hm => ho o (by simp [hm])) o1
     simp only [Instr.indexAt, SW.den, SC.den, SV.den, asIntOf, Sem.run_bind, Sem.run_pure, Result.andThen_ok, run_underlying h1, Instr.sureAddr]
     rw [if_pos ⟨o1, o2⟩]
     simp [(hT.ty hte).size, den_add (ν := ν) g1 g2]
    ·cases h
   ·cases h
  ·cases h
 ·cases h
theorem sliceBound_ok {k : IntKind} {n : Int} {y : Nat} {code : BoundsCode} (h0 : 0 ≤ n) (h1 : n ≤ y) : (Instr.sliceBound (.int k n) y code).run P w = .ok n.toNat w := by
 simp only [Instr.sliceBound, asIntOf, Sem.run_bind, Sem.run_pure, Result.andThen_ok]
 rw [if_pos ⟨h0, h1⟩]
 rfl
theorem sliceW_ok (hT : TabOK P T) {kn : Kn} (hk : Kn.ok ρ kn) {t : TypeId} {x : SW} {lo hi : Option SW} {v : SV} {os : List BE} (h : sliceW T kn t x lo hi = .ok v os) (ho : ∀ o ∈ os, o.den ρ = true) :
  (Instr.sliceAt t (x.den ρ ν) (lo.map (·.den ρ ν)) (hi.map (·.den ρ ν)) none).run P w = .ok (v.den ρ ν) w := by
 unfold sliceW at h
 split at h
 case h_2 => cases h
 rename_i ti a len cap hs
 obtain ⟨d1, h1, c1, -⟩ := (hT.ty hs).und
 split at h
 case h_2 => cases h
 rename_i et e1
 rw [e1] at c1
 cases d1 <;> simp [tdChk] at c1
 subst c1
 split at h
 case h_2 => cases h
 rename_i te hte
 simp only at h
 split at h
 case h_2 => cases h
 rename_i hE lE hh hl
 have hhi : (hi = none ∧ hE = len) ∨ ∃ k, hi = some (.one (.int k hE)) := by
  split at hh
  ·simp at hh; exact .inl ⟨rfl, hh.symm⟩
  ·rename_i k e; simp at hh; subst hh; exact .inr ⟨k, rfl⟩
  ·cases hh
 have hlo : (lo = none ∧ lE = .lit 0) ∨ ∃ k, lo = some (.one (.int k lE)) := by
  split at hl
  ·simp at hl; exact .inl ⟨rfl, hl.symm⟩
  ·rename_i k e; simp at hl; subst hl; exact .inr ⟨k, rfl⟩
  ·cases hl
 clear hh hl
 have key : ∀ (b : SA), (∀ o ∈ ([.ile (.lit 0) lE, .ile lE hE, .ile hE cap, .ile (.lit 0) len] : List BE), o.den ρ = true) →
   (lE.den ρ = cap.den ρ → b = a) → (¬ lE.den ρ = cap.den ρ → (a.den ρ ν).add ((lE.den ρ).toNat * te.size) = b.den ρ ν) →
   (Instr.sliceAt t ((SW.one (.sl a len cap)).den ρ ν) (lo.map (·.den ρ ν)) (hi.map (·.den ρ ν)) none).run P w =
    .ok ((SW.one (.sl b (hE.subS lE) (cap.subS lE))).den ρ ν) w := by
  intro b hob hb1 hb2
  have o1 := of_decide_eq_true (hob (.ile (.lit 0) lE) (by simp))
  have o2 := of_decide_eq_true (hob (.ile lE hE) (by simp))
  have o3 := of_decide_eq_true (hob (.ile hE cap) (by simp))
  have o4 := of_decide_eq_true (hob (.ile (.lit 0) len) (by simp))
  simp only [IE.den] at o1 o4
  have hbnd : (Instr.sliceBounds true (len.den ρ).toNat (cap.den ρ).toNat (lo.map (·.den ρ ν)) (hi.map (·.den ρ ν)) none).run P w =
    .ok ((lE.den ρ).toNat, (hE.den ρ).toNat, (cap.den ρ).toNat) w := by
   have s1 : ∀ k code, (Instr.sliceBound (.int k (hE.den ρ)) (cap.den ρ).toNat code).run P w = .ok (hE.den ρ).toNat w := fun k code => sliceBound_ok (by omega) (by omega)
   have s2 : ∀ k code, (Instr.sliceBound (.int k (lE.den ρ)) (hE.den ρ).toNat code).run P w = .ok (lE.den ρ).toNat w := fun k code => sliceBound_ok (by omega) (by omega)
   rcases hhi with ⟨rfl, rfl⟩ | ⟨k, rfl⟩ <;> rcases hlo with ⟨rfl, rfl⟩ | ⟨k', rfl⟩ <;>
    simp [Instr.sliceBounds, SW.den, SC.den, s1, s2, IE.den]
  have e3 : (hE.den ρ).toNat - (lE.den ρ).toNat = (hE.den ρ - lE.den ρ).toNat := by omega
  have e4 : (cap.den ρ).toNat - (lE.den ρ).toNat = (cap.den ρ - lE.den ρ).toNat := by omega
  generalize lo.map (·.den ρ ν) = lv at hbnd ⊢
  generalize hi.map (·.den ρ ν) = hv at hbnd ⊢
  simp only [Instr.sliceAt, Instr.slice, SW.den, SC.den, Sem.run_bind, run_underlying h1, Result.andThen_ok, hbnd, (hT.ty hte).size, Sem.run_pure, IE.subS_den, e3, e4]
  by_cases hc : lE.den ρ = cap.den ρ
  ·rw [if_pos (by rw [hc]), hb1 hc]
  ·rw [if_neg (by omega)]
   simp only [Option.map_some, hb2 hc]
 rcases hlo with ⟨rfl, rfl⟩ | ⟨k, rfl⟩
 ·simp only [if_true, PR.one, PR.ok.injEq] at h
  obtain ⟨rfl, rfl⟩ := h
  have := key a ho (fun _ => rfl) (fun _ => by simp [IE.den, Addr.add])
  rw [this]
  simp [SV.den, SW.den, SC.den, IE.subS_den, IE.den]
 ·simp only [Bool.false_eq_true, if_false] at h
  split at h
  ·rename_i hd
   simp only [PR.one, PR.ok.injEq] at h
   obtain ⟨rfl, rfl⟩ := h
   have hd' := BE.decide_ok hk hd
   simp [BE.den] at hd'
   exact key a ho (fun _ => rfl) (fun hne => absurd hd' hne)
  ·rename_i hd
   have hd' := BE.decide_ok hk hd
   simp [BE.den] at hd'
   split at h
   ·rename_i b os' hb
    simp only [PR.one, PR.ok.injEq] at h
    obtain ⟨rfl, rfl⟩ := h
    have o1 := of_decide_eq_true (ho (.ile (.lit 0) lE) (by simp))
    simp only [IE.den] at o1
    obtain ⟨g1, g2⟩ := idxA_ok hb (fun o hm => ho o (List.mem_append_right _ hm)) o1
    have hadd := den_add (ν := ν) g1 g2
    exact key b (fun o hm => ho o (List.mem_append_left _ hm)) (fun hc => absurd hc hd') (fun _ => hadd)
   ·cases h
  ·cases h
theorem sliceNil_ok (hT : TabOK P T) {t : TypeId} {lo hi : Option SW} {v : SV} {os : List BE} (h : sliceNil T t lo hi = .ok v os) (ho : ∀ o ∈ os, o.den ρ = true) :
  (Instr.sliceAt t (.slice none 0 0) (lo.map (·.den ρ ν)) (hi.map (·.den ρ ν)) none).run P w = .ok (v.den ρ ν) w := by
 unfold sliceNil at h
 split at h
 case h_2 => cases h
 rename_i ti hs
 obtain ⟨d1, h1, c1, -⟩ := (hT.ty hs).und
 split at h
 case h_2 => cases h
 rename_i et e1
 rw [e1] at c1
 cases d1 <;> simp [tdChk] at c1
 subst c1
 split at h
 case h_2 => cases h
 rename_i te hte
 split at h
 case h_2 => cases h
 rename_i hE lE hh hl
 have hhi : (hi = none ∧ hE = .lit 0) ∨ ∃ k, hi = some (.one (.int k hE)) := by
  split at hh
  ·simp at hh; exact .inl ⟨rfl, hh.symm⟩
  ·rename_i k e; simp at hh; subst hh; exact .inr ⟨k, rfl⟩
  ·cases hh
 have hlo : (lo = none ∧ lE = .lit 0) ∨ ∃ k, lo = some (.one (.int k lE)) := by
  split at hl
  ·simp at hl; exact .inl ⟨rfl, hl.symm⟩
  ·rename_i k e; simp at hl; subst hl; exact .inr ⟨k, rfl⟩
  ·cases hl
 clear hh hl
 simp only [PR.one, PR.ok.injEq] at h
 obtain ⟨rfl, rfl⟩ := h
 have o1 := of_decide_eq_true (ho (.ile (.lit 0) lE) (by simp))
 have o2 := of_decide_eq_true (ho (.ile lE hE) (by simp))
 have o3 := of_decide_eq_true (ho (.ile hE (.lit 0)) (by simp))
 simp only [IE.den] at o1 o3
 have z1 : hE.den ρ = 0 := by omega
 have z2 : lE.den ρ = 0 := by omega
 have hbnd : (Instr.sliceBounds true 0 0 (lo.map (·.den ρ ν)) (hi.map (·.den ρ ν)) none).run P w = .ok (0, 0, 0) w := by
  have s1 : ∀ k code, (Instr.sliceBound (.int k 0) 0 code).run P w = .ok 0 w := fun k code => sliceBound_ok (by omega) (by omega)
  rcases hhi with ⟨rfl, rfl⟩ | ⟨k, rfl⟩ <;> rcases hlo with ⟨rfl, rfl⟩ | ⟨k', rfl⟩ <;>
   simp [Instr.sliceBounds, SW.den, SC.den, z1, z2, s1]
 generalize lo.map (·.den ρ ν) = lv at hbnd ⊢
 generalize hi.map (·.den ρ ν) = hv at hbnd ⊢
 simp only [Instr.sliceAt, Instr.slice, Sem.run_bind, run_underlying h1, Result.andThen_ok, hbnd, (hT.ty hte).size, Sem.run_pure]
 rfl
theorem sliceX_ok (hT : TabOK P T) {kn : Kn} (hk : Kn.ok ρ kn) {t : TypeId} {x : SW} {lo hi : Option SW} {v : SV} {os : List BE} (h : sliceX T kn t x lo hi = .ok v os) (ho : ∀ o ∈ os, o.den ρ = true) :
  (Instr.sliceAt t (x.den ρ ν) (lo.map (·.den ρ ν)) (hi.map (·.den ρ ν)) none).run P w = .ok (v.den ρ ν) w := by
 unfold sliceX at h
 split at h
 ·exact sliceNil_ok hT h ho
 ·rename_i c a len cap
  split at h
  ·cases h
  ·rename_i hd
   have : (SW.one (.sln c a len cap)).den ρ ν = .slice none 0 0 := by simp [SW.den, SC.den, BE.decide_ok hk hd]
   rw [this]
   exact sliceNil_ok hT h ho
  ·rename_i hd
   have : (SW.one (.sln c a len cap)).den ρ ν = (SW.one (.sl a len cap)).den ρ ν := by simp [SW.den, SC.den, BE.decide_ok hk hd]
   rw [this]
   split at h
   ·rename_i b l m os' hs
    simp only [PR.ok.injEq] at h
    obtain ⟨rfl, rfl⟩ := h
    have e2 : (SV.w (.one (.sln c b l m))).den ρ ν = (SV.w (.one (.sl b l m))).den ρ ν := by simp [SV.den, SW.den, SC.den, BE.decide_ok hk hd]
    rw [e2]
    exact sliceW_ok hT hk hs ho
   ·exact sliceW_ok hT hk h ho
 ·exact sliceW_ok hT hk h ho

end

theorem zeroI64_ok {P : Program} {T : Tab} {t : TypeId} {te : TI} {w : World} (hT : TabOK P T) (ht : T.ty t = some te) (hz : zeroI64 te = true) (hi : isI64 te.d = true) : (zeroValue t).run P w = .ok (.int .i64 0) w := by
 obtain ⟨z, h1, h2, h3⟩ := (hT.ty ht).zeroV (w := w) {} (fun _ => ⟨0, 0, none⟩)
 unfold zeroI64 at hz
 split at hz
 ·rename_i n he
  simp at hz
  subst hz
  rw [he] at h2
  have ha : isAggV z = false := by
   rw [h3]
   unfold isI64 at hi
   split at hi
   ·rename_i hd; rw [hd]; rfl
   ·cases hi
  have : z = .int .i64 0 := by
   cases z <;> simp [Value.cells, isAggV, SC.den, IE.den] at h2 ha <;> simp_all
  rw [h1, this]
 ·cases hz
theorem mapTy_ok {P : Program} {T : Tab} {t : TypeId} (hT : TabOK P T) (h : mapTy T t = true) : ∃ kt et, P.underlying t = some (.map kt et) ∧ P.underlying kt = some (.int .i64) ∧ (∀ w, (zeroValue et).run P w = .ok (.int .i64 0) w) ∧ isMapT t = false := by
 unfold mapTy at h
 split at h
 case h_2 => cases h
 rename_i ti hti
 split at h
 case h_2 => cases h
 rename_i kt et hd
 split at h
 case h_2 => cases h
 rename_i tk te hk he
 simp only [Bool.and_eq_true] at h
 obtain ⟨d1, e1, c1, -⟩ := (hT.ty hti).und
 obtain ⟨d2, e2, c2, -⟩ := (hT.ty hk).und
 rw [hd] at c1
 cases d1 <;> simp [tdChk] at c1
 obtain ⟨rfl, rfl⟩ := c1
 have hk2 : tk.d = .int .i64 := by
  have := h.1.1
  unfold isI64 at this
  split at this
  ·assumption
  ·cases this
 rw [hk2] at c2
 cases d2 <;> simp [tdChk] at c2
 rw [← kindEq_eq c2] at e2
 exact ⟨_, _, e1, e2, fun w => zeroI64_ok hT he h.2 h.1.2, (hT.ty hti).lt⟩
theorem mapKey_den {ρ : Env} (ke : IE) : (mapKey ke).den ρ = ke.den ρ + 9223372036854775808 := by
 unfold mapKey
 rw [IE.addS_den]
 rfl
theorem mapSeg_ok {sb : SB} {g : Seg} (h : mapSeg sb = some g) : sb.segs = [g] ∧ sb.isMap = true ∧ g.n1.lit? = some 18446744073709551616 ∧ g.s1 = 2 ∧ g.n2 = 1 ∧ g.s2 = 0 ∧ g.lo = 0 ∧ g.ks = [.bool, .int .i64] := by
 unfold mapSeg at h
 split at h
 case h_2 => cases h
 rename_i g' hs
 rw [Option.ite_none_right_eq_some] at h
 obtain ⟨hc, h⟩ := h
 simp only [Option.some.injEq] at h
 subst h
 simp only [Bool.and_eq_true, beq_iff_eq] at hc
 obtain ⟨⟨⟨⟨⟨⟨c1, c2⟩, c3⟩, c4⟩, c5⟩, c6⟩, c7⟩ := hc
 refine ⟨hs, c1, ?_, c3, c4, c5, c6, ?_⟩
 ·split at c2
  ·rename_i n hn; simp at c2; rw [hn, c2]
  ·cases c2
 ·split at c7
  ·assumption
  ·cases c7
theorem mapLoc_ok {ρ : Env} {sb : SB} {g : Seg} {ke : IE} (h : mapSeg sb = some g) (ho : ∀ o ∈ mapObs sb ke, o.den ρ = true) :
  (-9223372036854775808 ≤ ke.den ρ ∧ ke.den ρ ≤ 9223372036854775807) ∧ (∀ o ∈ sb.nlOb, o.den ρ = true) ∧
  ∀ j, j < 2 → (Loc.sg 0 g (mapKey ke) (.lit 0) j).ok sb ∧ (∀ o ∈ (Loc.sg 0 g (mapKey ke) (.lit 0) j).obs, o.den ρ = true) ∧ (Loc.sg 0 g (mapKey ke) (.lit 0) j).pos ρ = keyPos (ke.den ρ) j := by
 obtain ⟨h1, h2, h3, h4, h5, h6, h7, h8⟩ := mapSeg_ok h
 have a1 : 0 ≤ (mapKey ke).den ρ := of_decide_eq_true (ho (.ile (.lit 0) (mapKey ke)) (by simp [mapObs]))
 have a2 : (mapKey ke).den ρ < 18446744073709551616 := of_decide_eq_true (ho (.ilt (mapKey ke) (.lit 18446744073709551616)) (by simp [mapObs]))
 have e := mapKey_den (ρ := ρ) ke
 refine ⟨by omega, fun o hm => ho o (by simp [mapObs, hm]), fun j hj => ⟨⟨by rw [h1]; rfl, by rw [h8]; exact hj⟩, fun o hm => ?_, ?_⟩⟩
 ·have hn := IE.lit?_ok (ρ := ρ) h3
  simp only [Loc.obs, List.mem_cons, List.not_mem_nil, or_false] at hm
  rcases hm with rfl | rfl | rfl | rfl
  ·exact ho _ (by simp [mapObs])
  ·exact decide_eq_true (by rw [hn]; exact a2)
  ·rfl
  ·rw [h5]; rfl
 ·simp only [Loc.pos, IE.den, h4, h6, h7, e]
  unfold keyPos
  omega
theorem lookW_ok {P : Program} {T : Tab} (hT : TabOK P T) {ρ : Env} {ν : Nat → Addr} {kn : Kn} (hk : Kn.ok ρ kn) {hp : List SB} {w : World} (hh : HpOK ρ ν hp w) {t : TypeId} {m k : SW} {ok : Bool} {v : SV} {os : List BE}
  (h : lookW T kn hp t m k ok = .ok v os) (ho : ∀ o ∈ os, o.den ρ = true) : (Instr.lookup t (m.den ρ ν) (k.den ρ ν) ok).run P w = .ok (v.den ρ ν) w := by
 unfold lookW at h
 split at h
 case isFalse => cases h
 rename_i hty
 obtain ⟨kt, et, u1, u2, u3, -⟩ := mapTy_ok hT hty
 split at h
 case h_2 => cases h
 rename_i b ke
 split at h
 case h_2 => cases h
 rename_i sb hsb
 split at h
 ·cases h
 rename_i hgr
 simp only [Bool.or_eq_true, not_or, Bool.not_eq_true] at hgr
 split at h
 ·cases h
 rename_i g hg
 have main : (∀ o ∈ mapObs sb ke, o.den ρ = true) → ∃ es clock, w.heap[(ν b).block]? = some (.map es clock) ∧ MapWf es.toList ∧ sb.has ρ ν (virt es.toList) := by
  intro ho'
  obtain ⟨-, hnl, -⟩ := mapLoc_ok (ρ := ρ) hg ho'
  obtain ⟨-, cs, h1, h2⟩ := hh.blk b sb hsb (SB.live_of hgr.1 hnl) hgr.2
  have hmp := (mapSeg_ok hg).2.1
  obtain ⟨es, clock, e1, e2, e3⟩ := IsObj.map h1 hmp
  rw [e3] at h2
  exact ⟨es, clock, e1, e2, h2⟩
 have fin : ∀ e x, lookV ok e x (mapObs sb ke) = .ok v os → (∀ es : Array MapEntry, MapWf es.toList → sb.has ρ ν (virt es.toList) → (∀ o ∈ mapObs sb ke, o.den ρ = true) → (mlook es.toList (ke.den ρ)).isSome = x ∧ (mlook es.toList (ke.den ρ)).getD 0 = e.den ρ) →
   (Instr.lookup t ((SW.one (.mp b)).den ρ ν) ((SW.one (.int .i64 ke)).den ρ ν) ok).run P w = .ok (v.den ρ ν) w := by
  intro e x hv hx
  have hos : os = mapObs sb ke ∧ v = (if ok then .tup [.one (.int .i64 e), .one (.bool (.lit x))] else .w (.one (.int .i64 e))) := by
   unfold lookV at hv
   cases ok <;> simp at hv <;> exact ⟨hv.2.symm, by simpa using hv.1.symm⟩
  obtain ⟨rfl, rfl⟩ := hos
  obtain ⟨es, clock, e1, e2, e3⟩ := main ho
  obtain ⟨x1, x2⟩ := hx es e2 e3 ho
  have hr := run_lookup u1 u2 (u3 w) e1 e2 (ke.den ρ) ok
  simp only [SW.den, SC.den]
  rw [hr, x1, x2]
  cases ok <;> simp [SV.den, SW.den, SC.den, BE.den]
 split at h
 ·cases h
 ·cases h
 rename_i c hc
 split at h
 ·cases h
 rename_i cb hcb
 have hcv : c = .bool cb := by
  unfold svBool at hcb
  split at hcb
  ·rename_i heq; simp at hcb; subst hcb; cases heq; rfl
  ·cases hcb
 have r0 : ∀ es : Array MapEntry, sb.has ρ ν (virt es.toList) → (∀ o ∈ mapObs sb ke, o.den ρ = true) → (mlook es.toList (ke.den ρ)).isSome = cb.den ρ := by
  intro es e3 ho'
  obtain ⟨⟨k1, k2⟩, -, hl⟩ := mapLoc_ok (ρ := ρ) hg ho'
  obtain ⟨l1, l2, l3⟩ := hl 0 (by decide)
  have := SB.read_ok hk e3 l1 l2 hc
  rw [l3, (virt_key es.toList k1 k2).1, hcv] at this
  simpa [SC.den] using this
 split at h
 ·cases h
 ·rename_i hdec
  refine fin _ _ h fun es e2 e3 ho' => ?_
  have := r0 es e3 ho'
  rw [BE.decide_ok hk hdec] at this
  refine ⟨this, ?_⟩
  cases hm : mlook es.toList (ke.den ρ) with
  | none => rfl
  | some u => rw [hm] at this; cases this
 ·rename_i hdec
  split at h
  case h_2 => cases h
  case h_3 => cases h
  rename_i d hd
  split at h
  case h_2 => cases h
  rename_i e he
  have hdv : d = .int .i64 e := by
   unfold svInt at he
   split at he
   ·rename_i heq; simp at he; obtain ⟨rfl, rfl⟩ := he; cases heq; rfl
   ·cases he
  refine fin _ _ h fun es e2 e3 ho' => ?_
  obtain ⟨⟨k1, k2⟩, -, hl⟩ := mapLoc_ok (ρ := ρ) hg ho'
  obtain ⟨l1, l2, l3⟩ := hl 1 (by decide)
  have := SB.read_ok hk e3 l1 l2 hd
  rw [l3, (virt_key es.toList k1 k2).2, hdv] at this
  refine ⟨by rw [r0 es e3 ho', BE.decide_ok hk hdec], by simpa [SC.den] using this⟩
theorem wOf_ok {ρ : Env} {ν : Nat → Addr} {gl : List (Nat × Nat)} {kn : Kn} {fr : Fr} {a : Act} (hg : GlOK ν gl) (hk : Kn.ok ρ kn) (hf : FrOK ρ ν fr a) :
  ∀ {l : List (Nat × Operand)} {ps : List (Nat × SW)}, wOf (l.map fun p => (p.1, opd gl kn fr p.2)) = some ps → l.map (fun p => (p.1, a.eval p.2)) = ps.map fun p => (p.1, p.2.den ρ ν)
 | [], ps, h => by simp [wOf] at h; subst h; rfl
 | (i, x) :: r, ps, h => by
  simp only [List.map_cons] at h
  unfold wOf at h
  split at h
  ·rename_i heq; cases heq
  ·rename_i j y r' heq
   simp only [List.cons.injEq, Prod.mk.injEq] at heq
   obtain ⟨⟨rfl, hx⟩, rfl⟩ := heq
   simp only [Option.map_eq_some_iff] at h
   obtain ⟨qs, hqs, rfl⟩ := h
   have := opd_ok hg hk hf hx
   simp only [List.map_cons, wOf_ok hg hk hf hqs, this]
   rfl
  ·cases h
theorem plainBlk_ok {ρ : Env} {ν : Nat → Addr} {v : SV} {b : Nat} (h : plainBlk v = some b) : v.den ρ ν = .pointer (some (ν b)) := by
 unfold plainBlk at h
 split at h
 ·rename_i a
  split at h
  ·rename_i ha
   simp at h
   subst h
   have := SA.lit?_ok (ρ := ρ) ha
   simp [SV.den, SW.den, SC.den, SA.den, this, Addr.add_zero]
  ·cases h
 ·cases h
theorem plainBlks_ok {ρ : Env} {ν : Nat → Addr} {gl : List (Nat × Nat)} {kn : Kn} {fr : Fr} {a : Act} (hg : GlOK ν gl) (hk : Kn.ok ρ kn) (hf : FrOK ρ ν fr a) :
  ∀ {l : List Operand} {bs : List Nat}, plainBlks (l.map (opd gl kn fr)) = some bs → l.map a.eval = bs.map fun b => Value.pointer (some (ν b))
 | [], bs, h => by simp [plainBlks] at h; subst h; rfl
 | x :: r, bs, h => by
  simp only [List.map_cons] at h
  cases hx : opd gl kn fr x with
  | none => simp [hx, plainBlks] at h
  | some v =>
   simp only [hx, plainBlks] at h
   split at h
   ·rename_i b cs hb hcs
    simp at h
    subst h
    simp only [List.map_cons, plainBlks_ok hg hk hf hcs, opd_ok hg hk hf hx, plainBlk_ok hb]
   ·cases h
theorem svBool_eq {v : SV} {b : BE} (h : svBool v = some b) : v = .w (.one (.bool b)) := by
 unfold svBool at h
 split at h
 ·simp at h; rw [h]
 ·cases h

set_option maxHeartbeats 1000000 in
theorem pureOp_ok {P : Program} {T : Tab} (hT : TabOK P T) {ρ : Env} {ν : Nat → Addr} {gl : List (Nat × Nat)} {kn : Kn} {fr : Fr} {hp : List SB} {a : Act} {w : World}
  (hg : GlOK ν gl) (hk : Kn.ok ρ kn) (hf : FrOK ρ ν fr a) (hh : HpOK ρ ν hp w) {o : Oper} {v : SV} {os : List BE}
  (h : pureOp T gl kn fr hp o = .ok v os) (ho : ∀ b ∈ os, b.den ρ = true) : (execOp a.eval o).run P w = .ok (.value (v.den ρ ν)) w := by
 have opk : ∀ {x v}, opd gl kn fr x = some v → a.eval x = v.den ρ ν := fun hx => opd_ok hg hk hf hx
 unfold pureOp at h
 unfold execOp
 split at h
 case h_1 x ho' =>
  split at h
  ·rename_i v' hx
   simp only [PR.ok.injEq] at h
   obtain ⟨rfl, rfl⟩ := h
   simp [ho', opk hx]
  ·cases h
 case h_2 x ho' =>
  split at h
  ·rename_i v' hx
   simp only [PR.ok.injEq] at h
   obtain ⟨rfl, rfl⟩ := h
   simp [ho', opk hx]
  ·cases h
 case h_3 c x y ho' =>
  simp only [ho']
  split at h
  ·cases h
  rename_i cb hcb
  simp only [Option.bind_eq_some_iff] at hcb
  obtain ⟨vc, hvc, hvb⟩ := hcb
  have hc := opk hvc
  rw [svBool_eq hvb] at hc
  simp only [SV.den, SW.den, SC.den] at hc
  simp only [hc, asBool, Sem.run_bind, Sem.run_pure, Result.andThen_ok]
  split at h
  ·rename_i hd
   have hd' := BE.decide_ok hk hd
   split at h
   ·rename_i v' hx
    simp only [PR.ok.injEq] at h
    obtain ⟨rfl, rfl⟩ := h
    simp [hd', opk hx]
   ·cases h
  ·rename_i hd
   have hd' := BE.decide_ok hk hd
   split at h
   ·rename_i v' hx
    simp only [PR.ok.injEq] at h
    obtain ⟨rfl, rfl⟩ := h
    simp [hd', opk hx]
   ·cases h
  ·split at h
   ·rename_i p q hp' hq'
    simp only [Option.bind_eq_some_iff] at hp' hq'
    obtain ⟨vx, hvx, hbx⟩ := hp'
    obtain ⟨vy, hvy, hby⟩ := hq'
    simp only [PR.one, PR.ok.injEq] at h
    obtain ⟨rfl, rfl⟩ := h
    cases hcd : cb.den ρ
    ·have hk' : Kn.ok ρ ((cb, false) :: kn) := by
      intro r hr
      rcases List.mem_cons.1 hr with rfl | hr
      ·exact hcd
      ·exact hk r hr
     have := opd_ok hg hk' hf hvy
     rw [svBool_eq hby] at this
     simp [this, SV.den, SW.den, SC.den, BE.iteS_den, hcd]
    ·have hk' : Kn.ok ρ ((cb, true) :: kn) := by
      intro r hr
      rcases List.mem_cons.1 hr with rfl | hr
      ·exact hcd
      ·exact hk r hr
     have := opd_ok hg hk' hf hvx
     rw [svBool_eq hbx] at this
     simp [this, SV.den, SW.den, SC.den, BE.iteS_den, hcd]
   ·cases h
 case h_4 t x ho' =>
  simp only [ho']
  split at h
  ·rename_i sa hx
   have := loadPR_ok hT hk hh h ho
   simp [opk hx, SV.den, SW.den, SC.den, Instr.loadAt, Instr.sureAddr, this]
  ·cases h
 case h_5 x ho' =>
  simp only [ho']
  split at h
  ·rename_i sa hx
   simp only [PR.one, PR.ok.injEq] at h
   obtain ⟨rfl, rfl⟩ := h
   simp [opk hx, SV.den, SW.den, SC.den]
  ·rename_i f c hx
   simp only [PR.one, PR.ok.injEq] at h
   obtain ⟨rfl, rfl⟩ := h
   simp [opk hx, SV.den, SW.den, SC.den]
  ·cases h
 case h_6 op t x y ty ho' =>
  simp only [ho']
  split at h
  ·rename_i p q hx hy
   have := binW_ok hT h ho (ρ := ρ) (ν := ν) (w := w)
   simp only [opk hx, opk hy, SV.den]
   simp only [Sem.run_bind] at this ⊢
   rw [this]
   rfl
  ·cases h
 case h_7 op t x ho' =>
  simp only [ho']
  split at h
  ·rename_i b hx
   simp only [PR.one, PR.ok.injEq] at h
   obtain ⟨rfl, rfl⟩ := h
   simp [opk hx, SV.den, SW.den, SC.den, Op.unary, BE.notS_den]
  ·rename_i k e hx
   simp only [PR.one, PR.ok.injEq] at h
   obtain ⟨rfl, hobs⟩ := h
   have := fitE_ok (wr := T.wr) (ρ := ρ) (k := k) (e := IE.subS (.lit 0) e) (by rw [hobs]; exact ho)
   simp [opk hx, SV.den, SW.den, SC.den, Op.unary, Op.intArith, this, IE.subS_den, IE.den]
  ·cases h
 case h_8 s d x ho' =>
  simp only [ho']
  split at h
  ·rename_i y hx
   have := convW_ok hT h ho (ρ := ρ) (ν := ν) (w := w)
   simp [opk hx, SV.den, this]
  ·cases h
 case h_9 t x ho' =>
  simp only [ho']
  split at h
  ·rename_i c ti hx hti
   obtain ⟨d, hd, hc, -⟩ := (hT.ty hti).und
   have hcon : P.concrete t = true := by
    unfold Program.concrete
    rw [hd]
    cases hd' : ti.d <;> rw [hd'] at h hc <;> simp only at h <;> first | (cases h; done) | (cases d <;> simp [tdChk] at hc <;> rfl)
   have hv : v = .w (.one (.iface t c)) ∧ os = [] := by
    split at h
    ·cases h
    ·cases h
    ·simp only [PR.one, PR.ok.injEq] at h; exact ⟨h.1.symm, h.2.symm⟩
   obtain ⟨rfl, rfl⟩ := hv
   simp [opk hx, SV.den, SW.den, SC.den, run_makeInterface w t _ hcon]
  ·cases h
 case h_10 f first caps ho' =>
  simp only [ho']
  split at h
  ·rename_i hfe
   split at h
   ·rename_i bs hbs
    simp only [PR.one, PR.ok.injEq] at h
    obtain ⟨rfl, rfl⟩ := h
    have h1 := plainBlks_ok hg hk hf hbs
    have h2 : first = #[] := by simpa using hfe
    subst h2
    have h3 : caps.map a.eval = (bs.map fun b => Value.pointer (some (ν b))).toArray := by
     rw [← h1]
     obtain ⟨l⟩ := caps
     simp
    simp [Instr.makeFunc, h3, SV.den, SW.den, SC.den]
   ·cases h
  ·cases h
 case h_11 t x lo hi ho' =>
  simp only [ho']
  have go : ∀ y l r, opd gl kn fr x = some (.w y) → lo.map a.eval = l.map (·.den ρ ν) → hi.map a.eval = r.map (·.den ρ ν) → sliceX T kn t y l r = .ok v os →
    (do pure (.value (← Instr.sliceAt t (a.eval x) (lo.map a.eval) (hi.map a.eval) ((none : Option Operand).map a.eval))) : Sem Next).run P w = .ok (.value (v.den ρ ν)) w := by
   intro y l r hx hl hr hs
   have := sliceX_ok hT hk hs ho (ρ := ρ) (ν := ν) (w := w)
   rw [hl, hr, opk hx]
   simp [SV.den, this]
  split at h
  ·rename_i y hx hl hr
   refine go y none none hx ?_ ?_ h
   ·cases lo <;> simp at hl ⊢
   ·cases hi <;> simp at hr ⊢
  ·rename_i y l hx hl hr
   refine go y (some l) none hx ?_ ?_ h
   ·cases lo <;> simp at hl ⊢
    rw [opk hl]; rfl
   ·cases hi <;> simp at hr ⊢
  ·rename_i y r hx hl hr
   refine go y none (some r) hx ?_ ?_ h
   ·cases lo <;> simp at hl ⊢
   ·cases hi <;> simp at hr ⊢
    rw [opk hr]; rfl
  ·rename_i y l r hx hl hr
   refine go y (some l) (some r) hx ?_ ?_ h
   ·cases lo <;> simp at hl ⊢
    rw [opk hl]; rfl
   ·cases hi <;> simp at hr ⊢
    rw [opk hr]; rfl
  ·cases h
 case h_12 s x f ho' =>
  simp only [ho']
  split at h
  ·rename_i y hx
   have := fieldAddrW_ok hT h (ρ := ρ) (ν := ν) (w := w)
   simp [opk hx, SV.den, this]
  ·cases h
 case h_13 s x f ho' =>
  simp only [ho']
  split at h
  ·rename_i y hx
   have := fieldW_ok hT h (ρ := ρ) (ν := ν) (w := w)
   simp [opk hx, SV.den, this]
  ·cases h
 case h_14 t x i ho' =>
  simp only [ho']
  split at h
  ·rename_i y j hx hi
   have := indexAddrW_ok hT h ho (ρ := ρ) (ν := ν) (w := w)
   simp [opk hx, opk hi, SV.den, this]
  ·cases h
 case h_15 x i ho' =>
  simp only [ho']
  split at h
  ·rename_i xs hx
   split at h
   ·rename_i y hy
    simp only [PR.ok.injEq] at h
    obtain ⟨rfl, rfl⟩ := h
    simp [opk hx, SV.den, Instr.extract, hy]
   ·cases h
  ·cases h
 case h_16 t parts ho' =>
  simp only [ho']
  split at h
  ·rename_i ps hps
   have h1 := wOf_ok hg hk hf hps
   have := buildW_ok hT h (ρ := ρ) (ν := ν) (w := w)
   have h2 : (parts.map fun (p : Nat × Operand) => (p.1, a.eval p.2)) = (ps.map fun p => (p.1, p.2.den ρ ν)).toArray := by
    rw [← h1]
    obtain ⟨l⟩ := parts
    simp
   simp only [h2, Sem.run_bind, this, Result.andThen_ok]
   rfl
  ·cases h
 case h_17 args argTypes ho' =>
  simp only [ho']
  split at h
  ·rename_i x t hx ht
   split at h
   ·rename_i y hy
    have e1 : args = #[x] := by obtain ⟨l⟩ := args; simp at hx; rw [hx]
    have e2 : argTypes = #[t] := by obtain ⟨l⟩ := argTypes; simp at ht; rw [ht]
    subst e1 e2
    have := lenW_ok (ty := o.type) hT h ho (ρ := ρ) (ν := ν) (w := w)
    simp [resolve, invoke, builtin, opk hy, SV.den, this]
   ·cases h
  ·cases h
 case h_18 args argTypes ho' =>
  simp only [ho']
  split at h
  ·rename_i k p k' q hx
   obtain ⟨l⟩ := args
   simp only [PR.one, PR.ok.injEq] at h
   obtain ⟨rfl, rfl⟩ := h
   rcases l with _ | ⟨x, _ | ⟨y, _ | ⟨z, r⟩⟩⟩ <;> simp only [List.map_cons, List.map_nil, List.cons.injEq, and_true, reduceCtorEq, and_false] at hx
   have e : (if (q.den ρ) < (p.den ρ) then q.den ρ else p.den ρ) = min (p.den ρ) (q.den ρ) := by split <;> omega
   simp [resolve, invoke, builtin, opk hx.1, opk hx.2, SV.den, SW.den, SC.den, Builtin.min_, Builtin.min2, IE.den, e]
  ·cases h
 case h_19 args argTypes ho' =>
  simp only [ho']
  split at h
  ·rename_i k p k' q hx
   obtain ⟨l⟩ := args
   simp only [PR.one, PR.ok.injEq] at h
   obtain ⟨rfl, rfl⟩ := h
   rcases l with _ | ⟨x, _ | ⟨y, _ | ⟨z, r⟩⟩⟩ <;> simp only [List.map_cons, List.map_nil, List.cons.injEq, and_true, reduceCtorEq, and_false] at hx
   have e : (if (p.den ρ) < (q.den ρ) then q.den ρ else p.den ρ) = max (p.den ρ) (q.den ρ) := by split <;> omega
   simp [resolve, invoke, builtin, opk hx.1, opk hx.2, SV.den, SW.den, SC.den, Builtin.max_, Builtin.max2, IE.den, e]
  ·cases h
 case h_20 t m k ok ho' =>
  split at h
  ·rename_i x y hx hy
   have := lookW_ok hT hk hh h ho
   simp [ho', opk hx, opk hy, SV.den] at this ⊢
   simp [this]
  ·cases h
 case h_21 t x i ho' =>
  simp only [ho']
  split at h
  ·rename_i y j hx hi
   have := indexW_ok hT h (ρ := ρ) (ν := ν) (w := w)
   simp [opk hx, opk hi, SV.den, this]
  ·cases h
 case h_22 => cases h

end Go.Rex
