/- Rex, part 7: an operation that leaves memory as it is, symbolically. -/
import Derived.Test.YthomdlajobnmnaaDoorRex6
set_option linter.unusedSimpArgs false
set_option linter.unusedVariables false
namespace Go.Rex

def idxA (a : SA) (e : IE) (sz : Nat) : Option (SA × List BE) :=
 if a.s1 == sz && decide (0 < sz) then some ({ a with i1 := a.i1.addS e }, [.ile (.lit 0) a.i1])
 else match e.lit? with
  | some n => some ({ a with j := a.j + n.toNat * sz }, [])
  | none =>
   if a.s1 == 0 then some ({ a with i1 := e, s1 := sz }, [])
   else if a.s2 == 0 then some ({ a with i2 := e, s2 := sz }, [])
   else none
theorem idxA_ok {ρ : Env} {a b : SA} {e : IE} {sz : Nat} {obs : List BE} (h : idxA a e sz = some (b, obs)) (ho : ∀ o ∈ obs, o.den ρ = true) (he : 0 ≤ e.den ρ) :
  b.blk = a.blk ∧ b.off ρ = a.off ρ + (e.den ρ).toNat * sz := by
 unfold idxA at h
 split at h
 ·rename_i hc
  simp only [Bool.and_eq_true, beq_iff_eq, decide_eq_true_eq] at hc
  simp only [Option.some.injEq, Prod.mk.injEq] at h
  obtain ⟨rfl, rfl⟩ := h
  have h0 := of_decide_eq_true (ho _ (List.mem_singleton.2 rfl))
  simp only [IE.den] at h0
  refine ⟨rfl, ?_⟩
  simp only [SA.off, IE.addS_den, hc.1]
  rw [Int.toNat_add h0 he, Nat.add_mul]
  omega
 ·split at h
  ·rename_i n hn
   simp only [Option.some.injEq, Prod.mk.injEq] at h
   obtain ⟨rfl, rfl⟩ := h
   refine ⟨rfl, ?_⟩
   simp only [SA.off, IE.lit?_ok hn]
   omega
  ·split at h
   ·rename_i hs
    simp only [beq_iff_eq] at hs
    simp only [Option.some.injEq, Prod.mk.injEq] at h
    obtain ⟨rfl, rfl⟩ := h
    refine ⟨rfl, ?_⟩
    simp only [SA.off, hs]
    omega
   ·split at h
    ·rename_i hs
     simp only [beq_iff_eq] at hs
     simp only [Option.some.injEq, Prod.mk.injEq] at h
     obtain ⟨rfl, rfl⟩ := h
     refine ⟨rfl, ?_⟩
     simp only [SA.off, hs]
     omega
    ·cases h

/-! ### loading -/
def ldCells (kn : Kn) (sb : SB) (a : SA) : Nat → Nat → Rd (List SC × List BE)
 | 0, _ => .ok ([], [])
 | n + 1, k =>
  match sb.loc a k with
  | none => .no
  | some l =>
   match sb.read kn l with
   | .no => .no
   | .br c => .br c
   | .ok c =>
    match ldCells kn sb a n (k + 1) with
    | .no => .no
    | .br d => .br d
    | .ok (cs, os) => .ok (c :: cs, l.obs ++ os)
theorem ldCells_ok {ρ : Env} {ν : Nat → Addr} {kn : Kn} (hk : Kn.ok ρ kn) {sb : SB} {a : SA} {arr : Array Value} (hb : sb.has ρ ν arr) :
  ∀ {n k : Nat} {cs : List SC} {os : List BE}, ldCells kn sb a n k = .ok (cs, os) → (∀ o ∈ os, o.den ρ = true) →
   cs.length = n ∧ ∀ j c, cs[j]? = some c → arr[a.off ρ + k + j]? = some (c.den ρ ν)
 | 0, k, cs, os, h, _ => by
  simp only [ldCells, Rd.ok.injEq, Prod.mk.injEq] at h
  obtain ⟨rfl, rfl⟩ := h
  exact ⟨rfl, fun j c hj => by simp at hj⟩
 | n + 1, k, cs, os, h, ho => by
  unfold ldCells at h
  split at h
  ·cases h
  ·rename_i l hl
   split at h
   ·cases h
   ·cases h
   ·rename_i c hc
    split at h
    ·cases h
    ·cases h
    ·rename_i cs' os' hr
     simp only [Rd.ok.injEq, Prod.mk.injEq] at h
     obtain ⟨rfl, rfl⟩ := h
     obtain ⟨hlok, hpos⟩ := SB.loc_ok (ρ := ρ) hl
     have hcell := SB.read_ok hk hb hlok (fun o hm => ho o (by simp [hm])) hc
     obtain ⟨hlen, hrest⟩ := ldCells_ok hk hb hr (fun o hm => ho o (by simp [hm]))
     refine ⟨by simp [hlen], fun j d hj => ?_⟩
     cases j with
     | zero => simp at hj; subst hj; rw [← hpos]; exact hcell
     | succ j =>
      have := hrest j d (by simpa using hj)
      rw [← this]
      congr 1
      omega
def loadPR (T : Tab) (kn : Kn) (hp : List SB) (t : TypeId) (a : SA) : PR :=
 match T.ty t, hp[a.blk]? with
 | some ti, some sb =>
  if sb.gone || sb.isMap then .no else
  match ldCells kn sb a ti.size 0 with
  | .no => .no
  | .br c => .br c
  | .ok (cs, os) => if ti.d.isAgg then .ok (.w (.agg cs)) (sb.nlOb ++ os) else match cs with | [c] => .ok (.w (.one c)) (sb.nlOb ++ os) | _ => .no
 | _, _ => .no
theorem loadPR_ok {P : Program} {T : Tab} (hT : TabOK P T) {ρ : Env} {ν : Nat → Addr} {kn : Kn} (hk : Kn.ok ρ kn) {hp : List SB} {w : World} (hh : HpOK ρ ν hp w)
  {t : TypeId} {a : SA} {v : SV} {os : List BE} (h : loadPR T kn hp t a = .ok v os) (ho : ∀ o ∈ os, o.den ρ = true) :
  (loadVar t (a.den ρ ν)).run P w = .ok (v.den ρ ν) w := by
 unfold loadPR at h
 split at h
 ·rename_i ti sb hti hsb
  split at h
  ·cases h
  rename_i hgone
  have hok := hT.ty hti
  split at h
  ·cases h
  ·cases h
  ·rename_i cs os' hl
   have hcell : ∀ (os'' : List BE), os'' = sb.nlOb ++ os' → (∀ o ∈ os'', o.den ρ = true) → cs.length = ti.size ∧ ∀ j c, cs[j]? = some c → w.cell? ((a.den ρ ν).add j) = some (c.den ρ ν) := by
    intro os'' e ho''
    subst e
    obtain ⟨arr, hb, harr⟩ := hh.cells hsb (SB.live_of (by simp at hgone; exact hgone.1) fun o hm => ho'' o (List.mem_append_left _ hm)) (fun _ => by simp at hgone; exact hgone.2)
    obtain ⟨h1, h2⟩ := ldCells_ok hk hb hl fun o hm => ho'' o (List.mem_append_right _ hm)
    refine ⟨h1, fun j c hj => ?_⟩
    have := h2 j c hj
    unfold SA.den
    rw [Addr.add_add]
    exact harr _ _ (by simpa using this)
   unfold loadVar
   simp only [Sem.run_bind, hok.isAgg, Result.andThen_ok]
   split at h
   ·rename_i hag
    simp only [PR.ok.injEq] at h
    obtain ⟨rfl, rfl⟩ := h
    obtain ⟨h1, h2⟩ := hcell _ rfl ho
    simp only [hag, if_true, Sem.run_bind, hok.size, Result.andThen_ok]
    have := run_loadCells_list (P := P) (w := w) (a.den ρ ν) (cs.map (·.den ρ ν)) (fun j v hj => by
      rw [List.getElem?_map] at hj
      simp only [Option.map_eq_some_iff] at hj
      obtain ⟨c, hc, rfl⟩ := hj
      exact h2 j c hc)
    rw [List.length_map, h1] at this
    simp [this, SV.den, SW.den]
   ·rename_i hag
    split at h
    ·rename_i c
     simp only [PR.ok.injEq] at h
     obtain ⟨rfl, rfl⟩ := h
     obtain ⟨h1, h2⟩ := hcell _ rfl ho
     have := h2 0 c rfl
     have e0 : (a.den ρ ν).add 0 = a.den ρ ν := by simp [Addr.add]
     rw [e0] at this
     simp [hag, this, SV.den, SW.den]
    ·cases h
 ·cases h


/-! ### the operations -/
def plainBlk : SV → Option Nat
 | .w (.one (.ptr a)) => match a.lit? with | some 0 => some a.blk | _ => none
 | _ => none
def plainBlks : List (Option SV) → Option (List Nat)
 | [] => some []
 | some v :: r => match plainBlk v, plainBlks r with | some b, some bs => some (b :: bs) | _, _ => none
 | none :: _ => none
def nilOb (c : BE) (len : IE) : BE := .or c.notS (.ieq len (.lit 0))
theorem nilOb_ok {ρ : Env} {c : BE} {len : IE} (h : (nilOb c len).den ρ = true) : c.den ρ = true → len.den ρ = 0 := by
 intro hc
 simp only [nilOb, BE.den, BE.notS_den, hc, IE.den] at h
 simpa using h
def putAt : List SC → Nat → List SC → List SC
 | cs, _, [] => cs
 | cs, p, c :: r => putAt (cs.set p c) (p + 1) r
def convW (T : Tab) (src dst : TypeId) (x : SW) : PR :=
 match T.ty src, T.ty dst, x with
 | some ti, some tj, .one (.int _ e) =>
  match ti.d, tj.d with
  | .int _, .int k => match fitE T.wr k e with | (e', os) => PR.one (.int k e') os
  | _, _ => .no
 | some _, some tj, .one (.str l) => match tj.d with | .str => PR.one (.str l) | _ => .no
 | _, _, _ => .no
def lenW (T : Tab) (t : TypeId) (x : SW) : PR :=
 match T.ty t with
 | none => .no
 | some ti =>
  match ti.d, x with
  | .sl _, .one (.sl _ len _) => PR.one (.int .i64 len) [.ile (.lit 0) len]
  | .sl _, .one .nilsl => PR.one (.int .i64 (.lit 0))
  | .sl _, .one (.sln c _ len _) => PR.one (.int .i64 len) [nilOb c len, .ile (.lit 0) len]
  | .str, .one (.str l) => PR.one (.int .i64 (.lit l.length))
  | .arr n _, _ => PR.one (.int .i64 (.lit n))
  | _, _ => .no
def fieldAddrW (T : Tab) (s : TypeId) (x : SW) (f : Nat) : PR :=
 match T.ty s, x with
 | some ti, .one (.ptr a) =>
  match ti.d with
  | .struct fs => match fs[f]? with
   | some (off, ft) => match T.ty ft with
    | some tf => if tf.size == 0 then .no else PR.one (.ptr { a with j := a.j + off })
    | none => .no
   | none => .no
  | _ => .no
 | _, _ => .no
def fieldW (T : Tab) (s : TypeId) (x : SW) (f : Nat) : PR :=
 match T.ty s, x with
 | some ti, .agg cs =>
  match ti.d with
  | .struct fs => match fs[f]? with
   | some (off, ft) => match partW T ft cs off with | some y => .ok (.w y) [] | none => .no
   | none => .no
  | _ => .no
 | _, _ => .no
def indexW (T : Tab) (t : TypeId) (x i : SW) : PR :=
 match T.ty t, x, i with
 | some ti, .agg cs, .one (.int _ (.lit n)) =>
  match ti.d with
  | .arr len et => if decide (0 ≤ n ∧ n < (len : Int)) then
    match T.ty et with
    | some te => match partW T et cs (n.toNat * te.size) with | some y => .ok (.w y) [] | none => .no
    | none => .no
   else .no
  | _ => .no
 | _, _, _ => .no
def indexAddrW (T : Tab) (t : TypeId) (x i : SW) : PR :=
 match T.ty t, i with
 | some ti, .one (.int _ e) =>
  match ti.d, x with
  | .sl et, .one (.sl a len _) =>
   match T.ty et with
   | some te => match idxA a e te.size with
    | some (b, os) => PR.one (.ptr b) (.ile (.lit 0) e :: .ilt e len :: os)
    | none => .no
   | none => .no
  | .sl et, .one (.sln c a len _) =>
   match T.ty et with
   | some te => match idxA a e te.size with
    | some (b, os) => PR.one (.ptr b) (c.notS :: .ile (.lit 0) e :: .ilt e len :: os)
    | none => .no
   | none => .no
  | .arr n et, .one (.ptr a) =>
   match T.ty et with
   | some te => match idxA a e te.size with
    | some (b, os) => PR.one (.ptr b) (.ile (.lit 0) e :: .ilt e (.lit n) :: os)
    | none => .no
   | none => .no
  | _, _ => .no
 | _, _ => .no
def sliceW (T : Tab) (kn : Kn) (t : TypeId) (x : SW) (lo hi : Option SW) : PR :=
 match T.ty t, x with
 | some ti, .one (.sl a len cap) =>
  match ti.d with
  | .sl et =>
   match T.ty et with
   | some te =>
    let h? : Option IE := match hi with | none => some len | some (.one (.int _ e)) => some e | _ => none
    let l? : Option IE := match lo with | none => some (.lit 0) | some (.one (.int _ e)) => some e | _ => none
    match h?, l? with
    | some h, some l =>
     let os : List BE := [.ile (.lit 0) l, .ile l h, .ile h cap, .ile (.lit 0) len]
     if (match lo with | none => true | _ => false) then
      PR.one (.sl a h cap) os
     else
      match (BE.ieq l cap).decide kn with
      | some true => PR.one (.sl a (h.subS l) (cap.subS l)) os
      | some false => match idxA a l te.size with
       | some (b, os') => PR.one (.sl b (h.subS l) (cap.subS l)) (os ++ os')
       | none => .no
      | none => .br (.ieq l cap)
    | _, _ => .no
   | none => .no
  | _ => .no
 | _, _ => .no

/-! ### building an aggregate -/
def fillW (place : Nat → Option (Nat × Nat)) (cs : List SC) : List (Nat × SW) → Option (List SC)
 | [] => some cs
 | (i, x) :: r =>
  match place i with
  | none => none
  | some (off, size) => if x.cells.length == size && decide (off + size ≤ cs.length) then fillW place (putAt cs off x.cells) r else none
theorem putAt_length : ∀ (xs cs : List SC) (p : Nat), (putAt cs p xs).length = cs.length
 | [], _, _ => rfl
 | c :: r, cs, p => by simp [putAt, putAt_length r]
theorem SW.cells_den (ρ : Env) (ν : Nat → Addr) (x : SW) : (x.den ρ ν).cells = (x.cells.map (·.den ρ ν)).toArray := by
 cases x with
 | agg cs => rfl
 | one c =>
  simp only [SW.den, SW.cells, List.map_cons, List.map_nil]
  unfold Value.cells
  split
  ·rename_i cs h
   exact (isAggV_one (ρ := ρ) (ν := ν) c (by rw [h]; rfl)).elim
  ·rfl
theorem foldl_putAt {ρ : Env} {ν : Nat → Addr} (off : Nat) : ∀ (xs : List SC) (k : Nat) (cs : List SC),
  ((xs.map (·.den ρ ν)).zipIdx k).foldl (fun (acc : Array Value) (p : Value × Nat) => acc.setIfInBounds (off + p.2) p.1) (cs.map (·.den ρ ν)).toArray =
   ((putAt cs (off + k) xs).map (·.den ρ ν)).toArray
 | [], _, _ => rfl
 | c :: r, k, cs => by
  simp only [List.map_cons, List.zipIdx_cons, List.foldl_cons, putAt]
  have := foldl_putAt (ρ := ρ) (ν := ν) off r (k + 1) (cs.set (off + k) c)
  rw [Nat.add_assoc, ← this]
  congr 1
  simp [List.map_set]
theorem fillW_ok {ρ : Env} {ν : Nat → Addr} {place place' : Nat → Option (Nat × Nat)} (hp : ∀ i p, place i = some p → place' i = some p) :
  ∀ {parts : List (Nat × SW)} {cs cs' : List SC}, fillW place cs parts = some cs' →
   Instr.fill place' (cs.map (·.den ρ ν)).toArray (parts.map fun p => (p.1, p.2.den ρ ν)) = some (cs'.map (·.den ρ ν)).toArray
 | [], cs, cs', h => by simp [fillW] at h; subst h; rfl
 | (i, x) :: r, cs, cs', h => by
  unfold fillW at h
  split at h
  ·cases h
  ·rename_i off size hpl
   split at h
   ·rename_i hc
    simp only [Bool.and_eq_true, beq_iff_eq, decide_eq_true_eq] at hc
    have ih := fillW_ok (ρ := ρ) (ν := ν) hp h
    simp only [List.map_cons, Instr.fill, hp _ _ hpl, SW.cells_den]
    rw [if_neg]
    ·rw [← ih]
     congr 1
     have := foldl_putAt (ρ := ρ) (ν := ν) off x.cells 0 cs
     rw [Nat.add_zero] at this
     rw [← this]
     simp
    ·simp [hc.1]
     omega
   ·cases h
def allIn (T : Tab) : List (Nat × TypeId) → Bool
 | [] => true
 | (_, t) :: r => (T.ty t).isSome && allIn T r
def placeOf (T : Tab) (fs : List (Nat × TypeId)) (i : Nat) : Option (Nat × Nat) :=
 match fs[i]? with
 | some (off, t) => (T.ty t).map fun ti => (off, ti.size)
 | none => none
def wOf : List (Nat × Option SV) → Option (List (Nat × SW))
 | [] => some []
 | (i, some (.w x)) :: r => (wOf r).map ((i, x) :: ·)
 | _ => none
def buildW (T : Tab) (t : TypeId) (parts : List (Nat × SW)) : PR :=
 match T.ty t with
 | none => .no
 | some ti =>
  match ti.d with
  | .struct fs => if allIn T fs then match fillW (placeOf T fs) ti.zero parts with | some cs => .ok (.w (.agg cs)) [] | none => .no else .no
  | .arr _ e => match T.ty e with
   | some te => match fillW (fun i => some (i * te.size, te.size)) ti.zero parts with | some cs => .ok (.w (.agg cs)) [] | none => .no
   | none => .no
  | _ => .no
theorem places_ok {P : Program} {T : Tab} (hT : TabOK P T) : ∀ {fs : List Field}, allIn T (fs.map fun f => (f.offset, f.type)) = true →
  ∃ places, fs.mapM (fun f => (P.info? f.type).map fun i => (f.offset, i.size)) = some places ∧
   ∀ i p, placeOf T (fs.map fun f => (f.offset, f.type)) i = some p → places[i]? = some p
 | [], _ => ⟨[], rfl, fun i p h => by simp [placeOf] at h⟩
 | f :: fs, h => by
  simp only [List.map_cons, allIn, Bool.and_eq_true] at h
  obtain ⟨places, hp, hq⟩ := places_ok hT h.2
  obtain ⟨ti, hti⟩ := Option.isSome_iff_exists.1 h.1
  obtain ⟨i, z, hi, hs, _⟩ := (hT.ty hti).info
  refine ⟨(f.offset, i.size) :: places, by simp [List.mapM_cons, hi, hp], fun k p hk => ?_⟩
  cases k with
  | zero =>
   simp [placeOf, hti] at hk
   simp [← hk, hs]
  | succ k =>
   have := hq k p (by simpa [placeOf] using hk)
   simpa using this
theorem buildW_ok {P : Program} {T : Tab} (hT : TabOK P T) {ρ : Env} {ν : Nat → Addr} {w : World} {t : TypeId} {parts : List (Nat × SW)} {v : SV} {os : List BE}
  (h : buildW T t parts = .ok v os) : (Instr.build t (parts.map fun p => (p.1, p.2.den ρ ν)).toArray).run P w = .ok (v.den ρ ν) w := by
 unfold buildW at h
 split at h
 ·cases h
 rename_i ti hti
 have hok := hT.ty hti
 obtain ⟨d, hd, hc, _⟩ := hok.und
 obtain ⟨i, z, hi, hs, hz, hzc, hza, _⟩ := hok.info
 have hz2 := scsChk_ok (ρ := ρ) (ν := ν) hzc
 have hz3 : z.cells = (ti.zero.map (·.den ρ ν)).toArray := by rw [← hz2]
 split at h
 ·rename_i fs hfs
  rw [hfs] at hc
  cases d <;> simp [tdChk] at hc
  rename_i gs
  split at h
  ·rename_i hall
   rw [hc] at hall
   obtain ⟨places, hp, hq⟩ := places_ok hT hall
   split at h
   ·rename_i cs hfill
    simp only [PR.ok.injEq] at h
    obtain ⟨rfl, _⟩ := h
    refine run_build w t _ _ ?_
    simp only [Program.built, hi, hd, hz, hp]
    rw [hz3]
    refine fillW_ok (place := placeOf T fs) (fun k p hk => ?_) hfill
    rw [hc] at hk
    simpa using hq k p hk
   ·cases h
  ·cases h
 ·rename_i n e hfs
  rw [hfs] at hc
  cases d <;> simp [tdChk] at hc
  obtain ⟨rfl, rfl⟩ := hc
  split at h
  ·rename_i te hte
   obtain ⟨ie, ze, hie, hse, _⟩ := (hT.ty hte).info
   split at h
   ·rename_i cs hfill
    simp only [PR.ok.injEq] at h
    obtain ⟨rfl, _⟩ := h
    refine run_build w t _ _ ?_
    simp only [Program.built, hi, hd, hz, hie]
    rw [hz3, hse]
    exact fillW_ok (place := fun i => some (i * te.size, te.size)) (fun k p hk => hk) hfill
   ·cases h
  ·cases h
 ·cases h

end Go.Rex
