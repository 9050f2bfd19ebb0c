/- Rex, part S: a law's row, from its contract. -/
import Derived.Test.YthomdlajobnmnaaDoorRexR
set_option linter.unusedSimpArgs false
set_option linter.unusedVariables false
namespace Go.Rex
open Go.WideShapes Go.ChangeShapes Go.RowKit

theorem post_below {H : Type} {enc : TypeId × Value → H} {P : Program} {f : Func} {s : ChangeSpec} {apart fresh handsOn again : Bool} {W W' : World} {args : Array Value} {v : Value} {ds gs : List (DataW H)} {before pa pv : List MemPlace}
  (hW : DataW.Whole enc P f.params.toList s.vars apart W args.toList ds gs before)
  (hres : ∀ (b : Nat) (sp : Nat → Bool) (hd : Bool), DataW.TrodAll enc P W' b sp hd f.resultTypes.toList (v.resultList f.resultTypes.size) (s.fn H (ds ++ gs)).results [])
  (hargs : ∀ sp : Nat → Bool, (∀ p ∈ before, sp p.block = true) → DataW.TrodAll enc P W' 0 sp true f.params.toList args.toList (s.fn H (ds ++ gs)).args pa)
  (hvars : ∀ sp : Nat → Bool, (∀ p ∈ before, sp p.block = true) → DataW.TrodVars enc P W' sp s.vars (s.fn H (ds ++ gs)).vars pv)
  (hps : before = pa ++ pv) (hb : Below W.heap.size W W')
  (hok : ∀ (j : Nat) (t : TypeId) (r : Value), f.resultTypes[j]? = some t → (v.resultList f.resultTypes.size)[j]? = some r → Value.okWide P W' .any 0 t r) :
  s.post enc P f apart fresh handsOn again W args v W' := by
 have hlt : ∀ p ∈ before, p.block < W.heap.size := fun p hp => hW.lt p hp
 have hold : ∀ p ∈ before, (fun b => decide (b < W.heap.size)) p.block = true := fun p hp => by simpa using hlt p hp
 refine ⟨ds, gs, before, [], pa, pv, hW, hres _ _ _, hargs _ hold, hvars _ hold, World.keptBut_mono (fun p hp => ⟨hp, ?_⟩) (hb.frame (· ∈ before)), fun _ => ?_⟩
 ·rw [hps, List.mem_append] at hp
  exact Or.inr hp
 ·obtain ⟨_, _, _, _, _, hz, hn⟩ := hW
  refine ⟨hok, _, _, ([] ++ pa) ++ pv, ⟨[] ++ pa, pv, trodAll_append (hargs _ (fun _ _ => rfl)) (hres _ _ _), hvars _ (fun _ _ => rfl), rfl, ?_, ?_⟩, ?_⟩
  ·intro b off hp
   have hin : MemPlace.cell b off ∈ before := by rw [hps]; simpa using hp
   rw [hb.frozen (hlt _ hin)]
   exact hz b off hin
  ·intro ha
   have := hn ha
   rw [hps] at this
   simpa using this
  ·intro p hp _
   rw [hps]
   simpa using hp
def shapeOf (P : Program) (t : TypeId) : Option (Bool × List FK) :=
 match P.underlying t with
 | some d => (flat P 20 t).map fun l => (isAggDesc d, l)
 | none => none
def shapesOf (P : Program) : List TypeId → Option (List (Bool × List FK))
 | [] => some []
 | t :: r => oMap2 List.cons (shapeOf P t) (shapesOf P r)
def allRead (P : Program) : List TypeId → Bool
 | [] => true
 | t :: r => P.readableRec t && Nat.blt t P.types.size && allRead P r
section
variable {H : Type} {enc : TypeId × Value → H} {P : Program} {W : World}
theorem block_of_okCell {r : _root_.Go.Reach} {base : Nat} {u : TypeId} {a : Addr} {len cap : Nat} (h : Cell.okWide P W r base u (.slice (some a) len cap)) : a.block < W.heap.size := by
 unfold Cell.okWide at h
 have h' : Cell.ok P W r base u (.slice (some a) len cap) := by
  split at h <;> first | exact h | simp_all
 unfold Cell.ok at h'
 split at h' <;> try (exact h'.elim)
 all_goals rename_i he
 all_goals try (cases he; done)
 cases he
 obtain ⟨_, _, _, _, row, cells, hs, _⟩ := h'
 unfold World.shape? at hs
 split at hs
 ·rename_i c el fz hx
  exact (Array.getElem?_eq_some_iff.1 hx).1
 ·cases hs
theorem param_ok {base : Nat} {t : TypeId} {v : Value} {g : Bool} {l : List FK} {d : DataW H} {ps : List MemPlace} (hs : shapeOf P t = some (g, l)) (hok : Value.okWide P W .any base t v) (h : DataW.Trod enc P W 0 (fun _ => true) true t v d ps) :
  FitCs W v.cells.toList l ∧ v.cells.size = l.length ∧ (if g then v = .agg v.cells else v.cells = #[v]) ∧ ∀ (a : Addr) (len cap : Nat), Value.slice (some a) len cap ∈ v.cells.toList → a.block < W.heap.size := by
 unfold shapeOf at hs
 split at hs
 case h_2 => cases hs
 rename_i de hu
 simp only [Option.map_eq_some_iff, Prod.mk.injEq] at hs
 obtain ⟨l', hl, hg, rfl⟩ := hs
 obtain ⟨fuel, htr⟩ := h
 have hfit := (flat_ok (enc := enc) (P := P) (w := W) 20).1 t l' fuel _ _ hl htr
 have hsz : v.cells.size = l'.length := by rw [← Array.length_toList]; exact hfit.length
 refine ⟨hfit, hsz, ?_⟩
 unfold flat at hl
 rw [hu] at hl
 have one : ∀ v : Value, isAggV v = false → v.cells = #[v] := by
  intro v hv
  unfold Value.cells
  split
  ·cases hv
  ·rfl
 cases de <;> simp only at hl <;> try (cases hl; done)
 ·subst hg
  obtain ⟨b, rfl⟩ := okWide_bool hu hok
  exact ⟨rfl, fun a len cap hm => by simp [Value.cells] at hm⟩
 ·rename_i k
  subst hg
  obtain ⟨n, rfl⟩ := okWide_int hu hok
  exact ⟨rfl, fun a len cap hm => by simp [Value.cells] at hm⟩
 ·subst hg
  obtain ⟨a0, len0, cap0, rfl⟩ := okWide_slice hu hok
  refine ⟨rfl, fun a len cap hm => ?_⟩
  simp [Value.cells] at hm
  obtain ⟨rfl, rfl, rfl⟩ := hm
  simp only [Value.okWide, hu] at hok
  exact block_of_okCell hok
 ·subst hg
  simp only [Value.okWide, hu] at hok
  obtain ⟨cs, rfl, _, ts, _, _, hc⟩ := hok
  refine ⟨rfl, fun a len cap hm => ?_⟩
  obtain ⟨i, hi, he⟩ := List.getElem_of_mem hm
  have : cs[i]? = some (.slice (some a) len cap) := by
   rw [← Array.getElem?_toList]
   exact (List.getElem?_eq_getElem hi).trans (by rw [he])
  obtain ⟨u, _, hu2⟩ := hc i _ this
  exact block_of_okCell hu2
 ·subst hg
  simp only [Value.okWide, hu] at hok
  obtain ⟨cs, rfl, _, ts, _, _, hc⟩ := hok
  refine ⟨rfl, fun a len cap hm => ?_⟩
  obtain ⟨i, hi, he⟩ := List.getElem_of_mem hm
  have : cs[i]? = some (.slice (some a) len cap) := by
   rw [← Array.getElem?_toList]
   exact (List.getElem?_eq_getElem hi).trans (by rw [he])
  obtain ⟨u, _, hu2⟩ := hc i _ this
  exact block_of_okCell hu2
theorem params_ok {base : Nat} : ∀ {ts : List TypeId} {vs : List Value} {ds : List (DataW H)} {ps : List MemPlace} {sh : List (Bool × List FK)}, shapesOf P ts = some sh → DataW.TrodAll enc P W 0 (fun _ => true) true ts vs ds ps →
  (∀ (j : Nat) (t : TypeId) (v : Value), ts[j]? = some t → vs[j]? = some v → Value.okWide P W .any base t v) →
  FitCs W (vs.flatMap fun v => v.cells.toList) (sh.flatMap (·.2)) ∧ vs.length = sh.length ∧ ds.length = ts.length ∧
  (∀ (i : Nat) (v : Value) (g : Bool) (n : Nat), vs[i]? = some v → (sh.map fun s => (s.1, s.2.length))[i]? = some (g, n) → v.cells.size = n ∧ (if g then v = .agg v.cells else v.cells = #[v])) ∧
  ∀ (a : Addr) (len cap : Nat), Value.slice (some a) len cap ∈ (vs.flatMap fun v => v.cells.toList) → a.block < W.heap.size
 | [], [], [], ps, sh, hs, h, _ => by
  simp [shapesOf] at hs
  subst hs
  exact ⟨trivial, rfl, rfl, fun i v g n h => by simp at h, fun a len cap h => by simp at h⟩
 | t :: ts, v :: vs, d :: ds, ps, sh, hs, h, hok => by
  obtain ⟨⟨g, l⟩, sh', h1, h2, rfl⟩ := oMap2_some hs
  obtain ⟨p, q, h3, h4, rfl⟩ := h
  obtain ⟨q1, q2, q3, q4⟩ := param_ok h1 (hok 0 t v rfl rfl) h3
  obtain ⟨r1, r2, r3, r4, r5⟩ := params_ok h2 h4 (fun j t' v' hj hv => hok (j + 1) t' v' (by simpa using hj) (by simpa using hv))
  refine ⟨by simp only [List.flatMap_cons]; exact FitCs.append q1 r1, by simp [r2], by simp [r3], fun i v' g' n' hv hs' => ?_, fun a len cap hm => ?_⟩
  ·cases i with
   | zero =>
    simp at hv hs'
    obtain ⟨rfl, rfl⟩ := hs'
    subst hv
    exact ⟨q2, q3⟩
   | succ i => exact r4 i v' g' n' (by simpa using hv) (by simpa using hs')
  ·rw [List.flatMap_cons, List.mem_append] at hm
   rcases hm with hm | hm
   ·exact q4 a len cap hm
   ·exact r5 a len cap hm
 | [], _ :: _, _, _, _, _, h, _ => by cases ‹List (DataW H)› <;> exact h.elim
 | [], [], _ :: _, _, _, _, h, _ => h.elim
 | _ :: _, [], _, _, _, _, h, _ => by cases ‹List (DataW H)› <;> exact h.elim
 | _ :: _, _ :: _, [], _, _, _, h, _ => h.elim
theorem trodAll_stays {base : Nat} (laid : laidOutB P = true) {W' : World} {sp : Nat → Bool} : ∀ {ts : List TypeId} {vs : List Value} {ds : List (DataW H)} {ps : List MemPlace}, allRead P ts = true → DataW.TrodAll enc P W base (fun _ => true) true ts vs ds ps →
  (∀ p ∈ ps, W.sameAt W' p) → (∀ p ∈ ps, sp p.block = true) → DataW.TrodAll enc P W' base sp true ts vs ds ps
 | [], [], [], _, _, h, _, _ => h
 | t :: ts, v :: vs, d :: ds, ps, hr, h, hs, hp => by
  simp only [allRead, Bool.and_eq_true, Nat.blt_eq] at hr
  obtain ⟨p, q, h3, h4, rfl⟩ := h
  exact ⟨p, q, WideElems.Trod_stays laid hr.1.1 hr.1.2 h3 (fun x hx => hs x (List.mem_append_left _ hx)) (fun x hx => hp x (List.mem_append_left _ hx)),
    trodAll_stays laid hr.2 h4 (fun x hx => hs x (List.mem_append_right _ hx)) (fun x hx => hp x (List.mem_append_right _ hx)), rfl⟩
 | [], _ :: _, ds, _, _, h, _, _ => by cases ds <;> exact h.elim
 | [], [], _ :: _, _, _, h, _, _ => h.elim
 | _ :: _, [], ds, _, _, h, _, _ => by cases ds <;> exact h.elim
 | _ :: _, _ :: _, [], _, _, h, _, _ => h.elim
def lawCon (f : FuncId) (sh : List (Bool × List FK)) : Con :=
 let m := mkC (sh.flatMap (·.2)) 0 0
 { f := f, nv := m.2.2, args := argsOf (sh.map fun s => (s.1, s.2.length)) m.1, hp := m.2.1, nv' := m.2.2 + 1, ret := .w (.one (.bool (.var m.2.2))), hp' := m.2.1.map fun _ => goneSB }
def lawPre (sh : List (Bool × List FK)) (ρ : Env) : Prop := preC (sh.flatMap (·.2)) 0 ρ
def lawPost (sh : List (Bool × List FK)) (ρ : Env) : Prop := ρ.bv (mkC (sh.flatMap (·.2)) 0 0).2.2 = true
theorem law_goal (laid : laidOutB P = true) {f : FuncId} {fn : Func} {s : ChangeSpec} {apart fresh handsOn again : Bool} {sh : List (Bool × List FK)} {tb : TypeId} (hsh : shapesOf P fn.params.toList = some sh) (hread : allRead P fn.params.toList = true)
  (hvars : s.vars = []) (hres : fn.resultTypes = #[tb]) (hb : P.underlying tb = some .bool)
  (hspec : ∀ (H : Type) (ds : List (DataW H)), ds.length = fn.params.toList.length → (s.fn H ds).results = [.lit (.bool true)] ∧ (s.fn H ds).args = ds ∧ (s.fn H ds).vars = [])
  (hcon : ConOK P (lawCon f sh) (lawPre sh) (lawPost sh)) {base : Nat} {args : Array Value} {ds gs : List (DataW H)} {before : List MemPlace}
  (hval : ∀ (j : Nat) t v, fn.params[j]? = some t → args[j]? = some v → Value.okWide P W .any base t v)
  (hW : DataW.Whole enc P fn.params.toList s.vars apart W args.toList ds gs before) :
  Calls P f args W fun e W' => ∃ v, e = .returned v ∧ s.post enc P fn apart fresh handsOn again W args v W' := by
 have hW' := hW
 obtain ⟨p, q, hA, hV, rfl, hfz, hnd⟩ := hW
 rw [hvars] at hV
 obtain ⟨rfl, rfl⟩ := trodVars_none hV
 obtain ⟨h1, h2, h3, h4, h5⟩ := params_ok hsh hA (fun j t v hj hv => hval j t v (by simpa using hj) (by simpa using hv))
 obtain ⟨ρ, ν, -, hden, hblk, hpre⟩ := mkC_ok h1 h5 0 0 {} (fun _ => ⟨0, 0, none⟩)
 have hargs : ((lawCon f sh).args.map (·.den ρ ν)).toArray = args := by
  have := argsOf_den (vs := args.toList) (sh := sh.map fun s => (s.1, s.2.length)) (by simpa using h2) h4 hden
  show ((argsOf (sh.map fun s => (s.1, s.2.length)) (mkC (sh.flatMap (·.2)) 0 0).1).map (·.den ρ ν)).toArray = args
  rw [this]
 have hhp : HpOK ρ ν (lawCon f sh).hp W := by
  refine ⟨fun i j a b hi hj ga gb ra he => ?_, fun k sb hk hg hr => ?_, fun k sb hk hg hr => ?_⟩
  ·have := (hblk i a hi).1.1
   rw [ra] at this; cases this
  ·have := (hblk k sb hk).1.1
   rw [hr] at this; cases this
  ·have := (hblk k sb hk).2 hg
   rwa [Nat.zero_add] at this
 have hc := hcon.run ρ ν W hhp ⟨fun g k _ h => by simp [lawCon, assoc] at h, fun g g' k k' _ _ h => by simp [lawCon, assoc] at h⟩ (preC_num hpre)
 rw [hargs] at hc
 refine hc.mono fun e W' he => ?_
 obtain ⟨ρ', ν', -, rfl, -, hwrt, -, hpost⟩ := he
 have hbelow : Below W.heap.size W W' := by
  refine ⟨hwrt.os, hwrt.tape, hwrt.output, hwrt.size, fun k hk => hwrt.block k hk ?_⟩
  rintro ⟨j, sb, hj, ho, -, -⟩
  have := (hblk j sb hj).1.2
  rw [ho] at this; cases this
 have hret : (lawCon f sh).ret.den ρ' ν' = .bool true := by
  have : ρ'.bv (mkC (sh.flatMap (·.2)) 0 0).2.2 = true := hpost
  simp [lawCon, SV.den, SW.den, SC.den, BE.den, this]
 rw [hret]
 obtain ⟨s1, s2, s3⟩ := hspec H ds h3
 have hlt : ∀ x ∈ p, x.block < W.heap.size := fun x hx => hW'.lt x (List.mem_append_left _ hx)
 refine ⟨_, rfl, post_below (pa := p) (pv := []) hW' (fun b sp hd => ?_) (fun sp hsp => ?_) (fun sp _ => ?_) rfl hbelow ?_⟩
 ·rw [List.append_nil, s1, hres]
  exact trodAll_mk1 ⟨1, by simp [DataW.trod, hb, Value.cells]⟩
 ·rw [List.append_nil, s2]
  exact trodAll_stays laid hread hA (fun x hx => hbelow.same (hlt x hx)) (fun x hx => hsp x (List.mem_append_left _ hx))
 ·rw [List.append_nil, s3, hvars]
  rfl
 ·exact ok_one hres rfl (okWide_bool_mk hb true)
end
end Go.Rex
