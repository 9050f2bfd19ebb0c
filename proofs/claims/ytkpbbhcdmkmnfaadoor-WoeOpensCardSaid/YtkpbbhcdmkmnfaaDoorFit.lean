/- arguments that are whole numbers and slices of these, new memory at most, sentinels: for rows out of walks over calls -/
import Derived.ProofKit
import Derived.Deep.Slices
import Derived.OpenShut
import Derived.LaidLaws
import Derived.Stop.LaidErr
import Derived.Below
set_option linter.unusedSimpArgs false
set_option linter.unusedVariables false
namespace Go.Rex
open Go.WideShapes Go.ChangeShapes Go.RowKit
inductive Kd where
  | int (k : IntKind) | bool | val
  deriving Inhabited
def isAggV : Value → Bool
  | .agg _ => true
  | _ => false
def oMap2 {α β γ : Type} (f : α → β → γ) : Option α → Option β → Option γ
  | some a, some b => some (f a b)
  | _, _ => none
theorem oMap2_some {α β γ : Type} {f : α → β → γ} {x : Option α} {y : Option β} {z : γ} (h : oMap2 f x y = some z) : ∃ a b, x = some a ∧ y = some b ∧ z = f a b := by
  cases x <;> cases y <;> simp [oMap2] at h
  exact ⟨_, _, rfl, rfl, h.symm⟩
def isAggDesc : TypeDesc → Bool
  | .struct _ | .array _ _ => true
  | _ => false
structure Wrt (w0 : World) (W : Nat → Prop) (w : World) : Prop where
  os : w.os = w0.os
  tape : w.tape = w0.tape
  output : w.output = w0.output
  size : w0.heap.size ≤ w.heap.size
  block : ∀ k, k < w0.heap.size → ¬ W k → w.heap[k]? = w0.heap[k]?
theorem Wrt.refl (w : World) (W : Nat → Prop) : Wrt w W w := ⟨rfl, rfl, rfl, Nat.le_refl _, fun _ _ _ => rfl⟩
theorem Wrt.step {w0 w w' : World} {W : Nat → Prop} (h : Wrt w0 W w) (h1 : w'.os = w.os) (h2 : w'.tape = w.tape) (h3 : w'.output = w.output) (h4 : w.heap.size ≤ w'.heap.size)
    (h5 : ∀ k, k < w0.heap.size → ¬ W k → w'.heap[k]? = w.heap[k]?) : Wrt w0 W w' :=
  ⟨h1.trans h.os, h2.trans h.tape, h3.trans h.output, Nat.le_trans h.size h4, fun k hk hn => (h5 k hk hn).trans (h.block k hk hn)⟩
theorem Wrt.alloc {w0 w : World} {W : Nat → Prop} (h : Wrt w0 W w) (o : Obj) : Wrt w0 W (w.alloc o) :=
  h.step rfl rfl rfl (by simp) fun k hk _ => Below.heap_alloc w _ k (Nat.lt_of_lt_of_le hk h.size)
theorem Wrt.set {w0 w : World} {W : Nat → Prop} (h : Wrt w0 W w) {a : Addr} {v : Value} (ha : w0.heap.size ≤ a.block) : Wrt w0 W (w.setCell a v) := by
  refine h.step rfl rfl rfl (by simp [World.setCell]) fun k hk _ => ?_
  simp only [World.setCell]
  rw [Array.getElem?_modify]
  rw [if_neg (by omega)]
inductive FK where
  | int (k : IntKind) | bool | sl (e : TypeId) (ks : List Kd)
  deriving Inhabited
def kdsOf : List FK → Option (List Kd)
  | [] => some []
  | .int k :: r => (kdsOf r).map (.int k :: ·)
  | .bool :: r => (kdsOf r).map (.bool :: ·)
  | .sl _ _ :: _ => none
mutual
/-- the cells of a type -/
def flat (P : Program) : Nat → TypeId → Option (List FK)
  | 0, _ => none
  | n + 1, t =>
    match P.underlying t with
    | some (.int k) => some [.int k]
    | some .bool => some [.bool]
    | some (.slice e) =>
      match flat P n e with
      | some l => match kdsOf l with
        | some ks => if P.cellsOf e == l.length then some [.sl e ks] else none
        | none => none
      | none => none
    | some (.struct fs) => match flatFs P n fs.toList 0 with | some l => if P.cellsOf t == l.length then some l else none | none => none
    | some (.array m e) => match flat P n e with | some l => if P.cellsOf e == l.length && P.cellsOf t == m * l.length then some ((List.replicate m l).flatten) else none | none => none
    | _ => none
def flatFs (P : Program) : Nat → List Field → Nat → Option (List FK)
  | 0, _, _ => none
  | _, [], _ => some []
  | n + 1, f :: r, off =>
    match flat P n f.type with
    | some l => if f.offset == off && P.cellsOf f.type == l.length then (flatFs P n r (off + l.length)).map (l ++ ·) else none
    | none => none
end
/-- one cell is of a kind -/
def FitKd (v : Value) : Kd → Prop
  | .int k => ∃ n, v = .int k n ∧ k.min ≤ n ∧ n ≤ k.max
  | .bool => ∃ b, v = .bool b
  | .val => False
def FitC (w : World) (v : Value) : FK → Prop
  | .int k => ∃ n, v = .int k n ∧ k.min ≤ n ∧ n ≤ k.max
  | .bool => ∃ b, v = .bool b
  | .sl _ ks => v = .slice none 0 0 ∨ ∃ (a : Addr) (len cap : Nat), v = .slice (some a) len cap ∧ len ≤ cap ∧ cap ≤ maxLen ∧ ∀ i j k, i < len → ks[j]? = some k → ∃ u, w.cell? (a.add (i * ks.length + j)) = some u ∧ FitKd u k
def FitCs (w : World) : List Value → List FK → Prop
  | [], [] => True
  | c :: r, k :: s => FitC w c k ∧ FitCs w r s
  | _, _ => False
theorem FitCs.append {w : World} : ∀ {a b : List Value} {l m : List FK}, FitCs w a l → FitCs w b m → FitCs w (a ++ b) (l ++ m)
  | [], _, [], _, _, h => h
  | _ :: _, _, _ :: _, _, h, h' => ⟨h.1, FitCs.append h.2 h'⟩
  | [], _, _ :: _, _, h, _ => h.elim
  | _ :: _, _, [], _, h, _ => h.elim
theorem FitCs.length {w : World} : ∀ {a : List Value} {l : List FK}, FitCs w a l → a.length = l.length
  | [], [], _ => rfl
  | _ :: _, _ :: _, h => by simp [FitCs.length h.2]
  | [], _ :: _, h => h.elim
  | _ :: _, [], h => h.elim
theorem kdsOf_ok {w : World} : ∀ {cs : List Value} {l : List FK} {ks : List Kd}, kdsOf l = some ks → FitCs w cs l → ks.length = l.length ∧ ∀ (j : Nat) (k : Kd), ks[j]? = some k → ∃ u, cs[j]? = some u ∧ FitKd u k
  | [], [], ks, h, _ => by simp [kdsOf] at h; subst h; exact ⟨rfl, fun j k h => by simp at h⟩
  | [], _ :: _, _, _, h => h.elim
  | _ :: _, [], _, _, h => h.elim
  | c :: r, .int k0 :: s, ks, h, hf => by
    simp only [kdsOf, Option.map_eq_some_iff] at h
    obtain ⟨q, hq, rfl⟩ := h
    obtain ⟨h1, h2⟩ := kdsOf_ok hq hf.2
    refine ⟨by simp [h1], fun j k hj => ?_⟩
    cases j with
    | zero => simp at hj; subst hj; exact ⟨c, rfl, hf.1⟩
    | succ j => simpa using h2 j k (by simpa using hj)
  | c :: r, .bool :: s, ks, h, hf => by
    simp only [kdsOf, Option.map_eq_some_iff] at h
    obtain ⟨q, hq, rfl⟩ := h
    obtain ⟨h1, h2⟩ := kdsOf_ok hq hf.2
    refine ⟨by simp [h1], fun j k hj => ?_⟩
    cases j with
    | zero => simp at hj; subst hj; exact ⟨c, rfl, hf.1⟩
    | succ j => simpa using h2 j k (by simpa using hj)
  | c :: r, .sl _ _ :: s, ks, h, hf => by simp [kdsOf] at h
section
variable {H : Type} {enc : TypeId × Value → H} {P : Program} {w : World} {base : Nat} {spare : Nat → Bool} {held : Bool}
theorem flat_ok : ∀ (n : Nat), (∀ (t : TypeId) (l : List FK) (fuel : Nat) (cs : List Value) (x : DataW H × List MemPlace), flat P n t = some l → DataW.trod enc P w base spare held fuel t cs = some x → FitCs w cs l) ∧
    (∀ (fs : List Field) (off : Nat) (l : List FK) (cs : List Value), flatFs P n fs off = some l → cs.length = off + l.length →
      (∀ f ∈ fs, ∃ (fuel : Nat) (x : DataW H × List MemPlace), DataW.trod enc P w base spare held fuel f.type ((cs.drop f.offset).take (P.cellsOf f.type)) = some x) → FitCs w (cs.drop off) l) := by
  intro n
  induction n with
  | zero => exact ⟨fun t l fuel cs x h => by simp [flat] at h, fun fs off l cs h => by simp [flatFs] at h⟩
  | succ n ih =>
    refine ⟨fun t l fuel cs x h ht => ?_, fun fs off l cs h hl hfs => ?_⟩
    · unfold flat at h
      split at h
      · rename_i k hu
        simp at h
        subst h
        cases fuel with
        | zero => simp [DataW.trod] at ht
        | succ fuel =>
          unfold DataW.trod at ht
          rw [hu] at ht
          split at ht <;> try cases ht
          all_goals rename_i he
          all_goals try (simp at he; done)
          split at ht
          · rename_i hc
            simp at he
            subst he
            obtain ⟨rfl, hwf⟩ := hc
            simp only [Lit.wf, Bool.and_eq_true, decide_eq_true_eq] at hwf
            exact ⟨⟨_, rfl, hwf.1, hwf.2⟩, trivial⟩
          · cases ht
      · rename_i hu
        simp at h
        subst h
        cases fuel with
        | zero => simp [DataW.trod] at ht
        | succ fuel =>
          unfold DataW.trod at ht
          rw [hu] at ht
          split at ht <;> try cases ht
          all_goals rename_i he
          all_goals try (simp at he; done)
          exact ⟨⟨_, rfl⟩, trivial⟩
      · rename_i e hu
        split at h
        case h_2 => cases h
        rename_i le hle
        split at h
        case h_2 => cases h
        rename_i ks hks
        split at h
        case isFalse => cases h
        rename_i hc
        simp only [beq_iff_eq] at hc
        simp at h
        subst h
        rcases Go.Deep.open_slice hu ht with ⟨rfl, -⟩ | ⟨a, len, cap, m, fl, D, Pl, rfl, hb, hlc, hcm, hm, -, hi⟩
        · exact ⟨.inl rfl, trivial⟩
        · refine ⟨.inr ⟨a, len, cap, rfl, hlc, hcm, fun i j k hil hj => ?_⟩, trivial⟩
          have him : i < m := by
            rw [hm]
            split
            · omega
            · exact hil
          obtain ⟨cs', hcs, htr⟩ := hi i him
          obtain ⟨_, hcl, hat⟩ := World.cells?_some hcs
          have hfit := ih.1 e le fl cs' _ hle htr
          obtain ⟨h1, h2⟩ := kdsOf_ok hks hfit
          obtain ⟨u, hu1, hu2⟩ := h2 j k hj
          have hjl : j < P.cellsOf e := by
            have := (List.getElem?_eq_some_iff.1 hj).1
            omega
          refine ⟨u, ?_, hu2⟩
          have := hat j hjl
          rw [hu1, hc, ← h1, Go.Deep.add_add] at this
          exact this
      · rename_i fs hu
        split at h
        case h_2 => cases h
        rename_i l' hl'
        split at h
        case isFalse => cases h
        rename_i hc
        simp only [beq_iff_eq] at hc
        simp at h
        subst h
        obtain ⟨xs, m, -, -, hlen, hxl, hf⟩ := DataW.trod_struct hu ht
        have := ih.2 fs.toList 0 l' cs hl' (by omega) (fun f hm => by
          obtain ⟨i, hi, he⟩ := List.getElem_of_mem hm
          have hfi : fs[i]? = some f := by
            rw [← Array.getElem?_toList, List.getElem?_eq_getElem hi, he]
          have hil : i < xs.length := by rw [hxl]; simpa using hi
          exact ⟨m, xs[i], by rw [hf i f hfi, List.getElem?_eq_getElem hil]⟩)
        simpa using this
      · rename_i m e hu
        split at h
        case h_2 => cases h
        rename_i le hle
        split at h
        case isFalse => cases h
        rename_i hc
        simp only [Bool.and_eq_true, beq_iff_eq] at hc
        simp at h
        subst h
        obtain ⟨xs, fl, -, -, hlen, hxl, hf⟩ := DataW.trod_array hu ht
        have key : ∀ q, q ≤ m → FitCs w (cs.drop ((m - q) * le.length)) ((List.replicate q le).flatten) := by
          intro q
          induction q with
          | zero =>
            intro _
            have : cs.drop ((m - 0) * le.length) = [] := by
              apply List.drop_eq_nil_of_le
              rw [Nat.sub_zero]
              omega
            rw [this]
            trivial
          | succ q ihq =>
            intro hq
            have h1 := ihq (by omega)
            have hi : m - (q + 1) < m := by omega
            have h2 := hf (m - (q + 1)) hi
            have hil : m - (q + 1) < xs.length := by rw [hxl]; exact hi
            rw [List.getElem?_eq_getElem hil, hc.1] at h2
            have h3 := ih.1 e le fl _ _ hle h2
            have e1 : cs.drop ((m - (q + 1)) * le.length) = (cs.drop ((m - (q + 1)) * le.length)).take le.length ++ cs.drop ((m - q) * le.length) := by
              have : (m - q) * le.length = (m - (q + 1)) * le.length + le.length := by rw [show m - q = (m - (q + 1)) + 1 by omega, Nat.add_mul]; omega
              rw [this, ← List.drop_drop, List.take_append_drop]
            rw [e1, List.replicate_succ, List.flatten_cons]
            exact FitCs.append h3 h1
        have := key m (Nat.le_refl m)
        simpa using this
      · cases h
    · cases fs with
      | nil =>
        simp [flatFs] at h
        subst h
        have : cs.drop off = [] := List.drop_eq_nil_of_le (by simp at hl; omega)
        rw [this]
        trivial
      | cons f r =>
        simp only [flatFs] at h
        split at h
        case h_2 => cases h
        rename_i l0 hl0
        split at h
        case isFalse => cases h
        rename_i hc
        simp only [Bool.and_eq_true, beq_iff_eq] at hc
        simp only [Option.map_eq_some_iff] at h
        obtain ⟨l1, hl1, rfl⟩ := h
        obtain ⟨fuel, x, htr⟩ := hfs f (List.mem_cons_self ..)
        have h1 := ih.1 f.type l0 fuel _ x hl0 htr
        have h2 := ih.2 r (off + l0.length) l1 cs hl1 (by simp at hl; omega) (fun g hg => hfs g (List.mem_cons_of_mem _ hg))
        rw [hc.1, hc.2] at h1
        have e1 : cs.drop off = (cs.drop off).take l0.length ++ cs.drop (off + l0.length) := by
          rw [← List.drop_drop, List.take_append_drop]
        rw [e1]
        exact FitCs.append h1 h2
end
def intOfV : Value → Int
  | .int _ n => n
  | _ => 0
/-- where only new blocks have come: below the old heap's end nothing has turned -/
theorem post_below {H : Type} {enc : TypeId × Value → H} {P : Program} {f : Func} {s : ChangeSpec} {apart fresh handsOn again : Bool} {W W' : World} {args : Array Value} {v : Value} {ds gs : List (DataW H)} {before pa pv : List MemPlace}
    (hW : DataW.Whole enc P f.params.toList s.vars apart W args.toList ds gs before)
    (hres : ∀ (b : Nat) (sp : Nat → Bool) (hd : Bool), DataW.TrodAll enc P W' b sp hd f.resultTypes.toList (v.resultList f.resultTypes.size) (s.fn H (ds ++ gs)).results [])
    (hargs : ∀ sp : Nat → Bool, (∀ p ∈ before, sp p.block = true) → DataW.TrodAll enc P W' 0 sp true f.params.toList args.toList (s.fn H (ds ++ gs)).args pa)
    (hvars : ∀ sp : Nat → Bool, (∀ p ∈ before, sp p.block = true) → DataW.TrodVars enc P W' sp s.vars (s.fn H (ds ++ gs)).vars pv)
    (hps : before = pa ++ pv) (hb : Below W.heap.size W W')
    (hok : ∀ (j : Nat) (t : TypeId) (r : Value), f.resultTypes[j]? = some t → (v.resultList f.resultTypes.size)[j]? = some r → Value.okWide P W' .any 0 t r) :
    s.post enc P f apart fresh handsOn again W args v W' := by
  have hlt : ∀ p ∈ before, p.block < W.heap.size := fun p hp => hW.lt p hp
  have hold : ∀ p ∈ before, (fun b => decide (b < W.heap.size)) p.block = true := fun p hp => by simpa using hlt p hp
  refine ⟨ds, gs, before, [], pa, pv, hW, hres _ _ _, hargs _ hold, hvars _ hold, World.keptBut_mono (fun p hp => ⟨hp, ?_⟩) (hb.frame (· ∈ before)), fun _ => ?_⟩
  · rw [hps, List.mem_append] at hp
    exact Or.inr hp
  · obtain ⟨_, _, _, _, _, hz, hn⟩ := hW
    refine ⟨hok, _, _, ([] ++ pa) ++ pv, ⟨[] ++ pa, pv, trodAll_append (hargs _ (fun _ _ => rfl)) (hres _ _ _), hvars _ (fun _ _ => rfl), rfl, ?_, ?_⟩, ?_⟩
    · intro b off hp
      have hin : MemPlace.cell b off ∈ before := by rw [hps]; simpa using hp
      rw [hb.frozen (hlt _ hin)]
      exact hz b off hin
    · intro ha
      have := hn ha
      rw [hps] at this
      simpa using this
    · intro p hp _
      rw [hps]
      simpa using hp
def shapeOf (P : Program) (t : TypeId) : Option (Bool × List FK) :=
  match P.underlying t with
  | some d => (flat P 20 t).map fun l => (isAggDesc d, l)
  | none => none
def shapesOf (P : Program) : List TypeId → Option (List (Bool × List FK))
  | [] => some []
  | t :: r => oMap2 List.cons (shapeOf P t) (shapesOf P r)
def allRead (P : Program) : List TypeId → Bool
  | [] => true
  | t :: r => P.readableRec t && Nat.blt t P.types.size && allRead P r
section
variable {H : Type} {enc : TypeId × Value → H} {P : Program} {W : World}
theorem block_of_okCell {r : _root_.Go.Reach} {base : Nat} {u : TypeId} {a : Addr} {len cap : Nat} (h : Cell.okWide P W r base u (.slice (some a) len cap)) : a.block < W.heap.size := by
  unfold Cell.okWide at h
  have h' : Cell.ok P W r base u (.slice (some a) len cap) := by
    split at h <;> first | exact h | simp_all
  unfold Cell.ok at h'
  split at h' <;> try (exact h'.elim)
  all_goals rename_i he
  all_goals try (cases he; done)
  cases he
  obtain ⟨_, _, _, _, row, cells, hs, _⟩ := h'
  unfold World.shape? at hs
  split at hs
  · rename_i c el fz hx
    exact (Array.getElem?_eq_some_iff.1 hx).1
  · cases hs
theorem param_ok {base : Nat} {t : TypeId} {v : Value} {g : Bool} {l : List FK} {d : DataW H} {ps : List MemPlace} (hs : shapeOf P t = some (g, l)) (hok : Value.okWide P W .any base t v) (h : DataW.Trod enc P W 0 (fun _ => true) true t v d ps) :
    FitCs W v.cells.toList l ∧ v.cells.size = l.length ∧ (if g then v = .agg v.cells else v.cells = #[v]) ∧ ∀ (a : Addr) (len cap : Nat), Value.slice (some a) len cap ∈ v.cells.toList → a.block < W.heap.size := by
  unfold shapeOf at hs
  split at hs
  case h_2 => cases hs
  rename_i de hu
  simp only [Option.map_eq_some_iff, Prod.mk.injEq] at hs
  obtain ⟨l', hl, hg, rfl⟩ := hs
  obtain ⟨fuel, htr⟩ := h
  have hfit := (flat_ok (enc := enc) (P := P) (w := W) 20).1 t l' fuel _ _ hl htr
  have hsz : v.cells.size = l'.length := by rw [← Array.length_toList]; exact hfit.length
  refine ⟨hfit, hsz, ?_⟩
  unfold flat at hl
  rw [hu] at hl
  have one : ∀ v : Value, isAggV v = false → v.cells = #[v] := by
    intro v hv
    unfold Value.cells
    split
    · cases hv
    · rfl
  cases de <;> simp only at hl <;> try (cases hl; done)
  · subst hg
    obtain ⟨b, rfl⟩ := okWide_bool hu hok
    exact ⟨rfl, fun a len cap hm => by simp [Value.cells] at hm⟩
  · rename_i k
    subst hg
    obtain ⟨n, rfl⟩ := okWide_int hu hok
    exact ⟨rfl, fun a len cap hm => by simp [Value.cells] at hm⟩
  · subst hg
    obtain ⟨a0, len0, cap0, rfl⟩ := okWide_slice hu hok
    refine ⟨rfl, fun a len cap hm => ?_⟩
    simp [Value.cells] at hm
    obtain ⟨rfl, rfl, rfl⟩ := hm
    simp only [Value.okWide, hu] at hok
    exact block_of_okCell hok
  · subst hg
    simp only [Value.okWide, hu] at hok
    obtain ⟨cs, rfl, _, ts, _, _, hc⟩ := hok
    refine ⟨rfl, fun a len cap hm => ?_⟩
    obtain ⟨i, hi, he⟩ := List.getElem_of_mem hm
    have : cs[i]? = some (.slice (some a) len cap) := by
      rw [← Array.getElem?_toList]
      exact (List.getElem?_eq_getElem hi).trans (by rw [he])
    obtain ⟨u, _, hu2⟩ := hc i _ this
    exact block_of_okCell hu2
  · subst hg
    simp only [Value.okWide, hu] at hok
    obtain ⟨cs, rfl, _, ts, _, _, hc⟩ := hok
    refine ⟨rfl, fun a len cap hm => ?_⟩
    obtain ⟨i, hi, he⟩ := List.getElem_of_mem hm
    have : cs[i]? = some (.slice (some a) len cap) := by
      rw [← Array.getElem?_toList]
      exact (List.getElem?_eq_getElem hi).trans (by rw [he])
    obtain ⟨u, _, hu2⟩ := hc i _ this
    exact block_of_okCell hu2
theorem params_ok {base : Nat} : ∀ {ts : List TypeId} {vs : List Value} {ds : List (DataW H)} {ps : List MemPlace} {sh : List (Bool × List FK)}, shapesOf P ts = some sh → DataW.TrodAll enc P W 0 (fun _ => true) true ts vs ds ps →
    (∀ (j : Nat) (t : TypeId) (v : Value), ts[j]? = some t → vs[j]? = some v → Value.okWide P W .any base t v) →
    FitCs W (vs.flatMap fun v => v.cells.toList) (sh.flatMap (·.2)) ∧ vs.length = sh.length ∧ ds.length = ts.length ∧
    (∀ (i : Nat) (v : Value) (g : Bool) (n : Nat), vs[i]? = some v → (sh.map fun s => (s.1, s.2.length))[i]? = some (g, n) → v.cells.size = n ∧ (if g then v = .agg v.cells else v.cells = #[v])) ∧
    ∀ (a : Addr) (len cap : Nat), Value.slice (some a) len cap ∈ (vs.flatMap fun v => v.cells.toList) → a.block < W.heap.size
  | [], [], [], ps, sh, hs, h, _ => by
    simp [shapesOf] at hs
    subst hs
    exact ⟨trivial, rfl, rfl, fun i v g n h => by simp at h, fun a len cap h => by simp at h⟩
  | t :: ts, v :: vs, d :: ds, ps, sh, hs, h, hok => by
    obtain ⟨⟨g, l⟩, sh', h1, h2, rfl⟩ := oMap2_some hs
    obtain ⟨p, q, h3, h4, rfl⟩ := h
    obtain ⟨q1, q2, q3, q4⟩ := param_ok h1 (hok 0 t v rfl rfl) h3
    obtain ⟨r1, r2, r3, r4, r5⟩ := params_ok h2 h4 (fun j t' v' hj hv => hok (j + 1) t' v' (by simpa using hj) (by simpa using hv))
    refine ⟨by simp only [List.flatMap_cons]; exact FitCs.append q1 r1, by simp [r2], by simp [r3], fun i v' g' n' hv hs' => ?_, fun a len cap hm => ?_⟩
    · cases i with
      | zero =>
        simp at hv hs'
        obtain ⟨rfl, rfl⟩ := hs'
        subst hv
        exact ⟨q2, q3⟩
      | succ i => exact r4 i v' g' n' (by simpa using hv) (by simpa using hs')
    · rw [List.flatMap_cons, List.mem_append] at hm
      rcases hm with hm | hm
      · exact q4 a len cap hm
      · exact r5 a len cap hm
  | [], _ :: _, _, _, _, _, h, _ => by cases ‹List (DataW H)› <;> exact h.elim
  | [], [], _ :: _, _, _, _, h, _ => h.elim
  | _ :: _, [], _, _, _, _, h, _ => by cases ‹List (DataW H)› <;> exact h.elim
  | _ :: _, _ :: _, [], _, _, _, h, _ => h.elim
theorem trodAll_stays {base : Nat} (laid : laidOutB P = true) {W' : World} {sp : Nat → Bool} : ∀ {ts : List TypeId} {vs : List Value} {ds : List (DataW H)} {ps : List MemPlace}, allRead P ts = true → DataW.TrodAll enc P W base (fun _ => true) true ts vs ds ps →
    (∀ p ∈ ps, W.sameAt W' p) → (∀ p ∈ ps, sp p.block = true) → DataW.TrodAll enc P W' base sp true ts vs ds ps
  | [], [], [], _, _, h, _, _ => h
  | t :: ts, v :: vs, d :: ds, ps, hr, h, hs, hp => by
    simp only [allRead, Bool.and_eq_true, Nat.blt_eq] at hr
    obtain ⟨p, q, h3, h4, rfl⟩ := h
    exact ⟨p, q, WideElems.Trod_stays laid hr.1.1 hr.1.2 h3 (fun x hx => hs x (List.mem_append_left _ hx)) (fun x hx => hp x (List.mem_append_left _ hx)),
      trodAll_stays laid hr.2 h4 (fun x hx => hs x (List.mem_append_right _ hx)) (fun x hx => hp x (List.mem_append_right _ hx)), rfl⟩
  | [], _ :: _, ds, _, _, h, _, _ => by cases ds <;> exact h.elim
  | [], [], _ :: _, _, _, h, _, _ => h.elim
  | _ :: _, [], ds, _, _, h, _, _ => by cases ds <;> exact h.elim
  | _ :: _, _ :: _, [], _, _, h, _, _ => h.elim
end
def SentOK (W : World) : List (Nat × TypeId × TypeId) → List Addr → Prop
  | [], [] => True
  | (g, tp, _) :: r, a :: as => W.cell? ⟨g, 0, none⟩ = some (.iface tp (.pointer (some a))) ∧ (∃ v, W.cell? a = some v) ∧ SentOK W r as
  | _, _ => False
theorem cell_lt {W : World} {a : Addr} {v : Value} (h : W.cell? a = some v) : a.block < W.heap.size := by
  unfold World.cell? at h
  split at h
  · rename_i hx
    exact (Array.getElem?_eq_some_iff.1 hx).1
  all_goals cases h
/-- the listed ones: name, number, text -/
abbrev Sents := List (String × Nat × List UInt8)
def Sents.laid (nm : String) (sl : Sents) : List (String × DataW Unit) := sl.map fun x => (x.1, .iface nm (.ptr (.agg [.lit (.string x.2.2)])))
def Sents.ss (tp te : TypeId) (sl : Sents) : List (Nat × TypeId × TypeId) := sl.map fun x => (x.2.1, tp, te)
def Sents.chk (P : Program) (ti : TypeId) (sl : Sents) : Bool := sl.all fun x => (P.globalNamed x.1 == some x.2.1) && ((P.globals[x.2.1]?).map (·.type) == some ti)
section
variable {P : Program} {W : World} {ti tp te ts : TypeId} {nm : String} {ms : Array (String × TypeId)} {f : Field}
theorem sents_of_vars (hi : P.underlying ti = some (.interface ms)) (hrow : ∀ u, P.typeName? 3 u = some nm → u = tp)
    (hp : P.underlying tp = some (.pointer te)) (he : P.underlying te = some (.struct #[f])) (hft : f.type = ts) (hfo : f.offset = 0) (hs : P.underlying ts = some .string) (hc : P.cellsOf te = 1) (hcs : P.cellsOf ts = 1) :
    ∀ {sl : Sents} {ps : List MemPlace}, DataW.LaidVars P W (sl.laid nm) ps → sl.chk P ti = true →
      (∀ b off, MemPlace.cell b off ∈ ps → ∀ u v, W.cell? ⟨b, off, none⟩ = some (.iface u v) → Value.okWide P W .any 0 u v) →
      ∃ as : List Addr, SentOK W (sl.ss tp te) as ∧ (∀ a ∈ as, MemPlace.cell a.block a.off ∈ ps) ∧ (ps.Nodup → as.Nodup)
  | [], _, _, _, _ => ⟨[], trivial, fun a h => (List.not_mem_nil h).elim, fun _ => List.nodup_nil⟩
  | (n, g, text) :: r, ps, h, hk, hok => by
    obtain ⟨g0, t0, cs, fuel, p, q, hg0, ht0, hv, hd, hr, rfl⟩ := h
    simp only [Sents.chk, List.all_cons, Bool.and_eq_true, beq_iff_eq] at hk
    obtain ⟨⟨hg, ht⟩, hk'⟩ := hk
    obtain rfl := Option.some.inj (hg.symm.trans hg0)
    obtain rfl := Option.some.inj (ht.symm.trans ht0)
    obtain ⟨l⟩ := cs
    have hok1 : ∀ u v, l = [.iface u v] → Value.okWide P W .any 0 u v := fun u v e => by
      subst e
      exact hok g 0 (by simp [MemPlace.row]) u v (by simpa using World.var?_cell hg0 hv 0)
    obtain ⟨a, s, rfl, hca, hs1, hz, rfl⟩ := errorString_of_trod hi hrow hp he hft hfo hs hc hcs hd hok1
    obtain ⟨as, h1, h2, h3⟩ := sents_of_vars hi hrow hp he hft hfo hs hc hcs hr (by simpa [Sents.chk] using hk') fun b off hm => hok b off (List.mem_append_right _ hm)
    refine ⟨a :: as, ⟨by simpa using World.var?_cell hg hv 0, ⟨_, hca⟩, h1⟩, ?_, ?_⟩
    · intro x hx
      rcases List.mem_cons.1 hx with rfl | hx
      · simp [MemPlace.row]
      · exact List.mem_append_right _ (h2 x hx)
    · intro hn
      have hn2 := (List.nodup_append.1 hn)
      refine List.nodup_cons.2 ⟨fun hm => ?_, h3 hn2.2.1⟩
      exact hn2.2.2 (MemPlace.cell a.block a.off) (by simp [MemPlace.row]) (MemPlace.cell a.block a.off) (h2 a hm) rfl
theorem sents_of_laid (hi : P.underlying ti = some (.interface ms)) (hrow : ∀ u, P.typeName? 3 u = some nm → u = tp)
    (hp : P.underlying tp = some (.pointer te)) (he : P.underlying te = some (.struct #[f])) (hft : f.type = ts) (hfo : f.offset = 0) (hs : P.underlying ts = some .string) (hc : P.cellsOf te = 1) (hcs : P.cellsOf ts = 1)
    {sl : Sents} (hk : sl.chk P ti = true) (h : laidMet P (sl.laid nm) W) :
    ∃ as : List Addr, SentOK W (sl.ss tp te) as ∧ as.Nodup ∧ ∀ a ∈ as, ∃ c t, W.heap[a.block]? = some (.cells c t (0, 0)) := by
  obtain ⟨ps, hv, hnd, hrows⟩ := h
  obtain ⟨as, h1, h2, h3⟩ := sents_of_vars hi hrow hp he hft hfo hs hc hcs hv hk fun b off hm => (hrows b off hm).2
  exact ⟨as, h1, h3 hnd, fun a ha => (hrows _ _ (h2 a ha)).1⟩
end
end Go.Rex
