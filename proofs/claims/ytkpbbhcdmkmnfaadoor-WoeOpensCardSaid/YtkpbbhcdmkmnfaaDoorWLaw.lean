/- from a walk over calls to a law's row -/
import Derived.Test.YtkpbbhcdmkmnfaaDoorWAwake
set_option linter.unusedSimpArgs false
set_option linter.unusedVariables false
namespace Go.Rex
open Go.WideShapes Go.ChangeShapes Go.RowKit
theorem flat_of {vs : List Value} : ∀ {l : List FK}, vs.length = l.length →
    (∀ (i : Nat) (v : Value) (g : Bool) (n : Nat), vs[i]? = some v → ((l.map fun k => (false, [k])).map fun s => (s.1, s.2.length))[i]? = some (g, n) → v.cells.size = n ∧ (if g then v = .agg v.cells else v.cells = #[v])) →
    vs.flatMap (fun v => v.cells.toList) = vs := by
  induction vs with
  | nil => intro l _ _; rfl
  | cons v vs ih =>
    intro l hl h
    cases l with
    | nil => simp at hl
    | cons k l =>
      have h0 := (h 0 v false 1 rfl rfl).2
      simp only [Bool.false_eq_true, if_false] at h0
      rw [List.flatMap_cons, h0, ih (l := l) (by simpa using hl) fun i u g n hu hs => h (i + 1) u g n (by simpa using hu) (by simpa using hs)]
      rfl
section
variable {H : Type} {enc : TypeId × Value → H} {P : Program} {W : World}
theorem law_goalW (laid : laidOutB P = true) {f : FuncId} {fn : Func} {s : ChangeSpec} {apart fresh handsOn again : Bool} {l : List FK} {tb : TypeId} (hsh : shapesOf P fn.params.toList = some (l.map fun k => (false, [k]))) (hread : allRead P fn.params.toList = true)
    (hvars : s.vars = []) (hres : fn.resultTypes = #[tb]) (hb : P.underlying tb = some .bool)
    (hspec : ∀ (H : Type) (ds : List (DataW H)), ds.length = fn.params.toList.length → (s.fn H ds).results = [.lit (.bool true)] ∧ (s.fn H ds).args = ds ∧ (s.fn H ds).vars = [])
    {base : Nat} {args : Array Value} {ds gs : List (DataW H)} {before : List MemPlace}
    (hrun : FitCs W args.toList l → Calls P f args W fun e w' => e = .returned (.bool true) ∧ Wrt W (fun _ => False) w')
    (hval : ∀ (j : Nat) t v, fn.params[j]? = some t → args[j]? = some v → Value.okWide P W .any base t v)
    (hW : DataW.Whole enc P fn.params.toList s.vars apart W args.toList ds gs before) :
    Calls P f args W fun e W' => ∃ v, e = .returned v ∧ s.post enc P fn apart fresh handsOn again W args v W' := by
  have hW' := hW
  obtain ⟨p, q, hA, hV, rfl, hfz, hnd⟩ := hW
  rw [hvars] at hV
  obtain ⟨rfl, rfl⟩ := trodVars_none hV
  obtain ⟨h1, h2, h3, h4, h5⟩ := params_ok hsh hA (fun j t v hj hv => hval j t v (by simpa using hj) (by simpa using hv))
  have e1 : (l.map fun k => ((false, [k]) : Bool × List FK)).flatMap (·.2) = l := by
    clear h1 h2 h3 h4 h5 hsh hrun
    induction l with
    | nil => rfl
    | cons k l ih => simp only [List.map_cons, List.flatMap_cons, ih]; rfl
  rw [e1, flat_of (by simpa using h2) h4] at h1
  refine (hrun h1).mono fun e W' he => ?_
  obtain ⟨rfl, hwrt⟩ := he
  have hbelow : Below W.heap.size W W' := ⟨hwrt.os, hwrt.tape, hwrt.output, hwrt.size, fun k hk => hwrt.block k hk id⟩
  obtain ⟨s1, s2, s3⟩ := hspec H ds h3
  have hlt : ∀ x ∈ p, x.block < W.heap.size := fun x hx => hW'.lt x (List.mem_append_left _ hx)
  refine ⟨_, rfl, post_below (pa := p) (pv := []) hW' (fun b sp hd => ?_) (fun sp hsp => ?_) (fun sp _ => ?_) rfl hbelow ?_⟩
  · rw [List.append_nil, s1, hres]
    exact trodAll_mk1 ⟨1, by simp [DataW.trod, hb, Value.cells]⟩
  · rw [List.append_nil, s2]
    exact trodAll_stays laid hread hA (fun x hx => hbelow.same (hlt x hx)) (fun x hx => hsp x (List.mem_append_left _ hx))
  · rw [List.append_nil, s3, hvars]
    rfl
  · exact ok_one hres rfl (okWide_bool_mk hb true)
end
end Go.Rex
namespace Go.Proofs.YtkpbbhcdmkmnfaaDoor
open Go.RowKit Go.Extern.Stop Go.Stop Go.Extern Go.Rex
theorem Rd.of_fit {w : World} {v : Value} (h : FitC w v (.sl 3 [.int .i64])) : ∃ l, Rd w v l := by
  rcases h with rfl | ⟨a, len, cap, rfl, h1, h2, h3⟩
  · exact ⟨[], none, 0, rfl, Nat.le_refl _, Nat.zero_le _, fun h => absurd h (by simp)⟩
  · refine ⟨(List.range len).map fun i => intOfV ((w.cell? (a.add i)).getD undef), some a, cap, by simp, by simpa using h1, h2, fun _ => ⟨a, rfl, fun j x hj => ?_⟩⟩
    have hj' : j < len := by
      rcases Nat.lt_or_ge j len with h | h
      · exact h
      · rw [List.getElem?_eq_none (by simpa using h)] at hj; cases hj
    obtain ⟨u, hu, n, rfl, -⟩ := h3 j 0 (.int .i64) hj' rfl
    simp [hj'] at hj
    simp at hu
    rw [hu] at hj ⊢
    simp [intOfV] at hj
    rw [hj]
theorem fitI {w : World} {v : Value} (h : FitC w v (.int .i64)) : ∃ n, v = .int .i64 n ∧ IntKind.i64.min ≤ n ∧ n ≤ IntKind.i64.max := h
theorem len1 {l : List Value} (h : l.length = 1) : ∃ a, l = [a] := match l, h with | [a], _ => ⟨a, rfl⟩
theorem len2 {l : List Value} (h : l.length = 2) : ∃ a b, l = [a, b] := match l, h with | [a, b], _ => ⟨a, b, rfl⟩
theorem len3 {l : List Value} (h : l.length = 3) : ∃ a b c, l = [a, b, c] := match l, h with | [a, b, c], _ => ⟨a, b, c, rfl⟩
theorem fit1 {w : World} {args : Array Value} (h : FitCs w args.toList [.sl 3 [.int .i64]]) : ∃ v l, args = #[v] ∧ Rd w v l := by
  obtain ⟨vs⟩ := args
  obtain ⟨v, hvs⟩ := len1 (show vs.length = 1 from h.length)
  subst hvs
  obtain ⟨l, hl⟩ := Rd.of_fit h.1
  exact ⟨v, l, rfl, hl⟩
theorem fit2 {w : World} {args : Array Value} (h : FitCs w args.toList [.int .i64, .sl 3 [.int .i64]]) : ∃ n v l, args = #[.int .i64 n, v] ∧ Rd w v l := by
  obtain ⟨vs⟩ := args
  obtain ⟨u, v, hvs⟩ := len2 (show vs.length = 2 from h.length)
  subst hvs
  obtain ⟨l, hl⟩ := Rd.of_fit h.2.1
  obtain ⟨n, hu, _⟩ := fitI h.1
  subst hu
  exact ⟨n, v, l, rfl, hl⟩
theorem fit3 {w : World} {args : Array Value} (h : FitCs w args.toList [.int .i64, .sl 3 [.int .i64], .sl 3 [.int .i64]]) : ∃ n v l v' l', args = #[.int .i64 n, v, v'] ∧ Rd w v l ∧ Rd w v' l' := by
  obtain ⟨vs⟩ := args
  obtain ⟨u, v, v', hvs⟩ := len3 (show vs.length = 3 from h.length)
  subst hvs
  obtain ⟨l, hl⟩ := Rd.of_fit h.2.1
  obtain ⟨l', hl'⟩ := Rd.of_fit h.2.2.1
  obtain ⟨n, hu, _⟩ := fitI h.1
  subst hu
  exact ⟨n, v, l, v', l', rfl, hl, hl'⟩
theorem fit4 {w : World} {args : Array Value} (h : FitCs w args.toList [.int .i64, .int .i64, .sl 3 [.int .i64]]) : ∃ n m v l, args = #[.int .i64 n, .int .i64 m, v] ∧ IntKind.i64.min ≤ n ∧ n ≤ IntKind.i64.max ∧ IntKind.i64.min ≤ m ∧ m ≤ IntKind.i64.max ∧ Rd w v l := by
  obtain ⟨vs⟩ := args
  obtain ⟨u, u', v, hvs⟩ := len3 (show vs.length = 3 from h.length)
  subst hvs
  obtain ⟨l, hl⟩ := Rd.of_fit h.2.2.1
  obtain ⟨n, hu, h1, h2⟩ := fitI h.1
  subst hu
  obtain ⟨m, hu, h3, h4⟩ := fitI h.2.1
  subst hu
  exact ⟨n, m, v, l, rfl, h1, h2, h3, h4, hl⟩
theorem nodup_inj {α : Type} {l : List α} (h : l.Nodup) {i j : Nat} {hi : i < l.length} {hj : j < l.length} (he : l[i] = l[j]) : i = j := by
  rcases Nat.lt_trichotomy i j with hij | hij | hij
  · exact absurd he (List.pairwise_iff_getElem.1 h i j hi hj hij)
  · exact hij
  · exact absurd he.symm (List.pairwise_iff_getElem.1 h j i hj hi hij)
theorem sen_of {w : World} {al : List Addr} (h : SentOK w [(0, 56, 58), (1, 56, 58), (2, 56, 58), (3, 56, 58), (4, 56, 58), (5, 56, 58), (6, 56, 58), (7, 56, 58), (8, 56, 58), (9, 56, 58), (10, 56, 58)] al) (hn : al.Nodup) (hb : ∀ a ∈ al, ∃ c t, w.heap[a.block]? = some (.cells c t (0, 0))) :
    ∃ S, Sen w S := by
  match al, h with
  | [a0, a1, a2, a3, a4, a5, a6, a7, a8, a9, a10], h =>
    obtain ⟨h0, -, h1, -, h2, -, h3, -, h4, -, h5, -, h6, -, h7, -, h8, -, h9, -, h10, -, -⟩ := h
    refine ⟨fun k => [a0, a1, a2, a3, a4, a5, a6, a7, a8, a9, a10].getD k a0, ⟨fun k hk => ?_, fun k hk => hb _ ?_, fun i j hi hj he => ?_⟩⟩
    · match k, hk with
      | 0, _ => exact h0
      | 1, _ => exact h1
      | 2, _ => exact h2
      | 3, _ => exact h3
      | 4, _ => exact h4
      | 5, _ => exact h5
      | 6, _ => exact h6
      | 7, _ => exact h7
      | 8, _ => exact h8
      | 9, _ => exact h9
      | 10, _ => exact h10
    · rw [List.getD_eq_getElem?_getD, List.getElem?_eq_getElem (show k < [a0, a1, a2, a3, a4, a5, a6, a7, a8, a9, a10].length from hk)]
      exact List.getElem_mem _
    · rw [List.getD_eq_getElem?_getD, List.getD_eq_getElem?_getD, List.getElem?_eq_getElem (show i < [a0, a1, a2, a3, a4, a5, a6, a7, a8, a9, a10].length from hi), List.getElem?_eq_getElem (show j < [a0, a1, a2, a3, a4, a5, a6, a7, a8, a9, a10].length from hj)] at he
      exact nodup_inj hn he
end Go.Proofs.YtkpbbhcdmkmnfaaDoor
