/- Rex, part Q: arguments: numbers, bools, structs and arrays of these, slices of these; read as data, as symbolic values. -/
import Derived.Test.YthomdlajobnmnaaDoorRexP
import Derived.ProofKit
import Derived.Deep.Slices
import Derived.OpenShut
set_option linter.unusedSimpArgs false
set_option linter.unusedVariables false
namespace Go.Rex
open Go.WideShapes Go.ChangeShapes Go.RowKit

inductive FK where
 | int (k : IntKind) | bool | sl (e : TypeId) (ks : List Kd)
 deriving Inhabited
def kdsOf : List FK → Option (List Kd)
 | [] => some []
 | .int k :: r => (kdsOf r).map (.int k :: ·)
 | .bool :: r => (kdsOf r).map (.bool :: ·)
 | .sl _ _ :: _ => none
mutual
def flat (P : Program) : Nat → TypeId → Option (List FK)
 | 0, _ => none
 | n + 1, t =>
  match P.underlying t with
  | some (.int k) => some [.int k]
  | some .bool => some [.bool]
  | some (.slice e) =>
   match flat P n e with
   | some l => match kdsOf l with
    | some ks => if P.cellsOf e == l.length then some [.sl e ks] else none
    | none => none
   | none => none
  | some (.struct fs) => match flatFs P n fs.toList 0 with | some l => if P.cellsOf t == l.length then some l else none | none => none
  | some (.array m e) => match flat P n e with | some l => if P.cellsOf e == l.length && P.cellsOf t == m * l.length then some ((List.replicate m l).flatten) else none | none => none
  | _ => none
def flatFs (P : Program) : Nat → List Field → Nat → Option (List FK)
 | 0, _, _ => none
 | _, [], _ => some []
 | n + 1, f :: r, off =>
  match flat P n f.type with
  | some l => if f.offset == off && P.cellsOf f.type == l.length then (flatFs P n r (off + l.length)).map (l ++ ·) else none
  | none => none
end
def FitKd (v : Value) : Kd → Prop
 | .int k => ∃ n, v = .int k n ∧ k.min ≤ n ∧ n ≤ k.max
 | .bool => ∃ b, v = .bool b
 | .val => False
def FitC (w : World) (v : Value) : FK → Prop
 | .int k => ∃ n, v = .int k n ∧ k.min ≤ n ∧ n ≤ k.max
 | .bool => ∃ b, v = .bool b
 | .sl _ ks => v = .slice none 0 0 ∨ ∃ (a : Addr) (len cap : Nat), v = .slice (some a) len cap ∧ len ≤ cap ∧ cap ≤ maxLen ∧ ∀ i j k, i < len → ks[j]? = some k → ∃ u, w.cell? (a.add (i * ks.length + j)) = some u ∧ FitKd u k
def FitCs (w : World) : List Value → List FK → Prop
 | [], [] => True
 | c :: r, k :: s => FitC w c k ∧ FitCs w r s
 | _, _ => False
theorem FitCs.append {w : World} : ∀ {a b : List Value} {l m : List FK}, FitCs w a l → FitCs w b m → FitCs w (a ++ b) (l ++ m)
 | [], _, [], _, _, h => h
 | _ :: _, _, _ :: _, _, h, h' => ⟨h.1, FitCs.append h.2 h'⟩
 | [], _, _ :: _, _, h, _ => h.elim
 | _ :: _, _, [], _, h, _ => h.elim
theorem FitCs.length {w : World} : ∀ {a : List Value} {l : List FK}, FitCs w a l → a.length = l.length
 | [], [], _ => rfl
 | _ :: _, _ :: _, h => by simp [FitCs.length h.2]
 | [], _ :: _, h => h.elim
 | _ :: _, [], h => h.elim
theorem kdsOf_ok {w : World} : ∀ {cs : List Value} {l : List FK} {ks : List Kd}, kdsOf l = some ks → FitCs w cs l → ks.length = l.length ∧ ∀ (j : Nat) (k : Kd), ks[j]? = some k → ∃ u, cs[j]? = some u ∧ FitKd u k
 | [], [], ks, h, _ => by simp [kdsOf] at h; subst h; exact ⟨rfl, fun j k h => by simp at h⟩
 | [], _ :: _, _, _, h => h.elim
 | _ :: _, [], _, _, h => h.elim
 | c :: r, .int k0 :: s, ks, h, hf => by
  simp only [kdsOf, Option.map_eq_some_iff] at h
  obtain ⟨q, hq, rfl⟩ := h
  obtain ⟨h1, h2⟩ := kdsOf_ok hq hf.2
  refine ⟨by simp [h1], fun j k hj => ?_⟩
  cases j with
  | zero => simp at hj; subst hj; exact ⟨c, rfl, hf.1⟩
  | succ j => simpa using h2 j k (by simpa using hj)
 | c :: r, .bool :: s, ks, h, hf => by
  simp only [kdsOf, Option.map_eq_some_iff] at h
  obtain ⟨q, hq, rfl⟩ := h
  obtain ⟨h1, h2⟩ := kdsOf_ok hq hf.2
  refine ⟨by simp [h1], fun j k hj => ?_⟩
  cases j with
  | zero => simp at hj; subst hj; exact ⟨c, rfl, hf.1⟩
  | succ j => simpa using h2 j k (by simpa using hj)
 | c :: r, .sl _ _ :: s, ks, h, hf => by simp [kdsOf] at h
section
variable {H : Type} {enc : TypeId × Value → H} {P : Program} {w : World} {base : Nat} {spare : Nat → Bool} {held : Bool}
theorem flat_ok : ∀ (n : Nat), (∀ (t : TypeId) (l : List FK) (fuel : Nat) (cs : List Value) (x : DataW H × List MemPlace), flat P n t = some l → DataW.trod enc P w base spare held fuel t cs = some x → FitCs w cs l) ∧
  (∀ (fs : List Field) (off : Nat) (l : List FK) (cs : List Value), flatFs P n fs off = some l → cs.length = off + l.length →
    (∀ f ∈ fs, ∃ (fuel : Nat) (x : DataW H × List MemPlace), DataW.trod enc P w base spare held fuel f.type ((cs.drop f.offset).take (P.cellsOf f.type)) = some x) → FitCs w (cs.drop off) l) := by
 intro n
 induction n with
 | zero => exact ⟨fun t l fuel cs x h => by simp [flat] at h, fun fs off l cs h => by simp [flatFs] at h⟩
 | succ n ih =>
  refine ⟨fun t l fuel cs x h ht => ?_, fun fs off l cs h hl hfs => ?_⟩
  ·unfold flat at h
   split at h
   ·rename_i k hu
    simp at h
    subst h
    cases fuel with
    | zero => simp [DataW.trod] at ht
    | succ fuel =>
     unfold DataW.trod at ht
     rw [hu] at ht
     split at ht <;> try cases ht
     all_goals rename_i he
     all_goals try (simp at he; done)
     split at ht
     ·rename_i hc
      simp at he
      subst he
      obtain ⟨rfl, hwf⟩ := hc
      simp only [Lit.wf, Bool.and_eq_true, decide_eq_true_eq] at hwf
      exact ⟨⟨_, rfl, hwf.1, hwf.2⟩, trivial⟩
     ·cases ht
   ·rename_i hu
    simp at h
    subst h
    cases fuel with
    | zero => simp [DataW.trod] at ht
    | succ fuel =>
     unfold DataW.trod at ht
     rw [hu] at ht
     split at ht <;> try cases ht
     all_goals rename_i he
     all_goals try (simp at he; done)
     exact ⟨⟨_, rfl⟩, trivial⟩
   ·rename_i e hu
    split at h
    case h_2 => cases h
    rename_i le hle
    split at h
    case h_2 => cases h
    rename_i ks hks
    split at h
    case isFalse => cases h
    rename_i hc
    simp only [beq_iff_eq] at hc
    simp at h
    subst h
    rcases Go.Deep.open_slice hu ht with ⟨rfl, -⟩ | ⟨a, len, cap, m, fl, D, Pl, rfl, hb, hlc, hcm, hm, -, hi⟩
    ·exact ⟨.inl rfl, trivial⟩
    ·refine ⟨.inr ⟨a, len, cap, rfl, hlc, hcm, fun i j k hil hj => ?_⟩, trivial⟩
     have him : i < m := by
      rw [hm]
      split
      ·omega
      ·exact hil
     obtain ⟨cs', hcs, htr⟩ := hi i him
     obtain ⟨_, hcl, hat⟩ := World.cells?_some hcs
     have hfit := ih.1 e le fl cs' _ hle htr
     obtain ⟨h1, h2⟩ := kdsOf_ok hks hfit
     obtain ⟨u, hu1, hu2⟩ := h2 j k hj
     have hjl : j < P.cellsOf e := by
      have := (List.getElem?_eq_some_iff.1 hj).1
      omega
     refine ⟨u, ?_, hu2⟩
     have := hat j hjl
     rw [hu1, hc, ← h1, Addr.add_add] at this
     exact this
   ·rename_i fs hu
    split at h
    case h_2 => cases h
    rename_i l' hl'
    split at h
    case isFalse => cases h
    rename_i hc
    simp only [beq_iff_eq] at hc
    simp at h
    subst h
    obtain ⟨xs, m, -, -, hlen, hxl, hf⟩ := DataW.trod_struct hu ht
    have := ih.2 fs.toList 0 l' cs hl' (by omega) (fun f hm => by
      obtain ⟨i, hi, he⟩ := List.getElem_of_mem hm
      have hfi : fs[i]? = some f := by
        rw [← Array.getElem?_toList, List.getElem?_eq_getElem hi, he]
      have hil : i < xs.length := by rw [hxl]; simpa using hi
      exact ⟨m, xs[i], by rw [hf i f hfi, List.getElem?_eq_getElem hil]⟩)
    simpa using this
   ·rename_i m e hu
    split at h
    case h_2 => cases h
    rename_i le hle
    split at h
    case isFalse => cases h
    rename_i hc
    simp only [Bool.and_eq_true, beq_iff_eq] at hc
    simp at h
    subst h
    obtain ⟨xs, fl, -, -, hlen, hxl, hf⟩ := DataW.trod_array hu ht
    have key : ∀ q, q ≤ m → FitCs w (cs.drop ((m - q) * le.length)) ((List.replicate q le).flatten) := by
     intro q
     induction q with
     | zero =>
      intro _
      have : cs.drop ((m - 0) * le.length) = [] := by
       apply List.drop_eq_nil_of_le
       rw [Nat.sub_zero]
       omega
      rw [this]
      trivial
     | succ q ihq =>
      intro hq
      have h1 := ihq (by omega)
      have hi : m - (q + 1) < m := by omega
      have h2 := hf (m - (q + 1)) hi
      have hil : m - (q + 1) < xs.length := by rw [hxl]; exact hi
      rw [List.getElem?_eq_getElem hil, hc.1] at h2
      have h3 := ih.1 e le fl _ _ hle h2
      have e1 : cs.drop ((m - (q + 1)) * le.length) = (cs.drop ((m - (q + 1)) * le.length)).take le.length ++ cs.drop ((m - q) * le.length) := by
       have : (m - q) * le.length = (m - (q + 1)) * le.length + le.length := by rw [show m - q = (m - (q + 1)) + 1 by omega, Nat.add_mul]; omega
       rw [this, ← List.drop_drop, List.take_append_drop]
      rw [e1, List.replicate_succ, List.flatten_cons]
      exact FitCs.append h3 h1
    have := key m (Nat.le_refl m)
    simpa using this
   ·cases h
  ·cases fs with
   | nil =>
    simp [flatFs] at h
    subst h
    have : cs.drop off = [] := List.drop_eq_nil_of_le (by simp at hl; omega)
    rw [this]
    trivial
   | cons f r =>
    simp only [flatFs] at h
    split at h
    case h_2 => cases h
    rename_i l0 hl0
    split at h
    case isFalse => cases h
    rename_i hc
    simp only [Bool.and_eq_true, beq_iff_eq] at hc
    simp only [Option.map_eq_some_iff] at h
    obtain ⟨l1, hl1, rfl⟩ := h
    obtain ⟨fuel, x, htr⟩ := hfs f (List.mem_cons_self ..)
    have h1 := ih.1 f.type l0 fuel _ x hl0 htr
    have h2 := ih.2 r (off + l0.length) l1 cs hl1 (by simp at hl; omega) (fun g hg => hfs g (List.mem_cons_of_mem _ hg))
    rw [hc.1, hc.2] at h1
    have e1 : cs.drop off = (cs.drop off).take l0.length ++ cs.drop (off + l0.length) := by
     rw [← List.drop_drop, List.take_append_drop]
    rw [e1]
    exact FitCs.append h1 h2
end
end Go.Rex
