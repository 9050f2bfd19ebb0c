/- Rex, part W: what the listed sentinels give. -/
import Derived.Test.YthomdlajobnmnaaDoorRexU
import Derived.LaidLaws
import Derived.Stop.LaidErr
set_option linter.unusedSimpArgs false
set_option linter.unusedVariables false
namespace Go.Rex
open Go.RowKit Go.ChangeShapes
abbrev Sents := List (String × Nat × List UInt8)
def Sents.laid (nm : String) (sl : Sents) : List (String × DataW Unit) := sl.map fun x => (x.1, .iface nm (.ptr (.agg [.lit (.string x.2.2)])))
def Sents.ss (tp te : TypeId) (sl : Sents) : List (Nat × TypeId × TypeId) := sl.map fun x => (x.2.1, tp, te)
def Sents.chk (P : Program) (ti : TypeId) (sl : Sents) : Bool := sl.all fun x => (P.globalNamed x.1 == some x.2.1) && ((P.globals[x.2.1]?).map (·.type) == some ti)
section
variable {P : Program} {W : World} {ti tp te ts : TypeId} {nm : String} {ms : Array (String × TypeId)} {f : Field}
theorem sents_of_vars (hi : P.underlying ti = some (.interface ms)) (hrow : ∀ u, P.typeName? 3 u = some nm → u = tp)
  (hp : P.underlying tp = some (.pointer te)) (he : P.underlying te = some (.struct #[f])) (hft : f.type = ts) (hfo : f.offset = 0) (hs : P.underlying ts = some .string) (hc : P.cellsOf te = 1) (hcs : P.cellsOf ts = 1) :
  ∀ {sl : Sents} {ps : List MemPlace}, DataW.LaidVars P W (sl.laid nm) ps → sl.chk P ti = true →
   (∀ b off, MemPlace.cell b off ∈ ps → ∀ u v, W.cell? ⟨b, off, none⟩ = some (.iface u v) → Value.okWide P W .any 0 u v) →
   ∃ as : List Addr, SentOK W (sl.ss tp te) as ∧ (∀ a ∈ as, MemPlace.cell a.block a.off ∈ ps) ∧ (ps.Nodup → as.Nodup)
 | [], _, _, _, _ => ⟨[], trivial, fun a h => (List.not_mem_nil h).elim, fun _ => List.nodup_nil⟩
 | (n, g, text) :: r, ps, h, hk, hok => by
  obtain ⟨g0, t0, cs, fuel, p, q, hg0, ht0, hv, hd, hr, rfl⟩ := h
  simp only [Sents.chk, List.all_cons, Bool.and_eq_true, beq_iff_eq] at hk
  obtain ⟨⟨hg, ht⟩, hk'⟩ := hk
  obtain rfl := Option.some.inj (hg.symm.trans hg0)
  obtain rfl := Option.some.inj (ht.symm.trans ht0)
  obtain ⟨l⟩ := cs
  have hok1 : ∀ u v, l = [.iface u v] → Value.okWide P W .any 0 u v := fun u v e => by
   subst e
   exact hok g 0 (by simp [MemPlace.row]) u v (by simpa using World.var?_cell hg0 hv 0)
  obtain ⟨a, s, rfl, hca, hs1, hz, rfl⟩ := errorString_of_trod hi hrow hp he hft hfo hs hc hcs hd hok1
  obtain ⟨as, h1, h2, h3⟩ := sents_of_vars hi hrow hp he hft hfo hs hc hcs hr (by simpa [Sents.chk] using hk') fun b off hm => hok b off (List.mem_append_right _ hm)
  refine ⟨a :: as, ⟨by simpa using World.var?_cell hg hv 0, ⟨_, hca⟩, h1⟩, ?_, ?_⟩
  ·intro x hx
   rcases List.mem_cons.1 hx with rfl | hx
   ·simp [MemPlace.row]
   ·exact List.mem_append_right _ (h2 x hx)
  ·intro hn
   have hn2 := (List.nodup_append.1 hn)
   refine List.nodup_cons.2 ⟨fun hm => ?_, h3 hn2.2.1⟩
   exact hn2.2.2 (MemPlace.cell a.block a.off) (by simp [MemPlace.row]) (MemPlace.cell a.block a.off) (h2 a hm) rfl
theorem sents_of_laid (hi : P.underlying ti = some (.interface ms)) (hrow : ∀ u, P.typeName? 3 u = some nm → u = tp)
  (hp : P.underlying tp = some (.pointer te)) (he : P.underlying te = some (.struct #[f])) (hft : f.type = ts) (hfo : f.offset = 0) (hs : P.underlying ts = some .string) (hc : P.cellsOf te = 1) (hcs : P.cellsOf ts = 1)
  {sl : Sents} (hk : sl.chk P ti = true) (h : laidMet P (sl.laid nm) W) :
  ∃ as : List Addr, SentOK W (sl.ss tp te) as ∧ as.Nodup ∧ ∀ a ∈ as, ∃ c t, W.heap[a.block]? = some (.cells c t (0, 0)) := by
 obtain ⟨ps, hv, hnd, hrows⟩ := h
 obtain ⟨as, h1, h2, h3⟩ := sents_of_vars hi hrow hp he hft hfo hs hc hcs hv hk fun b off hm => (hrows b off hm).2
 exact ⟨as, h1, h3 hnd, fun a ha => (hrows _ _ (h2 a ha)).1⟩
end
end Go.Rex
