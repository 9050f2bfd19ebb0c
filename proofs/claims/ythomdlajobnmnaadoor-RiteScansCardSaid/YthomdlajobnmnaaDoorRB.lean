/- calls of 'New' and 'Do' in a law -/
import Derived.Test.YthomdlajobnmnaaDoorPDo
import Derived.Test.YthomdlajobnmnaaDoorPR
import Derived.Test.YthomdlajobnmnaaDoorRex0
import Derived.Test.YthomdlajobnmnaaDoorSpec
import Derived.Test.YthomdlajobnmnaaDoorRA
set_option linter.unusedSimpArgs false
set_option linter.unusedVariables false
set_option linter.unusedSimpArgs false
set_option linter.unusedVariables false
namespace Go.Proofs.YthomdlajobnmnaaDoor
open Go.Rex
def psLp (ρ : Env) (n m : Int) (b : Nat) : PS where
 nb := n
 ns := m
 nf := ρ.iv (b + 4)
 steps := ρ.iv (b + 7)
 made := ρ.iv (b + 8)
 good := ρ.bv (b + 9)
 bd := fun i => mkW (ρ.ic b i 0) (ρ.bc b i 0)
 gen := fun i => ρ.ic (b + 1) i 0 0
 used := fun i => ρ.bc (b + 1) i 0 1
 cell := fun i k => mkW (ρ.ic (b + 2) i k) (ρ.bc (b + 2) i k)
 fr := fun i => ρ.ic (b + 6) i 0 0
theorem pX {p q : PS} (h1 : p.nb = q.nb := by exact rfl) (h2 : p.ns = q.ns := by exact rfl) (h3 : p.nf = q.nf := by exact rfl) (h4 : p.steps = q.steps := by exact rfl) (h5 : p.made = q.made := by exact rfl) (h6 : p.good = q.good := by exact rfl)
    (h7 : ∀ i, p.bd i = q.bd i := by intro i; simp [psRd, psLp, mkW, -Int.pred_toNat, Sub.nenv, assoc, CV.I, CV.B, upsI, upsB, Seg.I, Seg.B, SC.I, SC.B, IE.den, BE.den]) (h8 : ∀ i, p.gen i = q.gen i := by intro i; simp [psRd, psLp, -Int.pred_toNat, Sub.nenv, assoc, CV.I, CV.B, upsI, upsB, Seg.I, Seg.B, SC.I, SC.B, IE.den, BE.den]) (h9 : ∀ i, p.used i = q.used i := by intro i; simp [psRd, psLp, -Int.pred_toNat, Sub.nenv, assoc, CV.I, CV.B, upsI, upsB, Seg.I, Seg.B, SC.I, SC.B, IE.den, BE.den])
    (h10 : ∀ i k, p.cell i k = q.cell i k := by intro i k; simp [psRd, psLp, mkW, -Int.pred_toNat, Sub.nenv, assoc, CV.I, CV.B, upsI, upsB, Seg.I, Seg.B, SC.I, SC.B, IE.den, BE.den]) (h11 : ∀ i, p.fr i = q.fr i := by intro i; simp [psRd, psLp, -Int.pred_toNat, Sub.nenv, assoc, CV.I, CV.B, upsI, upsB, Seg.I, Seg.B, SC.I, SC.B, IE.den, BE.den]) : p = q := PS.ext' h1 h2 h3 h4 h5 h6 h7 h8 h9 h10 h11
structure Fresh (p : PS) (n m : Int) : Prop where
 nb : p.nb = n
 ns : p.ns = m
 nf : p.nf = m
 steps : p.steps = 0
 made : p.made = 0
 good : p.good = true
 bd : ∀ i, p.bd i = Wd.zero
 gen : ∀ i, p.gen i = 0
 used : ∀ i, p.used i = false
 cell : ∀ i k, p.cell i k = Wd.zero
 fr : ∀ i : Nat, (i : Int) < m → p.fr i = m - i
theorem Fresh.ok {p : PS} {n m : Int} (h : Fresh p n m) (h1 : 0 ≤ m ∧ m ≤ 1024) (h2 : 0 ≤ n ∧ n ≤ 200) : p.OK := by
 have hu : ∀ k, usedN p.used k = 0 := fun k => by
  rw [usedN_same (v := fun _ => false) fun i _ => h.used i, usedN_zero]
 refine ⟨by rw [h.nb]; exact h2, by rw [h.ns]; exact h1, by rw [h.nf]; exact h1.1, by rw [h.made, h.steps]; exact ⟨Int.le_refl 0, Int.le_refl 0⟩, fun i => by rw [h.gen, h.made]; exact ⟨Int.le_refl 0, Int.le_refl 0⟩, fun i hi => ?_, fun i j hi hj => ?_, ?_⟩
 ·rw [h.nf] at hi
  rw [h.fr i hi, h.ns]
  exact ⟨by omega, by omega, h.used _⟩
 ·rw [h.nf] at hj
  rw [h.fr i (by omega), h.fr j hj]
  omega
 ·rw [hu, h.nf, h.ns]
  simp
section
variable {post : Env → Prop} {cs : CSem} {Γ : List (Env → Prop)} {ρ : Env}
theorem do_call {g nv : Nat} {σ : Sub} {k : Out} (hg : cs[g]? = some (doCon, doPre, doPost)) (p : PS) (a : Ac) {n m : Int} (hn : (σ.nenv ρ).iv 14 = n) (hm : (σ.nenv ρ).iv 15 = m) (hp : psRd (σ.nenv ρ) n m 16 = p) (ha : acRd (σ.nenv ρ) 0 = a) (ho : OkSl (σ.nenv ρ) 16)
  (hok : p.OK) (hst : p.steps ≤ 1000000) (K : Env → Prop)
  (hK : ∀ e, OkSl (ρ.join nv e) (nv + 7) → psRd (ρ.join nv e) n m (nv + 7) = (p.act a).1 → (ρ.join nv e).bv (nv + 6) = (p.act a).2.isSome → rpRd (ρ.join nv e) nv = (p.act a).2.getD Rp.no → K (ρ.join nv e)) (h : ∀ q, K q → Sat post cs Γ q k) :
  Sat post cs Γ ρ (.call g σ nv k) := by
 subst hn hm
 refine Sat.callK (c := doCon) hg ⟨ho, by rw [hp]; exact hok, by rw [← hp] at hst; exact hst⟩ K (fun e hq => ?_) h
 have hq : doPost (conEnv σ 26 nv ρ (ρ.join nv e)) := hq
 obtain ⟨q1, q2, q3⟩ := hq
 have e1 : psRd (conEnv σ 26 nv ρ (ρ.join nv e)) ((conEnv σ 26 nv ρ (ρ.join nv e)).iv 14) ((conEnv σ 26 nv ρ (ρ.join nv e)).iv 15) 16 = p := hp
 have e2 : acRd (conEnv σ 26 nv ρ (ρ.join nv e)) 0 = a := ha
 have e3 : psRd (conEnv σ 26 nv ρ (ρ.join nv e)) ((conEnv σ 26 nv ρ (ρ.join nv e)).iv 14) ((conEnv σ 26 nv ρ (ρ.join nv e)).iv 15) 33 = psRd (ρ.join nv e) ((σ.nenv ρ).iv 14) ((σ.nenv ρ).iv 15) (nv + 7) := by
  unfold psRd
  rw [show (conEnv σ 26 nv ρ (ρ.join nv e)).iv (33 + 1) = (ρ.join nv e).iv (nv + 7 + 1) from con_iv 26 8, show (conEnv σ 26 nv ρ (ρ.join nv e)).iv (33 + 3) = (ρ.join nv e).iv (nv + 7 + 3) from con_iv 26 10, show (conEnv σ 26 nv ρ (ρ.join nv e)).iv (33 + 4) = (ρ.join nv e).iv (nv + 7 + 4) from con_iv 26 11,
    show (conEnv σ 26 nv ρ (ρ.join nv e)).bv (33 + 5) = (ρ.join nv e).bv (nv + 7 + 5) from con_bv 26 12,
    show (conEnv σ 26 nv ρ (ρ.join nv e)).ic (33 + 6) = (ρ.join nv e).ic (nv + 7 + 6) from con_ic 26 13, show (conEnv σ 26 nv ρ (ρ.join nv e)).bc (33 + 6) = (ρ.join nv e).bc (nv + 7 + 6) from con_bc 26 13,
    show (conEnv σ 26 nv ρ (ρ.join nv e)).ic (33 + 7) = (ρ.join nv e).ic (nv + 7 + 7) from con_ic 26 14, show (conEnv σ 26 nv ρ (ρ.join nv e)).bc (33 + 7) = (ρ.join nv e).bc (nv + 7 + 7) from con_bc 26 14,
    show (conEnv σ 26 nv ρ (ρ.join nv e)).ic (33 + 8) = (ρ.join nv e).ic (nv + 7 + 8) from con_ic 26 15, show (conEnv σ 26 nv ρ (ρ.join nv e)).bc (33 + 8) = (ρ.join nv e).bc (nv + 7 + 8) from con_bc 26 15,
    show (conEnv σ 26 nv ρ (ρ.join nv e)).ic (33 + 9) = (ρ.join nv e).ic (nv + 7 + 9) from con_ic 26 16]
  rfl
 have e4 : rpRd (conEnv σ 26 nv ρ (ρ.join nv e)) 26 = rpRd (ρ.join nv e) nv := by
  unfold rpRd wdRd
  rw [show (conEnv σ 26 nv ρ (ρ.join nv e)).iv 26 = (ρ.join nv e).iv nv from con_iv 26 0, show (conEnv σ 26 nv ρ (ρ.join nv e)).iv (26 + 1) = (ρ.join nv e).iv (nv + 1) from con_iv 26 1, show (conEnv σ 26 nv ρ (ρ.join nv e)).iv (26 + 2) = (ρ.join nv e).iv (nv + 2) from con_iv 26 2,
    show (conEnv σ 26 nv ρ (ρ.join nv e)).iv (26 + 3) = (ρ.join nv e).iv (nv + 3) from con_iv 26 3, show (conEnv σ 26 nv ρ (ρ.join nv e)).bv (26 + 4) = (ρ.join nv e).bv (nv + 4) from con_bv 26 4, show (conEnv σ 26 nv ρ (ρ.join nv e)).bv (26 + 5) = (ρ.join nv e).bv (nv + 5) from con_bv 26 5]
 have e5 : (conEnv σ 26 nv ρ (ρ.join nv e)).bv 32 = (ρ.join nv e).bv (nv + 6) := con_bv 26 6
 have e6 : OkSl (conEnv σ 26 nv ρ (ρ.join nv e)) 33 = OkSl (ρ.join nv e) (nv + 7) := by
  unfold OkSl
  rw [show (conEnv σ 26 nv ρ (ρ.join nv e)).bv 33 = (ρ.join nv e).bv (nv + 7) from con_bv 26 7, show (conEnv σ 26 nv ρ (ρ.join nv e)).iv (33 + 1) = (ρ.join nv e).iv (nv + 7 + 1) from con_iv 26 8, show (conEnv σ 26 nv ρ (ρ.join nv e)).iv (33 + 2) = (ρ.join nv e).iv (nv + 7 + 2) from con_iv 26 9]
 rw [e1, e2, e3, e4, e5] at q2
 rw [e6] at q1
 rw [e4, e5] at q3
 refine hK e q1 (by rw [q2]) ?_ ?_
 ·rw [q2]
  cases (ρ.join nv e).bv (nv + 6) <;> rfl
 ·rw [q2]
  cases hb : (ρ.join nv e).bv (nv + 6) with
  | true => rfl
  | false => exact q3 hb
theorem new_call {g nv : Nat} {σ : Sub} {k : Out} (hg : cs[g]? = some (newCon, newPre, newPost)) {n m : Int} (hn : (σ.nenv ρ).iv 1 = n) (hm : (σ.nenv ρ).iv 0 = m) (h1 : 0 ≤ m ∧ m ≤ 1024) (h2 : 0 ≤ n ∧ n ≤ 200) (K : Env → Prop)
  (hK : ∀ e, OkSl (ρ.join nv e) nv → Fresh (psRd (ρ.join nv e) n m nv) n m → K (ρ.join nv e)) (h : ∀ q, K q → Sat post cs Γ q k) : Sat post cs Γ ρ (.call g σ nv k) := by
 subst hn hm
 refine Sat.callK (c := newCon) hg ⟨h1, h2⟩ K (fun e hq => ?_) h
 have hq : newPost (conEnv σ 2 nv ρ (ρ.join nv e)) := hq
 obtain ⟨q1, p, q2, q3⟩ := hq
 have e3 : psRd (conEnv σ 2 nv ρ (ρ.join nv e)) ((conEnv σ 2 nv ρ (ρ.join nv e)).iv 1) ((conEnv σ 2 nv ρ (ρ.join nv e)).iv 0) 2 = psRd (ρ.join nv e) ((σ.nenv ρ).iv 1) ((σ.nenv ρ).iv 0) nv := by
  unfold psRd
  rw [show (conEnv σ 2 nv ρ (ρ.join nv e)).iv (2 + 1) = (ρ.join nv e).iv (nv + 1) from con_iv 2 1, show (conEnv σ 2 nv ρ (ρ.join nv e)).iv (2 + 3) = (ρ.join nv e).iv (nv + 3) from con_iv 2 3, show (conEnv σ 2 nv ρ (ρ.join nv e)).iv (2 + 4) = (ρ.join nv e).iv (nv + 4) from con_iv 2 4,
    show (conEnv σ 2 nv ρ (ρ.join nv e)).bv (2 + 5) = (ρ.join nv e).bv (nv + 5) from con_bv 2 5,
    show (conEnv σ 2 nv ρ (ρ.join nv e)).ic (2 + 6) = (ρ.join nv e).ic (nv + 6) from con_ic 2 6, show (conEnv σ 2 nv ρ (ρ.join nv e)).bc (2 + 6) = (ρ.join nv e).bc (nv + 6) from con_bc 2 6,
    show (conEnv σ 2 nv ρ (ρ.join nv e)).ic (2 + 7) = (ρ.join nv e).ic (nv + 7) from con_ic 2 7, show (conEnv σ 2 nv ρ (ρ.join nv e)).bc (2 + 7) = (ρ.join nv e).bc (nv + 7) from con_bc 2 7,
    show (conEnv σ 2 nv ρ (ρ.join nv e)).ic (2 + 8) = (ρ.join nv e).ic (nv + 8) from con_ic 2 8, show (conEnv σ 2 nv ρ (ρ.join nv e)).bc (2 + 8) = (ρ.join nv e).bc (nv + 8) from con_bc 2 8,
    show (conEnv σ 2 nv ρ (ρ.join nv e)).ic (2 + 9) = (ρ.join nv e).ic (nv + 9) from con_ic 2 9]
  rfl
 have e6 : OkSl (conEnv σ 2 nv ρ (ρ.join nv e)) 2 = OkSl (ρ.join nv e) nv := by
  unfold OkSl
  rw [show (conEnv σ 2 nv ρ (ρ.join nv e)).bv 2 = (ρ.join nv e).bv nv from con_bv 2 0, show (conEnv σ 2 nv ρ (ρ.join nv e)).iv (2 + 1) = (ρ.join nv e).iv (nv + 1) from con_iv 2 1, show (conEnv σ 2 nv ρ (ρ.join nv e)).iv (2 + 2) = (ρ.join nv e).iv (nv + 2) from con_iv 2 2]
 rw [e3] at q2
 rw [e6] at q1
 obtain ⟨a1, a2, a3, a4, a5, a6, a7, a8, a9, a10, a11⟩ := q3
 refine hK e q1 ?_
 rw [q2]
 exact ⟨a1, a2, a3, a4, a5, a6, a7, a8, a9, a10, a11⟩
end
theorem act_alloc {p : PS} {a : Ac} (hk : a.kind = 4) (h0 : ¬ p.nf = 0) {n : Int} (hn : p.fr (p.nf - 1).toNat = n) :
  p.act a = ({ p with steps := p.steps + 1, nf := p.nf - 1, made := p.made + 1, gen := fun i => if i = (n - 1).toNat then p.gen (n - 1).toNat + 1 else p.gen i, used := fun i => if i = (n - 1).toNat then true else p.used i, cell := fun i k => if i = (n - 1).toNat ∧ k < 10 then bornCells a.new.num k else p.cell i k },
    some ⟨⟨n, p.gen (n - 1).toNat + 1, 0, 0, false⟩, true⟩) := by
 subst hn
 exact act_to (by simp [PS.valid, hk]) (by simp [PS.right, hk]) (makes4s hk h0)
theorem tmP (x n : Int) (h : 0 < n) (hx : 0 ≤ x) : 0 ≤ x.tmod n ∧ x.tmod n < n := by
 rw [Int.tmod_eq_emod_of_nonneg hx]
 exact ⟨Int.emod_nonneg _ (by omega), Int.emod_lt_of_pos _ h⟩
theorem wrP (x : Int) : 0 ≤ IntKind.u64.wrap x := by
 rw [IntKind.wrap_u64]
 omega
theorem wrS {x : Int} (h0 : 0 ≤ x) (h1 : x < 100000) : IntKind.u64.wrap x = x := by
 rw [IntKind.wrap_u64]
 omega
end Go.Proofs.YthomdlajobnmnaaDoor

set_option linter.unusedSimpArgs false
set_option linter.unusedVariables false
namespace Go.Proofs.YthomdlajobnmnaaDoor
open Go.Rex
def kN : List Kd := [.int .i64, .int .i64, .int .i64, .int .i64, .bool, .int .i64, .int .i64]
def slC (nl : Nat) (b s : Nat) : SC := .sln (.var nl) { blk := b, i1 := .lit 0, s1 := s } (.var (nl + 1)) (.var (nl + 2))
def slO (nl o : Nat) (b s : Nat) : SC := .sln (.var nl) { blk := b, i1 := .var o, s1 := s } (.var (nl + 1)) (.var (nl + 2))
def caCells (v : Nat) : List SC := [iv v, iv (v + 1), iv (v + 2), iv (v + 3)] ++ wCells (v + 4) ++ wCells (v + 9) ++ [iv (v + 14), iv (v + 15), iv (v + 16), iv (v + 17)]
def riteB (s v b : Nat) : SB := { t := 111, cs := caCells v ++ [iv (v + 18)] ++ acCells (v + 19) ++ wCells (v + 33) ++ wCells (v + 38) ++ [iv (v + 43), slC (v + 44) b 5, slO (v + 47) (v + 65) (b + 1) 7, iv s, iv (s + 1), iv (s + 2), iv (s + 3)] ++ List.replicate 45 .hole ++ [.bool (.var (v + 51)), iv (v + 52), iv (v + 53), slC (v + 54) (b + 2) 7, iv (v + 57)] ++ rpCells (v + 58), segs := [{ r := v + 50, n1 := .lit 9, s1 := 5, lo := 50, ks := kW }], own := true }
def rowB (t : Nat) (ks : List Kd) (nl r : Nat) : SB := { t := t, segs := [{ r := r, n1 := .var (nl + 1), s1 := ks.length, ks := ks }], own := true, cap := some (.var (nl + 2), ks.length), nl := .var nl }
def seenB (v : Nat) : SB := rowB 31 kW (v + 44) (v + 64)
def doomB (v : Nat) : SB := { t := 82, segs := [{ r := v + 65, n1 := .var (v + 66), s1 := 7, ks := kN }], own := true, nl := .var (v + 47) }
def noteB (v : Nat) : SB := rowB 82 kN (v + 54) (v + 66)
def riteHp (s v b : Nat) : List SB := [riteB s v (b + 1), seenB v, doomB v, noteB v]
def riteHp' (s v : Nat) (c : Nat) : List SB := [riteB s v c, goneSB, goneSB, goneSB, seenB v, doomB v, noteB v]
def rCon (f k : Nat) (args : List SW) (ret : SV) : Con := { f := f, nv := 71 + k, args := .one (.ptr { blk := 0 }) :: args, hp := riteHp 0 4 0, nv' := 138 + k, ret := ret, hp' := riteHp' 0 (71 + k) 4 }
def keepCon : Con := { f := 25, nv := 2, args := [.one (iv 0), .one (iv 1)], hp := [], nv' := 2, ret := .tup [.agg [.int .i64 (.lit 0), .int .i64 (.lit 0), .int .i64 (.add (.add (.lit 25) (.mul (.var 0) (.lit 9))) (.var 1))], .one .nilif], hp' := [] }
def spanCon : Con := { f := 24, nv := 1, args := [.one (iv 0)], hp := [], nv' := 1, ret := .tup [.agg [.int .i64 (.lit 0), .int .i64 (.lit 0), .int .i64 (.add (.lit 79) (.var 0))], .one .nilif], hp' := [] }
def rootCon : Con := { f := 28, nv := 1, args := [.one (iv 0)], hp := [], nv' := 1, ret := .tup [.agg [.int .i64 (.lit 0), .int .i64 (.lit 0), .int .i64 (.var 0)], .one .nilif], hp' := [] }
def none' : SV := .tup []
def leaveCon : Con := rCon 57 1 [.one (iv 71)] none'
def reapCon : Con := rCon 88 0 [] none'
def lookCon : Con := { rCon 82 1 [.one (iv 71)] (.w (.one (.bool (.var 139)))) with nv' := 140 }
def scanCon : Con := rCon 77 0 [] none'
def retireCon : Con := rCon 76 0 [] none'
def openCon : Con := rCon 53 0 [] none'
def notedCon : Con := rCon 81 0 [] none'
def noteCon : Con := rCon 79 2 [.one (iv 71), .one (iv 72)] none'
def rpArg : SW := .agg (rpCells 71)
def tProtCon : Con := rCon 60 6 [rpArg] none'
def tRetCon : Con := rCon 61 6 [rpArg] none'
def tScanCon : Con := rCon 62 6 [rpArg] none'
def siftCon : Con := rCon 83 0 [] none'
def tookCon : Con := rCon 32 6 [rpArg] (.w (.one .nilif))
def beginCon : Con := rCon 27 18 [.agg (caCells 71)] (.w (.one .nilif))
def outB (t : Nat) (ks : List Kd) (v : Nat) : SB := { t := t, segs := [{ r := v + 3, n1 := .var (v + 1), s1 := ks.length, ks := ks }], cap := some (.var (v + 2), ks.length), own := true, nl := .var v }
def newRCon : Con := { f := 30, nv := 4, args := [.one (iv 0), .one (iv 1), .one (iv 2), .one (iv 3)], hp := [], nv' := 71, ret := .tup [.one (.ptr { blk := 0 }), .one .nilif], hp' := riteHp 0 4 0 }
def notesCon : Con := { rCon 26 0 [] (.w (.one (slC 138 7 7))) with nv' := 142, hp' := riteHp' 0 71 4 ++ [{ t := 82, segs := [{ r := 141, n1 := .var 139, s1 := 7, ks := kN }], own := true, nl := .var 138 }] }
def usedCon : Con := { f := 19, nv := 12, args := [.one (.ptr { blk := 0 })], hp := plotHp 0 2 0, nv' := 26, ret := .w (.one (slC 22 7 5)), hp' := plotHp' 0 12 0 5 ++ [outB 31 kW 22] }
def Lused : LSpec := { f := 19, p := [1, 1, 1, 0, 1, 0], hav := [(3, .sln 31), (13, .au)], kill := [14, 15, 16, 17, 5, 4, 18, 19, 20, 21, 22, 23, 24, 25, 26, 27, 28] }
def rowW (ks : List Kd) (nl b : Nat) : SW := .one (slC nl b ks.length)
def inB (t : Nat) (ks : List Kd) (v : Nat) : SB := { t := t, segs := [{ r := v + 3, n1 := .var (v + 1), s1 := ks.length, ks := ks }], ro := true, nl := .var v }
def kI : List Kd := [.int .i64]
def kS : List Kd := [.bool, .int .i64, .int .i64]
def slotsCon : Con := { f := 93, nv := 8, args := [rowW kN 0 0, rowW kW 4 1], hp := [inB 82 kN 0, inB 31 kW 4], nv' := 16, ret := .tup [rowW kN 8 2, rowW kN 12 3], hp' := [goneSB, goneSB, outB 82 kN 8, outB 82 kN 12] }
def erasCon : Con := { f := 94, nv := 8, args := [rowW kN 0 0, rowW kI 4 1], hp := [inB 82 kN 0, inB 3 kI 4], nv' := 16, ret := .tup [rowW kN 8 2, rowW kN 12 3], hp' := [goneSB, goneSB, outB 82 kN 8, outB 82 kN 12] }
def spansCon : Con := { f := 95, nv := 8, args := [rowW kN 0 0, rowW kS 4 1], hp := [inB 82 kN 0, inB 109 kS 4], nv' := 16, ret := .tup [rowW kN 8 2, rowW kN 12 3], hp' := [goneSB, goneSB, outB 82 kN 8, outB 82 kN 12] }
def epochsCon : Con := { f := 96, nv := 8, args := [rowW kN 0 0, .one (iv 4)], hp := [inB 82 kN 0], nv' := 16, ret := .tup [rowW kN 8 1, rowW kN 12 2], hp' := [goneSB, outB 82 kN 8, outB 82 kN 12] }
def mayCon : Con := { f := 84, nv := 5, args := [.one (iv 0), rowW kS 1 0], hp := [inB 109 kS 1], nv' := 6, ret := .w (.one (.bool (.var 5))), hp' := [goneSB] }
def ntCells (v : Nat) : List SC := wCells v ++ [iv (v + 5), iv (v + 6)]
def indexCon : Con := { f := 86, nv := 11, args := [rowW kN 0 0, .agg (ntCells 4)], hp := [inB 82 kN 0], nv' := 12, ret := .w (.one (iv 11)), hp' := [goneSB] }
def deleteCon : Con := { f := 87, nv := 6, args := [rowW kN 0 0, .one (iv 4), .one (iv 5)], hp := [outB 82 kN 0], nv' := 7, ret := .w (.one (.sln (.var 0) { blk := 0, i1 := .lit 0, s1 := 7 } (.sub (.var 1) (.lit 1)) (.var 2))), hp' := [{ t := 82, segs := [{ r := 6, n1 := .sub (.var 1) (.lit 1), s1 := 7, ks := kN }], cap := some (.var 2, 7), own := true, nl := .var 0 }] }
def Lleave : LSpec := { f := 57, p := [1, 0, 1, 0, 1, 0], hav := [(4, .au)], kill := [21, 22, 25, 26, 27, 28, 29, 30, 31, 32, 33, 34, 35, 36, 37, 38, 39, 40, 41, 23, 24] }
def Lsift : LSpec := { f := 83, p := [0, 1, 0, 1, 1, 1, 0, 1, 0, 1, 0], hav := [(2, .sln 3), (36, .au)], kill := [37, 38, 39, 4, 40, 41, 42, 43, 44, 45] }
def Lspans : LSpec := { f := 85, p := [1, 1, 0, 1, 0], hav := [(3, .sln 109), (12, .au)], kill := [13, 14, 15, 5, 16, 17, 18, 19, 20, 21] }
def Ldiv : LSpec := { f := 102, p := [1, 0, 1, 0], hav := [(4, .sln 82), (5, .sln 82), (10, .au)], kill := [11, 12, 13, 7, 14, 15, 16, 17, 18, 19, 20, 21, 22, 23, 24, 25] }
def Lslots : LSpec := { f := 103, p := [1, 0, 1, 0], hav := [(8, .au)], kill := [9, 10, 11, 5, 12, 13, 14, 15, 16, 17, 3, 18] }
def Leras : LSpec := { f := 104, p := [1, 0, 1, 0], hav := [(8, .au)], kill := [9, 10, 11, 5, 12, 13, 14, 15, 16, 17, 18, 19, 20, 21, 22, 23, 24, 25, 3, 26] }
def Lspans1 : LSpec := { f := 105, p := [1, 0, 1, 0], hav := [(8, .au)], kill := [9, 10, 11, 5, 12, 13, 14, 15, 16, 17, 18, 19, 20, 21, 22, 23, 24, 25, 26, 27, 3, 28] }
def Lindex : LSpec := { f := 86, p := [1, 0, 1, 0], hav := [(8, .au)], kill := [9, 10, 5, 11, 12, 13, 14, 15, 16, 17, 4, 18] }
def Lmay : LSpec := { f := 84, p := [1, 0, 1, 0], hav := [(9, .au)], kill := [10, 11, 12, 6, 13, 14, 15, 16, 17, 18, 19, 20, 4, 21] }
end Go.Proofs.YthomdlajobnmnaaDoor

set_option linter.unusedSimpArgs false
set_option linter.unusedVariables false
namespace Go.Proofs.YthomdlajobnmnaaDoor
open Go.Rex
def wdRow (ρ : Env) (r : Nat) (n : Int) : List Wd := (List.range n.toNat).map fun i => mkW (ρ.ic r i 0) (ρ.bc r i 0)
def ntAt (ρ : Env) (r : Nat) (i : Nat) : Nt := ⟨mkW (ρ.ic r i 0) (ρ.bc r i 0), ρ.ic r i 0 5, ρ.ic r i 0 6⟩
def ntRow (ρ : Env) (r : Nat) (n : Int) : List Nt := (List.range n.toNat).map (ntAt ρ r)
def dmRow (ρ : Env) (r : Nat) (o n : Int) : List Nt := (List.range n.toNat).map fun i => ntAt ρ r (o.toNat + i)
def caRd (ρ : Env) (v : Nat) : Ca := ⟨ρ.iv v, ρ.iv (v + 1), ρ.iv (v + 2), ρ.iv (v + 3), wdRd ρ (v + 4), wdRd ρ (v + 9), ρ.iv (v + 14), ρ.iv (v + 15), ρ.iv (v + 16), ρ.iv (v + 17)⟩
def rsRd (ρ : Env) (s v : Nat) : RS where
 call := caRd ρ v
 step := ρ.iv (v + 18)
 acc := acRd ρ (v + 19)
 word := wdRd ρ (v + 33)
 clock := wdRd ρ (v + 38)
 index := ρ.iv (v + 43)
 seen := wdRow ρ (v + 64) (ρ.iv (v + 45))
 doomed := dmRow ρ (v + 65) (ρ.iv (v + 65)) (ρ.iv (v + 48))
 engine := ρ.iv s
 me := ρ.iv (s + 1)
 threads := ρ.iv (s + 2)
 most := ρ.iv (s + 3)
 holds := fun i => mkW (ρ.ic (v + 50) i 0) (ρ.bc (v + 50) i 0)
 span := ⟨ρ.bv (v + 51), ρ.iv (v + 52), ρ.iv (v + 53)⟩
 notes := ntRow ρ (v + 66) (ρ.iv (v + 55))
 freed := ρ.iv (v + 57)
 reply := rpRd ρ (v + 58)
def OkR (ρ : Env) (v : Nat) : Prop := OkSl ρ (v + 44) ∧ (OkSl ρ (v + 47) ∧ 0 ≤ ρ.iv (v + 65) ∧ (ρ.iv (v + 48) = 0 ∨ ρ.iv (v + 65) + ρ.iv (v + 48) ≤ ρ.iv (v + 66))) ∧ OkSl ρ (v + 54)
theorem RS.ext' {p q : RS} (h1 : p.call = q.call) (h2 : p.step = q.step) (h3 : p.acc = q.acc) (h4 : p.word = q.word) (h5 : p.clock = q.clock) (h6 : p.index = q.index) (h7 : p.seen = q.seen) (h8 : p.doomed = q.doomed) (h9 : p.engine = q.engine) (h10 : p.me = q.me) (h11 : p.threads = q.threads) (h12 : p.most = q.most)
  (h13 : ∀ i, p.holds i = q.holds i) (h14 : p.span = q.span) (h15 : p.notes = q.notes) (h16 : p.freed = q.freed) (h17 : p.reply = q.reply) : p = q := by
 cases p
 cases q
 simp only at *
 subst h1 h2 h3 h4 h5 h6 h7 h8 h9 h10 h11 h12 h14 h15 h16 h17
 obtain rfl := funext h13
 rfl
theorem wdRow_same {ρ ρ' : Env} {r r' : Nat} {n n' : Int} (hn : n = n') (h : ∀ i, mkW (ρ.ic r i 0) (ρ.bc r i 0) = mkW (ρ'.ic r' i 0) (ρ'.bc r' i 0)) : wdRow ρ r n = wdRow ρ' r' n' := by
 subst hn
 unfold wdRow
 congr 1
 funext i
 exact h i
theorem ntRow_same {ρ ρ' : Env} {r r' : Nat} {n n' : Int} (hn : n = n') (h : ∀ i, ntAt ρ r i = ntAt ρ' r' i) : ntRow ρ r n = ntRow ρ' r' n' := by
 subst hn
 unfold ntRow
 congr 1
 funext i
 exact h i
theorem wdRow_nil {ρ : Env} {r : Nat} {n : Int} (hn : n = 0) : wdRow ρ r n = [] := by subst hn; rfl
theorem ntRow_nil {ρ : Env} {r : Nat} {n : Int} (hn : n = 0) : ntRow ρ r n = [] := by subst hn; rfl
theorem dmRow_same {ρ ρ' : Env} {r r' : Nat} {o o' n n' : Int} (hn : n = n') (ho : o = o') (h : ∀ i, ntAt ρ r i = ntAt ρ' r' i) : dmRow ρ r o n = dmRow ρ' r' o' n' := by
 subst hn ho
 unfold dmRow
 congr 1
 funext i
 exact h _
theorem dmRow_nil {ρ : Env} {r : Nat} {o n : Int} (hn : n = 0) : dmRow ρ r o n = [] := by subst hn; rfl
theorem rW1 {a b : List Wd} (h : a = b := by first | exact wdRow_nil rfl | exact wdRow_same rfl fun i => by simp [mkW, -Int.pred_toNat, Sub.nenv, assoc, CV.I, CV.B, upsI, upsB, Seg.I, Seg.B, SC.I, SC.B, IE.den, BE.den] | assumption) : a = b := h
theorem rN1 {a b : List Nt} (h : a = b := by first | exact ntRow_nil rfl | exact ntRow_same rfl fun i => by simp [ntAt, mkW, -Int.pred_toNat, Sub.nenv, assoc, CV.I, CV.B, upsI, upsB, Seg.I, Seg.B, SC.I, SC.B, IE.den, BE.den] | assumption) : a = b := h
theorem rD1 {a b : List Nt} (h : a = b := by first | exact dmRow_nil rfl | exact dmRow_same rfl rfl fun i => by simp [ntAt, mkW, -Int.pred_toNat, Sub.nenv, assoc, CV.I, CV.B, upsI, upsB, Seg.I, Seg.B, SC.I, SC.B, IE.den, BE.den] | assumption) : a = b := h
theorem rH1 {a b : Nat → Wd} (h : ∀ i, a i = b i := by intro i; first | rfl | (simp [rsRd, mkW, -Int.pred_toNat, Sub.nenv, assoc, CV.I, CV.B, upsI, upsB, Seg.I, Seg.B, SC.I, SC.B, IE.den, BE.den]; done) | (simp [rsRd, mkW, -Int.pred_toNat, Sub.nenv, assoc, CV.I, CV.B, upsI, upsB, Seg.I, Seg.B, SC.I, SC.B, IE.den, BE.den]; rfl)) : ∀ i, a i = b i := h
theorem dmRow_zero {ρ : Env} {r : Nat} {n : Int} : dmRow ρ r 0 n = ntRow ρ r n := by
 unfold dmRow ntRow
 congr 1
 funext i
 simp
theorem dmRow_cons {ρ : Env} {r : Nat} {o n : Int} (h0 : 0 < n) (ho : 0 ≤ o) : dmRow ρ r o n = ntAt ρ r o.toNat :: dmRow ρ r (o + 1) (n - 1) := by
 unfold dmRow
 rw [show n.toNat = (n - 1).toNat + 1 by omega, List.range_succ_eq_map, List.map_cons, List.map_map, Nat.add_zero]
 congr 1
 congr 1
 funext i
 simp only [Function.comp]
 congr 1
 omega
theorem wdRow_len {ρ : Env} {r : Nat} {n : Int} : (wdRow ρ r n).length = n.toNat := by simp [wdRow]
theorem ntRow_len {ρ : Env} {r : Nat} {n : Int} : (ntRow ρ r n).length = n.toNat := by simp [ntRow]
theorem wdRow_push {ρ ρ' : Env} {r r' : Nat} {n n' : Int} {w : Wd} (h0 : 0 ≤ n) (hn : n' = n + 1) (h : ∀ i : Nat, (i : Int) < n → mkW (ρ'.ic r' i 0) (ρ'.bc r' i 0) = mkW (ρ.ic r i 0) (ρ.bc r i 0)) (hw : mkW (ρ'.ic r' n.toNat 0) (ρ'.bc r' n.toNat 0) = w) :
  wdRow ρ' r' n' = wdRow ρ r n ++ [w] := by
 subst hn hw
 unfold wdRow
 rw [show (n + 1).toNat = n.toNat + 1 by omega, List.range_succ, List.map_append]
 congr 1
 exact List.map_congr_left fun i hi => h i (by have := List.mem_range.1 hi; omega)
theorem ntRow_push {ρ ρ' : Env} {r r' : Nat} {n n' : Int} {w : Nt} (h0 : 0 ≤ n) (hn : n' = n + 1) (h : ∀ i : Nat, (i : Int) < n → ntAt ρ' r' i = ntAt ρ r i) (hw : ntAt ρ' r' n.toNat = w) :
  ntRow ρ' r' n' = ntRow ρ r n ++ [w] := by
 subst hn hw
 unfold ntRow
 rw [show (n + 1).toNat = n.toNat + 1 by omega, List.range_succ, List.map_append]
 congr 1
 exact List.map_congr_left fun i hi => h i (by have := List.mem_range.1 hi; omega)
theorem ntRow_cons {ρ : Env} {r : Nat} {n : Int} (h0 : 0 < n) : ntRow ρ r n = ntAt ρ r 0 :: (List.range (n - 1).toNat).map fun i => ntAt ρ r (i + 1) := by
 unfold ntRow
 rw [show n.toNat = (n - 1).toNat + 1 by omega, List.range_succ_eq_map, List.map_cons, List.map_map]
 rfl
theorem wd_eq' {a b : Wd} : a = b ↔ a.slot = b.slot ∧ a.gen = b.gen ∧ a.tag = b.tag ∧ a.num = b.num ∧ a.mark = b.mark := by
 cases a; cases b; simp
end Go.Proofs.YthomdlajobnmnaaDoor

set_option linter.unusedSimpArgs false
set_option linter.unusedVariables false
namespace Go.Proofs.YthomdlajobnmnaaDoor
open Go.Rex
section
variable {σ : Sub} {ρ q : Env} {m d i : Nat}
theorem cE_iv (h : i < m) : (conEnv σ m d ρ q).iv i = (σ.nenv ρ).iv i := if_pos h
theorem cE_bv (h : i < m) : (conEnv σ m d ρ q).bv i = (σ.nenv ρ).bv i := if_pos h
theorem cE_ic (h : i < m) : (conEnv σ m d ρ q).ic i = (σ.nenv ρ).ic i := if_pos h
theorem cE_bc (h : i < m) : (conEnv σ m d ρ q).bc i = (σ.nenv ρ).bc i := if_pos h
theorem ntAt_con0 (h : i < m) : ntAt (conEnv σ m d ρ q) i = ntAt (σ.nenv ρ) i := by
 funext k
 unfold ntAt
 rw [cE_ic h, cE_bc h]
theorem ntAt_con1 (k : Nat) : ntAt (conEnv σ m d ρ q) (m + k) = ntAt q (d + k) := by
 funext j
 unfold ntAt
 rw [con_ic, con_bc]
theorem rs_con0 (h : 71 ≤ m) : rsRd (conEnv σ m d ρ q) 0 4 = rsRd (σ.nenv ρ) 0 4 := by
 unfold rsRd caRd acRd rpRd wdRd wdRow ntRow dmRow
 simp (disch := omega) only [ntAt_con0, cE_iv, cE_bv, cE_ic, cE_bc]
theorem rs_con1 (h : 71 ≤ m) (hst : ∀ i, i < 4 → (σ.nenv ρ).iv i = q.iv i) : rsRd (conEnv σ m d ρ q) 0 m = rsRd q 0 d := by
 have h0 := (cE_iv (σ := σ) (ρ := ρ) (q := q) (d := d) (show 0 < m by omega)).trans (hst 0 (by omega))
 have h1 := (cE_iv (σ := σ) (ρ := ρ) (q := q) (d := d) (show 0 + 1 < m by omega)).trans (hst 1 (by omega))
 have h2 := (cE_iv (σ := σ) (ρ := ρ) (q := q) (d := d) (show 0 + 2 < m by omega)).trans (hst 2 (by omega))
 have h3 := (cE_iv (σ := σ) (ρ := ρ) (q := q) (d := d) (show 0 + 3 < m by omega)).trans (hst 3 (by omega))
 have z0 := con_iv (σ := σ) (ρ := ρ) (ρ' := q) (N := d) m 0
 have z1 := con_bv (σ := σ) (ρ := ρ) (ρ' := q) (N := d) m 0
 rw [Nat.add_zero, Nat.add_zero] at z0 z1
 unfold rsRd caRd acRd rpRd wdRd wdRow ntRow dmRow
 rw [h0, h1, h2, h3]
 simp only [ntAt_con1, Nat.add_assoc, Nat.reduceAdd, con_iv, con_bv, con_ic, con_bc, z0, z1]
theorem okSl_con0 (h : i + 2 < m) : OkSl (conEnv σ m d ρ q) i = OkSl (σ.nenv ρ) i := by
 unfold OkSl
 simp (disch := omega) only [cE_iv, cE_bv]
theorem okSl_con1 (k : Nat) : OkSl (conEnv σ m d ρ q) (m + k) = OkSl q (d + k) := by
 unfold OkSl
 simp only [Nat.add_assoc, con_iv, con_bv]
theorem okR_con0 (h : 71 ≤ m) : OkR (conEnv σ m d ρ q) 4 = OkR (σ.nenv ρ) 4 := by
 unfold OkR
 rw [okSl_con0 (by omega), okSl_con0 (by omega), okSl_con0 (by omega), cE_iv (by omega), cE_iv (by omega), cE_iv (by omega)]
theorem okR_con1 : OkR (conEnv σ m d ρ q) m = OkR q d := by
 unfold OkR
 rw [okSl_con1, okSl_con1, okSl_con1, con_iv, con_iv, con_iv]
end
section
variable {post : Env → Prop} {cs : CSem} {Γ : List (Env → Prop)} {ρ : Env}
theorem r_call {g nv : Nat} {σ : Sub} {k : Out} {c : Con} {pre pst : Env → Prop} (hg : cs[g]? = some (c, pre, pst)) (r : RS) (M : RS)
  (hm : 71 ≤ c.nv) (h4 : 4 ≤ nv) (hst : ∀ i, i < 4 → (σ.nenv ρ).iv i = ρ.iv i) (hpre : pre (σ.nenv ρ)) (hr : rsRd (σ.nenv ρ) 0 4 = r)
  (hpst : ∀ e : Env, pst (conEnv σ c.nv nv ρ (ρ.join nv e)) → rsRd (conEnv σ c.nv nv ρ (ρ.join nv e)) 0 4 = r → OkR (conEnv σ c.nv nv ρ (ρ.join nv e)) c.nv ∧ rsRd (conEnv σ c.nv nv ρ (ρ.join nv e)) 0 c.nv = M) (K : Env → Prop)
  (hK : ∀ e, OkR (ρ.join nv e) nv → rsRd (ρ.join nv e) 0 nv = M → K (ρ.join nv e)) (h : ∀ q, K q → Sat post cs Γ q k) : Sat post cs Γ ρ (.call g σ nv k) := by
 refine Sat.callK hg hpre K (fun e hq => ?_) h
 have hs : ∀ i, i < 4 → (σ.nenv ρ).iv i = (ρ.join nv e).iv i := fun i hi => by
  rw [hst i hi]
  exact (if_pos (show i < nv by omega)).symm
 obtain ⟨a, b⟩ := hpst e hq ((rs_con0 hm).trans hr)
 rw [okR_con1] at a
 rw [rs_con1 hm hs] at b
 exact hK e a b
end
theorem okNil {ρ : Env} {b : Nat} (h1 : ρ.iv (b + 1) = 0) (h2 : ρ.iv (b + 2) = 0) : OkSl ρ b := by
 refine ⟨fun _ => h1, ?_, ?_, ?_⟩ <;> omega
end Go.Proofs.YthomdlajobnmnaaDoor
