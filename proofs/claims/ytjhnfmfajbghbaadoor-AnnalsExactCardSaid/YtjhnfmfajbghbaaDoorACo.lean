/- woe.Code of an error that is wrapped once -/
import Derived.Test.YtjhnfmfajbghbaaDoorAEv
import Derived.Test.YtjhnfmfajbghbaaDoorRexZ0
import Derived.Tactics
import Derived.Tactics2
import Derived.Deep.LoopGhost
import Derived.Defers
import Derived.Recover
import Derived.Test.YtjhnfmfajbghbaaDoorASp
set_option linter.unusedSimpArgs false
set_option linter.unusedVariables false
set_option linter.unusedSimpArgs false
set_option linter.unusedVariables false
namespace Go.Proofs.YtjhnfmfajbghbaaDoor
open Go.RowKit Go.Extern.Stop Go.Stop Go.Extern Go.Rex
/-- an error that is wrapped at places, the outermost first -/
def IsCh (w : World) (base : Value) : List Int → Value → Prop
  | [], v => v = base
  | n :: ps, v => ∃ (b : Nat) (u : Value), v = .iface 71 (.pointer (some ⟨b, 0, none⟩)) ∧ w.cell? ⟨b, 0, none⟩ = some (.int .i64 n) ∧ w.cell? ⟨b, 1, none⟩ = some u ∧ IsCh w base ps u
/-- a sentinel: a block of its own -/
def IsSen (w : World) (b : Addr) : Prop := ∃ c t, w.heap[b.block]? = some (.cells c t (0, 0))
theorem noIsS (v : Value) (xT : TypeId) (w : World) : (Instr.typeAssert (.iface 85 v) xT 77 true).run Tryd.prog w = .ok (.tuple #[.nilIface, .bool false]) w := run_typeAssert_lacksB Tryd.underlying77 (by kernel_rfl) (by kernel_rfl) v xT w
theorem noUnS (v : Value) (xT : TypeId) (w : World) : (Instr.typeAssert (.iface 85 v) xT 80 true).run Tryd.prog w = .ok (.tuple #[.nilIface, .bool false]) w := run_typeAssert_lacksB Tryd.underlying80 (by kernel_rfl) (by kernel_rfl) v xT w
theorem noUnsS (v : Value) (xT : TypeId) (w : World) : (Instr.typeAssert (.iface 85 v) xT 82 true).run Tryd.prog w = .ok (.tuple #[.nilIface, .bool false]) w := run_typeAssert_lacksB Tryd.underlying82 (by kernel_rfl) (by kernel_rfl) v xT w
theorem IsCh.if {w : World} {T : TypeId} {x : Value} {ps : List Int} {v : Value} (h : IsCh w (.iface T x) ps v) : ∃ T y, v = .iface T y := by
  cases ps with
  | nil => exact ⟨_, _, h⟩
  | cons n ps =>
    obtain ⟨b, u, h, -⟩ := h
    exact ⟨_, _, h⟩
/-- errors.Is of a chain over a sentinel -/
theorem is_ch (ps : List Int) (v : Value) (x t : Addr) (w : World) (hv : IsCh w (.iface 85 (.pointer (some x))) ps v) (hx : IsSen w x) (ht : IsSen w t) :
    Calls Tryd.prog 21 #[v, .iface 85 (.pointer (some t))] w fun e w' => e = .returned (.bool (decide (x = t))) ∧ w' = w := by
  obtain ⟨i, hi, hcmp⟩ := Option.map_eq_some_iff.1 isComp
  obtain ⟨j, hj, hjs⟩ := Option.map_eq_some_iff.1 isSize
  have h8 := @run_callFunc_extern Tryd.prog 30 _ Extern.ReflectliteType.typeOf Tryd.func30 (by kernel_rfl) (by kernel_rfl) (by kernel_rfl) (by kernel_rfl)
  have h32 := @run_callFunc_extern Tryd.prog 53 _ cmpM Tryd.func53 (by kernel_rfl) (by kernel_rfl) (by kernel_rfl) (by kernel_rfl)
  have tT := isTypeOf
  have cT := isComparable
  have mR := isMethodComparable
  have nW := noIsW
  have uW := hasUnwrapW
  have mU := methodUnwrap
  have nS := noIsS
  have uS := noUnS
  have usS := noUnsS
  have hsame := run_eql_iface_ptr_same (P := Tryd.prog) w t Tryd.underlying26 Tryd.underlying85 hi hcmp hj
  have hty : ∀ a : Addr, (binOp .eql 26 (.iface 71 (.pointer (some a))) (.iface 85 (.pointer (some t)))).run Tryd.prog w = .ok (.bool false) w := fun a => run_eql_iface_types (P := Tryd.prog) 71 85 (.pointer (some a)) (.pointer (some t)) Tryd.underlying26 (by decide) w
  have hoth : x ≠ t → (binOp .eql 26 (.iface 85 (.pointer (some x))) (.iface 85 (.pointer (some t)))).run Tryd.prog w = .ok (.bool false) w := fun hne => by
    obtain ⟨cx, tx, h1⟩ := hx
    obtain ⟨ct, tt, h2⟩ := ht
    exact run_eql_iface_ptr_other (P := Tryd.prog) w Tryd.underlying26 Tryd.underlying85 hi hcmp hj (by rw [hjs]; decide) hne h1 h2
  obtain ⟨T, y, rfl⟩ := hv.if
  clear hx ht
  go_enter Tryd.func21, Tryd.ntmps21
  go_wp2
  go_loopg [0] ps.length (fun k v wr => w = wr ∧ ∃ qs, qs.length = k ∧ IsCh w (.iface 85 (.pointer (some x))) qs v)
  case atStart => exact ⟨rfl, ps, rfl, hv⟩
  case round =>
    obtain ⟨rfl, qs, hk, hq⟩ := hrel
    clear hv
    cases qs with
    | nil =>
      have hq : _ = _ := hq
      subst hq
      by_cases hxt : x = t
      · subst hxt
        go_wp2
        go_ret
        simp
      · have ho := hoth hxt
        go_wp2
        go_ret
        simp [hxt]
    | cons n qs =>
      obtain ⟨b, u, rfl, h1, h2, h3⟩ := hq
      obtain ⟨T, y, rfl⟩ := h3.if
      clear hoth hsame
      have A : Aside ((n :: qs).length = gk ∧ IsCh w (.iface 85 (.pointer (some x))) qs (.iface T y)) := ⟨hk, h3⟩
      clear hk h3
      go_wp2
      obtain ⟨hk, h3⟩ := A.out
      go_roundg qs.length
      case measure => simp at hk; omega
      case rel => exact ⟨rfl, qs, rfl, h3⟩
/-- new memory at most -/
abbrev Nw (w w' : World) : Prop := Wrt w (fun _ => False) w'
theorem Nw.trans {a b c : World} (h1 : Nw a b) (h2 : Nw b c) : Nw a c :=
  h1.step h2.os h2.tape h2.output h2.size fun k hk hn => h2.block k (Nat.lt_of_lt_of_le hk h1.size) hn
theorem cell_lt {w : World} {b o : Nat} {x : Value} (h : w.cell? ⟨b, o, none⟩ = some x) : b < w.heap.size := World.block_lt_of_cell? _ _ h
theorem Nw.cell {w w' : World} (h : Nw w w') {b o : Nat} {x : Value} (hc : w.cell? ⟨b, o, none⟩ = some x) : w'.cell? ⟨b, o, none⟩ = some x := by
  rw [← hc]
  unfold World.cell?
  rw [h.block _ (cell_lt hc) id]
theorem Nw.ch {w w' : World} (h : Nw w w') {base : Value} : ∀ {ps : List Int} {v : Value}, IsCh w base ps v → IsCh w' base ps v
  | [], _, hv => hv
  | _ :: _, _, ⟨b, u, h1, h2, h3, h4⟩ => ⟨b, u, h1, h.cell h2, h.cell h3, h.ch h4⟩
theorem Nw.sen {w w' : World} (h : Nw w w') {b : Addr} (hb : IsSen w b) : IsSen w' b := by
  obtain ⟨x, t, hx⟩ := hb
  refine ⟨x, t, ?_⟩
  rw [h.block b.block ?_ id, hx]
  rcases Nat.lt_or_ge b.block w.heap.size with h | h
  · exact h
  · rw [Array.getElem?_eq_none h] at hx
    cases hx
theorem is_idle (p : Addr) (w : World) : CallsD Tryd.prog 32 #[.pointer (some p)] .returning w fun e u' w' => e = .returned (.tuple #[]) ∧ u' = .returning ∧ w' = w := by
  refine callsD_of_wpS Tryd.func32 rfl fun c₀ cs hu => ?_
  apply wpS_seq
  apply wpS_region
  simp [wpOpsS, go_sem, recoverD, hu, Tryd.ntmps32, Exit.thenS]
  refine wpS_cond (t := false) (by simp [Act.eval, Array.replicate]) ?_
  simp only [Bool.false_eq_true, if_false]
  refine wpS_of_wp (wp_skip ?_)
  cases c₀
  simp_all [bodyPostS, results, Tryd.results32]
set_option maxHeartbeats 4000000 in
theorem wis_walk (ps : List Int) (v : Value) (x t : Addr) (w : World) (hv : IsCh w (.iface 85 (.pointer (some x))) ps v) (hx : IsSen w x) (ht : IsSen w t) :
    Calls Tryd.prog 28 #[v, .iface 85 (.pointer (some t))] w fun e w' => e = .returned (.bool (decide (x = t))) ∧ Nw w w' := by
  have hmf : ∀ (fn : Fn) (first cap : Array Value) (w : World), (Instr.makeFunc fn first cap).run Tryd.prog w = .ok (.func fn first cap) w := fun _ _ _ _ => rfl
  have hn : Nw w (w.alloc (.cells #[.bool false] 4)) := (Wrt.refl w _).alloc _
  have htA : (w.alloc (.cells #[.bool false] 4)).cell? ⟨w.heap.size, 0, none⟩ = some (.bool false) := by simp
  have hfA : (w.alloc (.cells #[.bool false] 4)).frozen? ⟨w.heap.size, 0, none⟩ = false := by simp
  have has := is_ch ps v x t _ (hn.ch hv) (hn.sen hx) (hn.sen ht)
  obtain ⟨T, y, rfl⟩ := hv.if
  have hset : ∀ c : Bool, Nw w ((w.alloc (.cells #[.bool false] 4)).setCell ⟨w.heap.size, 0, none⟩ (.bool c)) := fun c => hn.set (Nat.le_refl _)
  have hcell : ∀ c : Bool, ((w.alloc (.cells #[.bool false] 4)).setCell ⟨w.heap.size, 0, none⟩ (.bool c)).cell? ⟨w.heap.size, 0, none⟩ = some (.bool c) := fun c => World.cell?_setCell_same _ _ _ htA
  clear hv hx ht
  go_enter_defers Tryd.func28, Tryd.ntmps28
  go_wp2_with (go_at_call 21; refine has.mono ?_; rintro ev w' ⟨rfl, rfl⟩)
  refine leaves_cons (f := 32) (args := #[.pointer (some ⟨w.heap.size, 0, none⟩)]) (by simp) (by simp [go_sem]) ?_
  refine (is_idle ⟨w.heap.size, 0, none⟩ _).mono ?_
  rintro e' u' w'' ⟨rfl, rfl, rfl⟩
  simp [Leaves, settle, results, Tryd.results28, go_sem, hcell]
  exact (Wrt.refl w _).alloc _
/-- the first five errors by number: where they lie -/
structure Sen5 (w : World) (S : Nat → Addr) : Prop where
  c0 : w.cell? ⟨0, 0, none⟩ = some (.iface 85 (.pointer (some (S 0))))
  c1 : w.cell? ⟨2, 0, none⟩ = some (.iface 85 (.pointer (some (S 1))))
  c2 : w.cell? ⟨3, 0, none⟩ = some (.iface 85 (.pointer (some (S 2))))
  c3 : w.cell? ⟨4, 0, none⟩ = some (.iface 85 (.pointer (some (S 3))))
  c4 : w.cell? ⟨1, 0, none⟩ = some (.iface 85 (.pointer (some (S 4))))
  sen : ∀ k, k < 5 → IsSen w (S k)
theorem Sen5.nw {w w' : World} {S : Nat → Addr} (h : Sen5 w S) (hn : Nw w w') : Sen5 w' S := ⟨hn.cell h.c0, hn.cell h.c1, hn.cell h.c2, hn.cell h.c3, hn.cell h.c4, fun k hk => hn.sen (h.sen k hk)⟩
theorem of5 (k : Nat) (hk : k < 5) (S : Nat → Addr) (w : World) (hS : Sen5 w S) : Calls Tryd.prog 29 #[.int .i64 ((k : Int) + 1)] w fun e w' => e = .returned (.iface 85 (.pointer (some (S k)))) ∧ w' = w := by
  have h0 := hS.c0
  have h1 := hS.c1
  have h2 := hS.c2
  have h3 := hS.c3
  have h4 := hS.c4
  clear hS
  match k, hk with
  | 0, _ =>
    go_enter Tryd.func29, Tryd.ntmps29
    go_wp2
    go_ret
    exact ⟨rfl, rfl⟩
  | 1, _ =>
    go_enter Tryd.func29, Tryd.ntmps29
    go_wp2
    go_ret
    exact ⟨rfl, rfl⟩
  | 2, _ =>
    go_enter Tryd.func29, Tryd.ntmps29
    go_wp2
    go_ret
    exact ⟨rfl, rfl⟩
  | 3, _ =>
    go_enter Tryd.func29, Tryd.ntmps29
    go_wp2
    go_ret
    exact ⟨rfl, rfl⟩
  | 4, _ =>
    go_enter Tryd.func29, Tryd.ntmps29
    go_wp2
    go_ret
    exact ⟨rfl, rfl⟩
set_option maxHeartbeats 1000000 in
theorem code5 (j : Nat) (hj : j < 5) (v : Value) (ps : List Int) (S : Nat → Addr) (w : World) (hS : Sen5 w S) (hone : ∀ i, i < j → S j ≠ S i) (hv : IsCh w (.iface 85 (.pointer (some (S j)))) ps v) :
    Calls Tryd.prog 20 #[v] w fun e w' => e = .returned (.int .i64 ((j : Int) + 1)) ∧ Nw w w' := by
  obtain ⟨T, y, rfl⟩ := hv.if
  have A0 : Aside (j < 5 ∧ Sen5 w S ∧ (∀ i, i < j → S j ≠ S i) ∧ IsCh w (.iface 85 (.pointer (some (S j)))) ps (.iface T y)) := ⟨hj, hS, hone, hv⟩
  clear hj hS hone hv
  go_enter Tryd.func20, Tryd.ntmps20
  go_wp2
  go_loopg [3] j (fun k v wr => ∃ n : Nat, v = .int .i64 ((n : Int) + 1) ∧ n + k = j ∧ Nw w wr)
  case atStart => exact ⟨0, rfl, by omega, Wrt.refl w _⟩
  case round =>
    obtain ⟨n, rfl, hnk, hnw⟩ := hrel
    have hj := A0.out.1
    have hle : (n : Int) + 1 ≤ 11 := by omega
    have hof := of5 n (by omega) S wr (A0.out.2.1.nw hnw)
    have hwis := wis_walk ps _ (S j) (S n) wr (hnw.ch A0.out.2.2.2) (hnw.sen (A0.out.2.1.sen j hj)) (hnw.sen (A0.out.2.1.sen n (by omega)))
    have A : Aside (n + gk = j ∧ Nw w wr) := ⟨hnk, hnw⟩
    rcases Nat.lt_or_ge n j with hlt | hge
    · have hne : ¬ S j = S n := A0.out.2.2.1 n hlt
      rw [decide_eq_false hne] at hwis
      have AL : Aside (n < j) := hlt
      clear hnk hnw hj hne hlt
      go_wp2_with first
        | (go_at_call 29; refine hof.mono ?_; rintro ev w' ⟨rfl, rfl⟩)
        | (go_at_call 28; refine hwis.mono ?_; rintro ev w'' ⟨rfl, hw⟩)
      obtain ⟨q1, q2⟩ := A.out
      have q3 := AL.out
      go_roundg (gk - 1)
      case measure => omega
      case rel => exact ⟨n + 1, by go_num, by omega, q2.trans hw⟩
    · have hnj : n = j := by omega
      subst hnj
      rw [decide_eq_true rfl] at hwis
      clear hnk hnw hj hge
      go_wp2_with first
        | (go_at_call 29; refine hof.mono ?_; rintro ev w' ⟨rfl, rfl⟩)
        | (go_at_call 28; refine hwis.mono ?_; rintro ev w'' ⟨rfl, hw⟩)
      go_ret
      exact ⟨rfl, A.out.2.trans hw⟩
end Go.Proofs.YtjhnfmfajbghbaaDoor

set_option linter.unusedSimpArgs false
set_option linter.unusedVariables false
namespace Go.Proofs.YtjhnfmfajbghbaaDoor
open Go.RowKit Go.Extern.Stop Go.Stop Go.Extern Go.Rex
/-- where the error with number k + 1 lies -/
def sblk (k : Nat) : Nat := [1, 5, 7, 9, 3].getD k 1
theorem sen5_of {ρ : Env} {ν : Nat → Addr} {w : World} {T : SB} (hhp : HpOK ρ ν (sentHp 26 ss5 0 ++ [T]) w) (hgl : GlOK ν (sentGl ss5 0)) : Sen5 w fun k => ν (sblk k) := by
  have cell : ∀ g k, (sentHp 26 ss5 0 ++ [T])[k]? = some { t := 26, cs := [.iface 85 (.ptr { blk := k + 1 })], ro := true } → ν k = ⟨g, 0, none⟩ → w.cell? ⟨g, 0, none⟩ = some (.iface 85 (.pointer (some (ν (k + 1))))) := by
    intro g k hk hg
    obtain ⟨-, cs, hcs, hrd⟩ := hhp.rd k _ hk rfl rfl
    have h1 := hrd 0 _ (hcs.ex 0 _ rfl rfl)
    have e1 : SA.den ρ ν { blk := k + 1 } = ν (k + 1) := by simp [SA.den, SA.off, IE.den, Addr.add_zero]
    rw [Addr.add_zero, hg] at h1
    have h1 : w.cell? ⟨g, 0, none⟩ = some (.iface 85 (.pointer (some (SA.den ρ ν { blk := k + 1 })))) := h1
    rwa [e1] at h1
  refine ⟨cell 0 0 rfl (hgl.at_ 0 0 rfl rfl), cell 2 4 rfl (hgl.at_ 2 4 rfl rfl), cell 3 6 rfl (hgl.at_ 3 6 rfl rfl), cell 4 8 rfl (hgl.at_ 4 8 rfl rfl), cell 1 2 rfl (hgl.at_ 1 2 rfl rfl), fun k hk => ?_⟩
  match k, hk with
  | 0, _ => exact (hhp.rd 1 _ rfl rfl rfl).1.2 rfl rfl
  | 1, _ => exact (hhp.rd 5 _ rfl rfl rfl).1.2 rfl rfl
  | 2, _ => exact (hhp.rd 7 _ rfl rfl rfl).1.2 rfl rfl
  | 3, _ => exact (hhp.rd 9 _ rfl rfl rfl).1.2 rfl rfl
  | 4, _ => exact (hhp.rd 3 _ rfl rfl rfl).1.2 rfl rfl
theorem sen5_ne {ν : Nat → Addr} (hgl : GlOK ν (sentGl ss5 0)) (j : Nat) (hj : j < 5) (i : Nat) (hi : i < j) : ν (sblk j) ≠ ν (sblk i) := by
  have h : ∀ k, k < 5 → ∃ g, Nat.blt g 1000000 = false ∧ assoc g (sentGl ss5 0) = some (sblk k) ∧ g = 1000000 + [0, 2, 3, 4, 1].getD k 0 := by
    intro k hk
    match k, hk with
    | 0, _ => exact ⟨1000000, rfl, rfl, rfl⟩
    | 1, _ => exact ⟨1000002, rfl, rfl, rfl⟩
    | 2, _ => exact ⟨1000003, rfl, rfl, rfl⟩
    | 3, _ => exact ⟨1000004, rfl, rfl, rfl⟩
    | 4, _ => exact ⟨1000001, rfl, rfl, rfl⟩
  obtain ⟨g, h1, h2, h3⟩ := h j hj
  obtain ⟨g', h1', h2', h3'⟩ := h i (by omega)
  refine hgl.ne g g' _ _ h1 h1' h2 h2' ?_
  rw [h3, h3']
  match j, hj, i, hi with
  | 1, _, 0, _ => decide
  | 2, _, 0, _ => decide
  | 2, _, 1, _ => decide
  | 3, _, 0, _ => decide
  | 3, _, 1, _ => decide
  | 3, _, 2, _ => decide
  | 4, _, 0, _ => decide
  | 4, _, 1, _ => decide
  | 4, _, 2, _ => decide
  | 4, _, 3, _ => decide
theorem code_con (j : Nat) (hj : j < 5) : ConOK Tryd.prog (codeCon (sblk j) ((j : Int) + 1)) yesPre yesPre := by
  refine con_ext ⟨_, Tryd.func20, by kernel_rfl, by kernel_rfl⟩ rfl (fun ρ ν w hhp hgl _ => ?_) fun _ _ => trivial
  have hS := sen5_of hhp hgl
  obtain ⟨he, -⟩ := hhp.blk 10 _ rfl rfl rfl
  obtain ⟨cs, hcs, hrd⟩ := hhp.cells (k := 10) rfl rfl (fun _ => rfl)
  have h0 := hrd 0 _ (hcs.ex 0 _ rfl rfl)
  have h1 := hrd 1 _ (hcs.ex 1 _ rfl rfl)
  have eb : SA.den ρ ν { blk := sblk j } = ν (sblk j) := by simp [SA.den, SA.off, IE.den, Addr.add_zero]
  have e10 : SA.den ρ ν { blk := 10 } = ν 10 := by simp [SA.den, SA.off, IE.den, Addr.add_zero]
  have hc : IsCh w (.iface 85 (.pointer (some (ν (sblk j))))) [ρ.iv 0] (.iface 71 (.pointer (some (ν 10)))) := by
    refine ⟨(ν 10).block, .iface 85 (.pointer (some (ν (sblk j)))), by rw [← he], ?_, ?_, rfl⟩
    · rw [← he]
      rw [Addr.add_zero] at h0
      exact h0
    · have h1 : w.cell? ((ν 10).add 1) = some (.iface 85 (.pointer (some (SA.den ρ ν { blk := sblk j })))) := h1
      rw [eb, he] at h1
      exact h1
  have := code5 j hj _ _ _ w hS (fun i hi => sen5_ne hgl j hj i hi) hc
  show Calls Tryd.prog 20 #[.iface 71 (.pointer (some (SA.den ρ ν { blk := 10 })))] w _
  rw [e10]
  exact this
theorem self_con : ConOK Tryd.prog selfCon yesPre yesPre := by
  refine con_pure ⟨_, Tryd.func21, by kernel_rfl, by kernel_rfl⟩ rfl (fun ρ ν w hhp _ _ => ?_) fun _ _ => trivial
  have hs : IsSen w (ν 0) := (hhp.rd 0 _ rfl rfl rfl).1.2 rfl rfl
  have e0 : SA.den ρ ν { blk := 0 } = ν 0 := by simp [SA.den, SA.off, IE.den, Addr.add_zero]
  have := is_ch [] (.iface 85 (.pointer (some (ν 0)))) (ν 0) (ν 0) w rfl hs hs
  show Calls Tryd.prog 21 #[.iface 85 (.pointer (some (SA.den ρ ν { blk := 0 }))), .iface 85 (.pointer (some (SA.den ρ ν { blk := 0 })))] w _
  rw [e0]
  refine this.mono fun e w' h => ⟨h.1.trans ?_, h.2⟩
  simp [selfCon, SV.den, SW.den, SC.den, BE.den]
end Go.Proofs.YtjhnfmfajbghbaaDoor
