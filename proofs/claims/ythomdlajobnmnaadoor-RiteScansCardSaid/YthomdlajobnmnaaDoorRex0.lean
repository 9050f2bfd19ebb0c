/- Rex, part 0: a contract from calls that only take new memory. -/
import Derived.Test.YthomdlajobnmnaaDoorRexU
set_option linter.unusedSimpArgs false
set_option linter.unusedVariables false
namespace Go.Rex
theorem Wrt.alloc {w0 w : World} {W : Nat → Prop} (h : Wrt w0 W w) (o : Obj) : Wrt w0 W (w.alloc o) :=
 h.step rfl rfl rfl (by simp) fun k hk _ => heap_alloc_old w _ (Nat.lt_of_lt_of_le hk h.size)
theorem Wrt.set {w0 w : World} {W : Nat → Prop} (h : Wrt w0 W w) {a : Addr} {v : Value} (ha : w0.heap.size ≤ a.block) : Wrt w0 W (w.setCell a v) := by
 refine h.step rfl rfl rfl (by simp [World.setCell]) fun k hk _ => ?_
 simp only [World.setCell]
 rw [Array.getElem?_modify]
 rw [if_neg (by omega)]
theorem con_ext {P : Program} {k : Con} {pre post : Env → Prop} (hf : ∃ fn, P.funcs[k.f]? = some fn ∧ fn.body.isSome = true ∧ (fn.name == "runtime.NumGoroutine") = false) (hg : allGone k.hp' = true)
  (hrun : ∀ ρ ν w, HpOK ρ ν k.hp w → GlOK ν k.gl → pre ρ.num → Calls P k.f (k.args.map (·.den ρ ν)).toArray w fun e w' => e = .returned (k.ret.den ρ ν) ∧ Wrt w (fun _ => False) w') (hpost : ∀ ρ : Env, pre ρ.num → post ρ.num) : ConOK P k pre post := by
 refine ⟨hf, fun ρ ν w hhp hgl hpre => (hrun ρ ν w hhp hgl hpre).mono ?_⟩
 rintro e w' ⟨rfl, hw⟩
 have hd : ∀ (j : Nat) (sb : SB), k.hp'[j]? = some sb → sb.dead ρ = true := fun j sb hj => by
  unfold SB.dead
  rw [allGone_at hg hj]
  rfl
 refine ⟨ρ, ν, Agr.refl _ _ _ _, rfl, ⟨fun i j a b hi hj da => ?_, fun j sb hj dj => ?_, fun j sb hj dj => ?_⟩, ⟨hw.os, hw.tape, hw.output, hw.size, fun j hj _ => hw.block j hj id⟩, fun j sb hj _ dj => ?_, hpost ρ hpre⟩
 ·rw [hd i a hi] at da; cases da
 ·rw [hd j sb hj] at dj; cases dj
 ·rw [hd j sb hj] at dj; cases dj
 ·rw [hd j sb hj] at dj; cases dj
section
variable {H : Type} {enc : TypeId × Value → H} {P : Program} {W : World}
open Go.WideShapes Go.ChangeShapes Go.RowKit
def rtB (tT rt b o : Nat) : SB := { t := tT, cs := [.rt rt b o], ro := true }
def lawConR (err : TypeId) (ss : List (Nat × TypeId × TypeId)) (g : Nat) (X : SB) (f : FuncId) (sh : List (Bool × List FK)) : Con :=
 let m := mkC (sh.flatMap (·.2)) 0 (2 * ss.length + 1)
 { f := f, nv := m.2.2, gl := sentGl ss 0 ++ [(g, 2 * ss.length)], args := argsOf (sh.map fun s => (s.1, s.2.length)) m.1, hp := (sentHp err ss 0 ++ [X]) ++ m.2.1, nv' := m.2.2 + 1, ret := .w (.one (.bool (.var m.2.2))), hp' := ((sentHp err ss 0 ++ [X]) ++ m.2.1).map fun _ => goneSB }
def lawPostR (ss : List (Nat × TypeId × TypeId)) (sh : List (Bool × List FK)) (ρ : Env) : Prop := ρ.bv (mkC (sh.flatMap (·.2)) 0 (2 * ss.length + 1)).2.2 = true
theorem assoc_app {α : Type} {n : Nat} {a : α} : ∀ {l m : List (Nat × α)}, assoc n (l ++ m) = some a → assoc n l = some a ∨ assoc n m = some a
 | [], _, h => .inr h
 | (k, x) :: r, m, h => by
  simp only [List.cons_append, assoc] at h ⊢
  by_cases hk : (k == n) = true
  ·rw [if_pos hk] at h ⊢
   exact .inl h
  ·rw [if_neg hk] at h ⊢
   exact assoc_app h
theorem law_goalR (laid : laidOutB P = true) {f : FuncId} {fn : Func} {s : ChangeSpec} {apart fresh handsOn again : Bool} {sh : List (Bool × List FK)} {tb : TypeId} (hsh : shapesOf P fn.params.toList = some sh) (hread : allRead P fn.params.toList = true)
  (hvars : s.vars = []) (hres : fn.resultTypes = #[tb]) (hb : P.underlying tb = some .bool)
  (hspec : ∀ (H : Type) (ds : List (DataW H)), ds.length = fn.params.toList.length → (s.fn H ds).results = [.lit (.bool true)] ∧ (s.fn H ds).args = ds ∧ (s.fn H ds).vars = [])
  {err : TypeId} {ss : List (Nat × TypeId × TypeId)} {as : List Addr} (hsent : SentOK W ss as) (hnod : as.Nodup) (hsha : ∀ a ∈ as, ∃ c t, W.heap[a.block]? = some (.cells c t (0, 0))) (he5 : Nat.blt err 500000 = true) (hs6 : (ss.all fun x => Nat.blt x.1 1000000) = true) {g tT rt b o : Nat} (hg6 : Nat.blt g 1000000 = true) (htT : Nat.blt tT 500000 = true) (hg : W.cell? ⟨g, 0, none⟩ = some (.iface rt (.agg #[.pointer (some ⟨b, o, none⟩)])))
  (hcon : ConOK P (lawConR err ss g (rtB tT rt b o) f sh) (lawPre sh) (lawPostR ss sh)) {base : Nat} {args : Array Value} {ds gs : List (DataW H)} {before : List MemPlace}
  (hval : ∀ (j : Nat) t v, fn.params[j]? = some t → args[j]? = some v → Value.okWide P W .any base t v)
  (hW : DataW.Whole enc P fn.params.toList s.vars apart W args.toList ds gs before) :
  Calls P f args W fun e W' => ∃ v, e = .returned v ∧ s.post enc P fn apart fresh handsOn again W args v W' := by
 have hW' := hW
 obtain ⟨p, q, hA, hV, rfl, hfz, hnd⟩ := hW
 rw [hvars] at hV
 obtain ⟨rfl, rfl⟩ := trodVars_none hV
 obtain ⟨h1, h2, h3, h4, h5⟩ := params_ok hsh hA (fun j t v hj hv => hval j t v (by simpa using hj) (by simpa using hv))
 obtain ⟨ρ, ν, hagr, hden, hblk0, hpre⟩ := mkC_ok h1 h5 0 (2 * ss.length + 1) {} (fun j => if j < 2 * ss.length then sentNu ss as j else ⟨g, 0, none⟩)
 obtain ⟨hs1, hs2⟩ := sent_ok (ρ := ρ) (ν := ν) (err := err) (k := 0) hsent he5 hsha fun j hj => by
  rw [Nat.zero_add, hagr.bl j (by omega)]
  simp [hj]
 have hνg : ν (2 * ss.length) = ⟨g, 0, none⟩ := by
  rw [hagr.bl _ (by omega)]
  simp
 have hblk : ∀ (i : Nat) (sb : SB), (lawConR err ss g (rtB tT rt b o) f sh).hp[i]? = some sb → BlkOK ρ ν W i sb := fun i sb hi => by
  have hi : ((sentHp err ss 0 ++ [rtB tT rt b o]) ++ (mkC (sh.flatMap (·.2)) 0 (2 * ss.length + 1)).2.1)[i]? = some sb := hi
  rw [List.getElem?_append] at hi
  split at hi
  ·rw [List.getElem?_append] at hi
   split at hi
   ·have := hs1 i sb hi
    rwa [Nat.zero_add] at this
   ·rename_i hlt1 hlt
    rw [List.length_append, sentHp_len, List.length_singleton] at hlt1
    rw [sentHp_len] at hlt hi
    have hii : i = 2 * ss.length := by omega
    subst hii
    rw [Nat.sub_self] at hi
    simp at hi
    subst hi
    refine ⟨⟨rfl, rfl⟩, fun _ => ⟨⟨by rw [hνg]; exact cell_lt hg, fun _ h => absurd h (by simp only [Nat.blt_eq] at htT; simp [rtB, Nat.not_le.2 htT])⟩, #[.iface rt (.agg #[.pointer (some ⟨b, o, none⟩)])], has_one fun _ => rfl, fun p v' hp => ?_⟩⟩
    cases p with
    | zero =>
     simp at hp
     subst hp
     rw [hνg]
     exact hg
    | succ p => simp at hp
  ·rename_i hlt
   have := hblk0 _ sb hi
   rw [List.length_append, sentHp_len, List.length_singleton] at hlt this
   rwa [show 2 * ss.length + 1 + (i - (2 * ss.length + 1)) = i by omega] at this
 have hargs : ((lawConR err ss g (rtB tT rt b o) f sh).args.map (·.den ρ ν)).toArray = args := by
  have := argsOf_den (vs := args.toList) (sh := sh.map fun s => (s.1, s.2.length)) (by simpa using h2) h4 hden
  show ((argsOf (sh.map fun s => (s.1, s.2.length)) (mkC (sh.flatMap (·.2)) 0 (2 * ss.length + 1)).1).map (·.den ρ ν)).toArray = args
  rw [this]
 have hhp : HpOK ρ ν (lawConR err ss g (rtB tT rt b o) f sh).hp W := by
  refine ⟨fun i j a b hi hj ga gb ra he => ?_, fun k sb hk hg hr => ?_, fun k sb hk hg hr => ?_⟩
  ·have := (hblk i a hi).1.1
   rw [ra] at this; cases this
  ·have := (hblk k sb hk).1.1
   rw [hr] at this; cases this
  ·have := (hblk k sb hk).2 hg
   exact this
 have only : ∀ y n, Nat.blt y 1000000 = false → assoc y (sentGl ss 0 ++ [(g, 2 * ss.length)]) = some n → assoc y (sentGl ss 0) = some n := by
  intro y n hy hm
  rcases assoc_app hm with h | h
  ·exact h
  ·simp only [assoc] at h
   split at h
   ·rename_i hk
    simp only [beq_iff_eq] at hk
    subst hk
    rw [hg6] at hy; cases hy
   ·cases h
 have hat : ∀ y n, Nat.blt y 1000000 = true → assoc y (sentGl ss 0 ++ [(g, 2 * ss.length)]) = some n → ν n = ⟨y, 0, none⟩ := by
  intro g' m h6 hm
  rcases assoc_app hm with h | h
  ·exact hs2 g' m h6 h
  ·simp only [assoc] at h
   split at h
   ·rename_i hk
    simp at hk h
    subst hk h
    exact hνg
   ·cases h
 have hgl : GlOK ν (lawConR err ss g (rtB tT rt b o) f sh).gl := ⟨hat, fun x x' m m' h1 h2 h3 h4 hne => sent_ne (k := 0) hsent hs6 (fun j hj => by
     rw [Nat.zero_add, hagr.bl j (by omega)]
     simp [hj]) hnod x x' m m' h1 h2 (only x m h1 h3) (only x' m' h2 h4) hne⟩
 have hc := hcon.run ρ ν W hhp hgl (preC_num hpre)
 rw [hargs] at hc
 refine hc.mono fun e W' he => ?_
 obtain ⟨ρ', ν', -, rfl, -, hwrt, -, hpost⟩ := he
 have hbelow : Below W.heap.size W W' := by
  refine ⟨hwrt.os, hwrt.tape, hwrt.output, hwrt.size, fun k hk => hwrt.block k hk ?_⟩
  rintro ⟨j, sb, hj, ho, -, -⟩
  have := (hblk j sb hj).1.2
  rw [ho] at this; cases this
 have hret : (lawConR err ss g (rtB tT rt b o) f sh).ret.den ρ' ν' = .bool true := by
  have : ρ'.bv (mkC (sh.flatMap (·.2)) 0 (2 * ss.length + 1)).2.2 = true := hpost
  simp [lawConR, SV.den, SW.den, SC.den, BE.den, this]
 rw [hret]
 obtain ⟨s1, s2, s3⟩ := hspec H ds h3
 have hlt : ∀ x ∈ p, x.block < W.heap.size := fun x hx => hW'.lt x (List.mem_append_left _ hx)
 refine ⟨_, rfl, post_below (pa := p) (pv := []) hW' (fun b sp hd => ?_) (fun sp hsp => ?_) (fun sp _ => ?_) rfl hbelow ?_⟩
 ·rw [List.append_nil, s1, hres]
  exact trodAll_mk1 ⟨1, by simp [DataW.trod, hb, Value.cells]⟩
 ·rw [List.append_nil, s2]
  exact trodAll_stays laid hread hA (fun x hx => hbelow.same (hlt x hx)) (fun x hx => hsp x (List.mem_append_left _ hx))
 ·rw [List.append_nil, s3, hvars]
  rfl
 ·exact ok_one hres rfl (okWide_bool_mk hb true)
end
/-! ### a contract's variables -/
section
variable {σ : Sub} {ρ ρ' : Env} {N : Nat}
theorem con_iv (m k : Nat) : (conEnv σ m N ρ ρ').iv (m + k) = ρ'.iv (N + k) := by
 show (if m + k < m then (σ.nenv ρ).iv (m + k) else ρ'.iv (m + k - m + N)) = _
 rw [if_neg (by omega), show m + k - m + N = N + k by omega]
theorem con_bv (m k : Nat) : (conEnv σ m N ρ ρ').bv (m + k) = ρ'.bv (N + k) := by
 show (if m + k < m then (σ.nenv ρ).bv (m + k) else ρ'.bv (m + k - m + N)) = _
 rw [if_neg (by omega), show m + k - m + N = N + k by omega]
theorem con_ic (m k : Nat) : (conEnv σ m N ρ ρ').ic (m + k) = ρ'.ic (N + k) := by
 show (if m + k < m then (σ.nenv ρ).ic (m + k) else ρ'.ic (m + k - m + N)) = _
 rw [if_neg (by omega), show m + k - m + N = N + k by omega]
theorem con_bc (m k : Nat) : (conEnv σ m N ρ ρ').bc (m + k) = ρ'.bc (N + k) := by
 show (if m + k < m then (σ.nenv ρ).bc (m + k) else ρ'.bc (m + k - m + N)) = _
 rw [if_neg (by omega), show m + k - m + N = N + k by omega]
end
end Go.Rex
