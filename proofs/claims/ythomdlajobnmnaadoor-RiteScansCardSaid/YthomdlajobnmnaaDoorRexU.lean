/- Rex, part U: a contract from calls that leave the world alone; a law's row where variables hold sentinels. -/
import Derived.Test.YthomdlajobnmnaaDoorRexT
set_option linter.unusedSimpArgs false
set_option linter.unusedVariables false
namespace Go.Rex
open Go.WideShapes Go.ChangeShapes Go.RowKit

def allGone : List SB → Bool
 | [] => true
 | b :: r => b.gone && allGone r
theorem allGone_at : ∀ {l : List SB} {k : Nat} {sb : SB}, allGone l = true → l[k]? = some sb → sb.gone = true
 | b :: r, 0, sb, h, hk => by
  simp only [allGone, Bool.and_eq_true] at h
  simp at hk
  subst hk
  exact h.1
 | b :: r, k + 1, sb, h, hk => by
  simp only [allGone, Bool.and_eq_true] at h
  exact allGone_at h.2 (by simpa using hk)
theorem con_pure {P : Program} {k : Con} {pre post : Env → Prop} (hf : ∃ fn, P.funcs[k.f]? = some fn ∧ fn.body.isSome = true ∧ (fn.name == "runtime.NumGoroutine") = false) (hg : allGone k.hp' = true)
  (hrun : ∀ ρ ν w, HpOK ρ ν k.hp w → GlOK ν k.gl → pre ρ.num → Calls P k.f (k.args.map (·.den ρ ν)).toArray w fun e w' => e = .returned (k.ret.den ρ ν) ∧ w' = w) (hpost : ∀ ρ : Env, pre ρ.num → post ρ.num) : ConOK P k pre post := by
 refine ⟨hf, fun ρ ν w hhp hgl hpre => (hrun ρ ν w hhp hgl hpre).mono ?_⟩
 rintro e w' ⟨rfl, rfl⟩
 have hd : ∀ (j : Nat) (sb : SB), k.hp'[j]? = some sb → sb.dead ρ = true := fun j sb hj => by
  unfold SB.dead
  rw [allGone_at hg hj]
  rfl
 refine ⟨ρ, ν, Agr.refl _ _ _ _, rfl, ⟨fun i j a b hi hj da => ?_, fun j sb hj dj => ?_, fun j sb hj dj => ?_⟩, Wrt.refl _ _, fun j sb hj _ dj => ?_, hpost ρ hpre⟩
 ·rw [hd i a hi] at da; cases da
 ·rw [hd j sb hj] at dj; cases dj
 ·rw [hd j sb hj] at dj; cases dj
 ·rw [hd j sb hj] at dj; cases dj
/-! ### variables that hold sentinels: (the variable's number, the pointer's type, what it points to) -/
def sentHp (err : TypeId) : List (Nat × TypeId × TypeId) → Nat → List SB
 | [], _ => []
 | (_, tp, te) :: r, k => { t := err, cs := [.iface tp (.ptr { blk := k + 1 })], ro := true } :: { t := 500000 + te, cs := [.hole], ro := true } :: sentHp err r (k + 2)
def sentGl : List (Nat × TypeId × TypeId) → Nat → List (Nat × Nat)
 | [], _ => []
 | (g, _) :: r, k => (g, k) :: (1000000 + g, k + 1) :: sentGl r (k + 2)
def SentOK (W : World) : List (Nat × TypeId × TypeId) → List Addr → Prop
 | [], [] => True
 | (g, tp, _) :: r, a :: as => W.cell? ⟨g, 0, none⟩ = some (.iface tp (.pointer (some a))) ∧ (∃ v, W.cell? a = some v) ∧ SentOK W r as
 | _, _ => False
def sentNu : List (Nat × TypeId × TypeId) → List Addr → Nat → Addr
 | (g, _) :: _, _ :: _, 0 => ⟨g, 0, none⟩
 | _ :: _, a :: _, 1 => a
 | _ :: r, _ :: as, k + 2 => sentNu r as k
 | _, _, _ => ⟨0, 0, none⟩
theorem sentHp_len (err : TypeId) : ∀ (ss : List (Nat × TypeId × TypeId)) (k : Nat), (sentHp err ss k).length = 2 * ss.length
 | [], _ => rfl
 | (_, _, _) :: r, k => by simp only [sentHp, List.length_cons, sentHp_len err r (k + 2)]; omega
theorem cell_lt {W : World} {a : Addr} {v : Value} (h : W.cell? a = some v) : a.block < W.heap.size := by
 unfold World.cell? at h
 split at h
 ·rename_i hx
  exact (Array.getElem?_eq_some_iff.1 hx).1
 all_goals cases h
theorem has_one {ρ : Env} {ν : Nat → Addr} {t : TypeId} {c : SC} {v : Value} {ro : Bool} (h : c.isHole = false → v = c.den ρ ν) : SB.has ρ ν { t := t, cs := [c], ro := ro } #[v] := by
 refine ⟨fun u hu => (by cases hu), fun _ _ => rfl, fun e n h => (by cases h), fun p c' hp hh => ?_, fun gi g hg => (by simp at hg)⟩
 cases p with
 | zero =>
  simp at hp
  subst hp
  simp [h hh]
 | succ p => simp at hp
theorem sent_ok {ρ : Env} {ν : Nat → Addr} {W : World} {err : TypeId} : ∀ {ss : List (Nat × TypeId × TypeId)} {as : List Addr} {k : Nat}, SentOK W ss as → Nat.blt err 500000 = true → (∀ a ∈ as, ∃ c t, W.heap[a.block]? = some (.cells c t (0, 0))) → (∀ j, j < 2 * ss.length → ν (k + j) = sentNu ss as j) →
  (∀ (i : Nat) (sb : SB), (sentHp err ss k)[i]? = some sb → BlkOK ρ ν W (k + i) sb) ∧ ∀ g m, Nat.blt g 1000000 = true → assoc g (sentGl ss k) = some m → ν m = ⟨g, 0, none⟩
 | [], [], _, _, _, _, _ => ⟨fun i sb h => by simp [sentHp] at h, fun g m _ h => by simp [sentGl, assoc] at h⟩
 | (g, tp, te) :: r, a :: as, k, h, he, hsh, hn => by
  obtain ⟨h1, ⟨v, h2⟩, h3⟩ := h
  have e0 : ν k = ⟨g, 0, none⟩ := hn 0 (by simp only [List.length_cons]; omega)
  have e1 : ν (k + 1) = a := hn 1 (by simp only [List.length_cons]; omega)
  obtain ⟨i1, i2⟩ := sent_ok (ρ := ρ) (ν := ν) (err := err) (k := k + 2) h3 he (fun a ha => hsh a (List.mem_cons_of_mem _ ha)) fun j hj => by
   have := hn (j + 2) (by simp only [List.length_cons]; omega)
   rw [show k + 2 + j = k + (j + 2) by omega, this]
   rfl
  refine ⟨fun i sb hi => ?_, fun g' m hg6 hm => ?_⟩
  ·match i, hi with
   | 0, hi =>
    simp [sentHp] at hi
    subst hi
    refine ⟨⟨rfl, rfl⟩, fun _ => ⟨⟨by rw [Nat.add_zero, e0]; exact cell_lt h1, fun _ h => absurd h (by simp only [Nat.blt_eq] at he; simp [Nat.not_le.2 he])⟩, #[.iface tp (.pointer (some a))], has_one fun _ => ?_, fun p v' hp => ?_⟩⟩
    ·simp [SC.den, SA.den, SA.off, e1, IE.den, Addr.add]
    ·cases p with
     | zero =>
      simp at hp
      subst hp
      rw [Nat.add_zero, e0]
      exact h1
     | succ p => simp at hp
   | 1, hi =>
    simp [sentHp] at hi
    subst hi
    refine ⟨⟨rfl, rfl⟩, fun _ => ⟨⟨by rw [e1]; exact cell_lt h2, fun _ _ => by rw [e1]; exact hsh a (List.mem_cons_self ..)⟩, #[v], has_one fun hh => (by cases hh), fun p v' hp => ?_⟩⟩
    cases p with
    | zero =>
     simp at hp
     subst hp
     rw [e1]
     simpa [Addr.add] using h2
    | succ p => simp at hp
   | i + 2, hi =>
    have := i1 i sb (by simpa [sentHp] using hi)
    rwa [show k + 2 + i = k + (i + 2) by omega] at this
  ·unfold sentGl assoc at hm
   split at hm
   ·rename_i hk
    simp at hk hm
    subst hk
    subst hm
    exact e0
   ·unfold assoc at hm
    split at hm
    ·rename_i hk
     simp only [beq_iff_eq] at hk
     simp only [Nat.blt_eq] at hg6
     omega
    ·exact i2 g' m hg6 hm
theorem sent_tag {ν : Nat → Addr} {W : World} : ∀ {ss : List (Nat × TypeId × TypeId)} {as : List Addr} {k : Nat}, SentOK W ss as → (ss.all fun x => Nat.blt x.1 1000000) = true → (∀ j, j < 2 * ss.length → ν (k + j) = sentNu ss as j) →
  ∀ g m, Nat.blt g 1000000 = false → assoc g (sentGl ss k) = some m → ∃ (i : Nat) (a : Addr), (ss.map (·.1))[i]? = some (g - 1000000) ∧ as[i]? = some a ∧ ν m = a
 | [], [], _, _, _, _, g, m, _, h => by simp [sentGl, assoc] at h
 | (g0, tp, te) :: r, a :: as, k, h, hs, hn, g, m, h6, hm => by
  obtain ⟨-, -, h3⟩ := h
  simp only [List.all_cons, Bool.and_eq_true] at hs
  unfold sentGl assoc at hm
  split at hm
  ·rename_i hk
   simp only [beq_iff_eq] at hk
   subst hk
   rw [hs.1] at h6
   cases h6
  ·unfold assoc at hm
   split at hm
   ·rename_i hk
    simp only [beq_iff_eq] at hk
    simp only [Option.some.injEq] at hm
    subst hm
    exact ⟨0, a, by simp [← hk], rfl, hn 1 (by simp only [List.length_cons]; omega)⟩
   ·obtain ⟨i, b, q1, q2, q3⟩ := sent_tag (ν := ν) (k := k + 2) h3 hs.2 (fun j hj => by
       have := hn (j + 2) (by simp only [List.length_cons]; omega)
       rw [show k + 2 + j = k + (j + 2) by omega, this]
       rfl) g m h6 hm
    exact ⟨i + 1, b, by simpa using q1, by simpa using q2, q3⟩
theorem sent_ne {ν : Nat → Addr} {W : World} {ss : List (Nat × TypeId × TypeId)} {as : List Addr} {k : Nat} (h : SentOK W ss as) (hs : (ss.all fun x => Nat.blt x.1 1000000) = true) (hn : ∀ j, j < 2 * ss.length → ν (k + j) = sentNu ss as j) (hnd : as.Nodup)
  (g g' m m' : Nat) (h1 : Nat.blt g 1000000 = false) (h2 : Nat.blt g' 1000000 = false) (h3 : assoc g (sentGl ss k) = some m) (h4 : assoc g' (sentGl ss k) = some m') (hne : g ≠ g') : ν m ≠ ν m' := by
 obtain ⟨i, a, q1, q2, rfl⟩ := sent_tag h hs hn g m h1 h3
 obtain ⟨j, b, r1, r2, rfl⟩ := sent_tag h hs hn g' m' h2 h4
 intro e
 have hij : i ≠ j := fun e => by
  subst e
  rw [q1] at r1
  simp only [Option.some.injEq] at r1
  have h1' : ¬ g < 1000000 := fun h => by rw [← Nat.blt_eq] at h; rw [h1] at h; cases h
  have h2' : ¬ g' < 1000000 := fun h => by rw [← Nat.blt_eq] at h; rw [h2] at h; cases h
  omega
 have hi := (List.getElem?_eq_some_iff.1 q2)
 have hj := (List.getElem?_eq_some_iff.1 r2)
 obtain ⟨li, hi⟩ := hi
 obtain ⟨lj, hj⟩ := hj
 rcases Nat.lt_or_gt_of_ne hij with h | h
 ·exact List.pairwise_iff_getElem.1 hnd i j li lj h (by rw [hi, hj, e])
 ·exact List.pairwise_iff_getElem.1 hnd j i lj li h (by rw [hi, hj, e])
section
variable {H : Type} {enc : TypeId × Value → H} {P : Program} {W : World}
def lawConG (err : TypeId) (ss : List (Nat × TypeId × TypeId)) (f : FuncId) (sh : List (Bool × List FK)) : Con :=
 let m := mkC (sh.flatMap (·.2)) 0 (2 * ss.length)
 { f := f, nv := m.2.2, gl := sentGl ss 0, args := argsOf (sh.map fun s => (s.1, s.2.length)) m.1, hp := sentHp err ss 0 ++ m.2.1, nv' := m.2.2 + 1, ret := .w (.one (.bool (.var m.2.2))), hp' := (sentHp err ss 0 ++ m.2.1).map fun _ => goneSB }
def lawPostG (ss : List (Nat × TypeId × TypeId)) (sh : List (Bool × List FK)) (ρ : Env) : Prop := ρ.bv (mkC (sh.flatMap (·.2)) 0 (2 * ss.length)).2.2 = true
theorem law_goalG (laid : laidOutB P = true) {f : FuncId} {fn : Func} {s : ChangeSpec} {apart fresh handsOn again : Bool} {sh : List (Bool × List FK)} {tb : TypeId} (hsh : shapesOf P fn.params.toList = some sh) (hread : allRead P fn.params.toList = true)
  (hvars : s.vars = []) (hres : fn.resultTypes = #[tb]) (hb : P.underlying tb = some .bool)
  (hspec : ∀ (H : Type) (ds : List (DataW H)), ds.length = fn.params.toList.length → (s.fn H ds).results = [.lit (.bool true)] ∧ (s.fn H ds).args = ds ∧ (s.fn H ds).vars = [])
  {err : TypeId} {ss : List (Nat × TypeId × TypeId)} {as : List Addr} (hsent : SentOK W ss as) (hnod : as.Nodup) (hsha : ∀ a ∈ as, ∃ c t, W.heap[a.block]? = some (.cells c t (0, 0))) (he5 : Nat.blt err 500000 = true) (hs6 : (ss.all fun x => Nat.blt x.1 1000000) = true) (hcon : ConOK P (lawConG err ss f sh) (lawPre sh) (lawPostG ss sh)) {base : Nat} {args : Array Value} {ds gs : List (DataW H)} {before : List MemPlace}
  (hval : ∀ (j : Nat) t v, fn.params[j]? = some t → args[j]? = some v → Value.okWide P W .any base t v)
  (hW : DataW.Whole enc P fn.params.toList s.vars apart W args.toList ds gs before) :
  Calls P f args W fun e W' => ∃ v, e = .returned v ∧ s.post enc P fn apart fresh handsOn again W args v W' := by
 have hW' := hW
 obtain ⟨p, q, hA, hV, rfl, hfz, hnd⟩ := hW
 rw [hvars] at hV
 obtain ⟨rfl, rfl⟩ := trodVars_none hV
 obtain ⟨h1, h2, h3, h4, h5⟩ := params_ok hsh hA (fun j t v hj hv => hval j t v (by simpa using hj) (by simpa using hv))
 obtain ⟨ρ, ν, hagr, hden, hblk0, hpre⟩ := mkC_ok h1 h5 0 (2 * ss.length) {} (sentNu ss as)
 obtain ⟨hs1, hs2⟩ := sent_ok (ρ := ρ) (ν := ν) (err := err) (k := 0) hsent he5 hsha fun j hj => by rw [Nat.zero_add]; exact hagr.bl j hj
 have hblk : ∀ (i : Nat) (sb : SB), (lawConG err ss f sh).hp[i]? = some sb → BlkOK ρ ν W i sb := fun i sb hi => by
  have hi : (sentHp err ss 0 ++ (mkC (sh.flatMap (·.2)) 0 (2 * ss.length)).2.1)[i]? = some sb := hi
  rw [List.getElem?_append] at hi
  split at hi
  ·have := hs1 i sb hi
   rwa [Nat.zero_add] at this
  ·rename_i hlt
   have := hblk0 _ sb hi
   rw [sentHp_len] at hlt this
   rwa [show 2 * ss.length + (i - 2 * ss.length) = i by omega] at this
 have hargs : ((lawConG err ss f sh).args.map (·.den ρ ν)).toArray = args := by
  have := argsOf_den (vs := args.toList) (sh := sh.map fun s => (s.1, s.2.length)) (by simpa using h2) h4 hden
  show ((argsOf (sh.map fun s => (s.1, s.2.length)) (mkC (sh.flatMap (·.2)) 0 (2 * ss.length)).1).map (·.den ρ ν)).toArray = args
  rw [this]
 have hhp : HpOK ρ ν (lawConG err ss f sh).hp W := by
  refine ⟨fun i j a b hi hj ga gb ra he => ?_, fun k sb hk hg hr => ?_, fun k sb hk hg hr => ?_⟩
  ·have := (hblk i a hi).1.1
   rw [ra] at this; cases this
  ·have := (hblk k sb hk).1.1
   rw [hr] at this; cases this
  ·have := (hblk k sb hk).2 hg
   exact this
 have hc := hcon.run ρ ν W hhp ⟨hs2, sent_ne (k := 0) hsent hs6 (fun j hj => by rw [Nat.zero_add]; exact hagr.bl j hj) hnod⟩ (preC_num hpre)
 rw [hargs] at hc
 refine hc.mono fun e W' he => ?_
 obtain ⟨ρ', ν', -, rfl, -, hwrt, -, hpost⟩ := he
 have hbelow : Below W.heap.size W W' := by
  refine ⟨hwrt.os, hwrt.tape, hwrt.output, hwrt.size, fun k hk => hwrt.block k hk ?_⟩
  rintro ⟨j, sb, hj, ho, -, -⟩
  have := (hblk j sb hj).1.2
  rw [ho] at this; cases this
 have hret : (lawConG err ss f sh).ret.den ρ' ν' = .bool true := by
  have : ρ'.bv (mkC (sh.flatMap (·.2)) 0 (2 * ss.length)).2.2 = true := hpost
  simp [lawConG, SV.den, SW.den, SC.den, BE.den, this]
 rw [hret]
 obtain ⟨s1, s2, s3⟩ := hspec H ds h3
 have hlt : ∀ x ∈ p, x.block < W.heap.size := fun x hx => hW'.lt x (List.mem_append_left _ hx)
 refine ⟨_, rfl, post_below (pa := p) (pv := []) hW' (fun b sp hd => ?_) (fun sp hsp => ?_) (fun sp _ => ?_) rfl hbelow ?_⟩
 ·rw [List.append_nil, s1, hres]
  exact trodAll_mk1 ⟨1, by simp [DataW.trod, hb, Value.cells]⟩
 ·rw [List.append_nil, s2]
  exact trodAll_stays laid hread hA (fun x hx => hbelow.same (hlt x hx)) (fun x hx => hsp x (List.mem_append_left _ hx))
 ·rw [List.append_nil, s3, hvars]
  rfl
 ·exact ok_one hres rfl (okWide_bool_mk hb true)
end
end Go.Rex
