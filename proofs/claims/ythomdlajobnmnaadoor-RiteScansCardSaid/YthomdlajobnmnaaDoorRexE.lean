/- Rex, part E: finding what a template's variables stand for; what a call leaves, in the caller's terms. -/
import Derived.Test.YthomdlajobnmnaaDoorRexD
set_option linter.unusedSimpArgs false
set_option linter.unusedVariables false
namespace Go.Rex

/-! ### finding (nothing is proved of it: 'mSV' and 'instHp' check) -/
def Sub.addI (σ : Sub) (t e : IE) : Sub :=
 match t with
 | .var i => if Nat.blt i σ.lo then σ else match assoc i σ.iv with | some _ => σ | none => { σ with iv := (i, e) :: σ.iv }
 | _ => σ
def Sub.addB (σ : Sub) (t e : BE) : Sub :=
 match t with
 | .var i => if Nat.blt i σ.lo then σ else match assoc i σ.bv with | some _ => σ | none => { σ with bv := (i, e) :: σ.bv }
 | _ => σ
def Sub.addK (σ : Sub) (t : Nat) (a : SA) : Sub :=
 if Nat.blt t σ.lob then σ else match assoc t σ.bk with | some _ => σ | none => { σ with bk := (t, a) :: σ.bk }
def Sub.addA (σ : Sub) (t a : SA) : Sub :=
 match t.i1 with
 | .var o => (σ.addK t.blk { a with i1 := .lit 0 }).addI (.var o) a.i1
 | _ => σ.addK t.blk a
def uBks (σ : Sub) : List Nat → List Nat → Sub
 | a :: r, b :: s => uBks (σ.addK a { blk := b }) r s
 | _, _ => σ
def uSC (σ : Sub) : SC → SC → Sub
 | .int _ e, .int _ f => σ.addI e f
 | .bool e, .bool f => σ.addB e f
 | .val i, c => if Nat.blt i σ.lo then σ else match assoc i σ.vv with | some _ => σ | none => { σ with vv := (i, c) :: σ.vv }
 | .ptr a, .ptr b => σ.addA a b
 | .sl a l c, .sl b m d => ((σ.addA a b).addI l m).addI c d
 | .sln k a l c, .sl b m d => (((σ.addB k (.lit false)).addA a b).addI l m).addI c d
 | .sln k a l c, .sln k' b m d => (((σ.addB k k').addA a b).addI l m).addI c d
 | .sln k a l c, .nilsl => let σ' := ((σ.addB k (.lit true)).addI l (.lit 0)).addI c (.lit 0); { σ' with nb := a.blk :: σ'.nb }
 | .fn _ a, .fn _ b => uBks σ a b
 | .iface _ c, .iface _ d => uSC σ c d
 | .ifn k c, .ifn k' d => uSC (σ.addB k k') c d
 | .ifn k c, .nilif => let σ' := σ.addB k (.lit true); match c with | .iface _ (.ptr a) => { σ' with nb := a.blk :: σ'.nb } | _ => σ'
 | .ifn k (.iface _ c), .iface _ d => uSC (σ.addB k (.lit false)) c d
 | .mp a, .mp b => σ.addK a { blk := b }
 | _, _ => σ
def uSCs (σ : Sub) : List SC → List SC → Sub
 | a :: r, b :: s => uSCs (uSC σ a b) r s
 | _, _ => σ
def uSW (σ : Sub) : SW → SW → Sub
 | .one a, .one b => uSC σ a b
 | .agg a, .agg b => uSCs σ a b
 | _, _ => σ
def uSWs (σ : Sub) : List SW → List SW → Sub
 | a :: r, b :: s => uSWs (uSW σ a b) r s
 | _, _ => σ
def uSV (σ : Sub) : SV → SV → Sub
 | .w a, .w b => uSW σ a b
 | .tup a, .tup b => uSWs σ a b
 | .gd c a, .gd d b => uSW (σ.addB c d) a b
 | _, _ => σ
def Sub.addC (σ : Sub) (r : Nat) (c : CV) : Sub :=
 if Nat.blt r σ.lo then σ else match assoc r σ.ct with | some _ => σ | none => { σ with ct := (r, c) :: σ.ct }
def uSegs (σ : Sub) (A : SB) (a : SA) : List Seg → Nat → Sub
 | [], _ => σ
 | g :: r, gi =>
  match A.segs[gi]? with
  | some h => uSegs ((σ.addI g.n1 h.n1).addC g.r (.up h gi A.ups ((a.shift g.s1).getD (.lit 0)))) A a r (gi + 1)
  | none => let cs := A.cs.drop (a.lit?.getD 0); uSegs ((σ.addI g.n1 (.lit (cs.length / g.s1 : Nat))).addC g.r (.ex cs g.s1 g.s2 g.lo)) A a r (gi + 1)
def uSB (σ : Sub) (T A : SB) (a : SA) : Sub :=
 let σ := uSCs (σ.addB T.nl A.nl) T.cs A.cs
 let σ := match T.cap, A.cap with | some (e, _), some (f, _) => σ.addI e f | _, _ => σ
 uSegs σ A a T.segs 0
def uHp (σ : Sub) (hp : List SB) : List SB → Nat → Sub
 | [], _ => σ
 | T :: r, k =>
  if T.gone then uHp σ hp r (k + 1)
  else if Nat.blt k σ.lob then
   match hp[k]? with
   | some A => uHp (if T.wk A && T.sc σ.lo σ.lob then σ else uSB σ T A { blk := k }) hp r (k + 1)
   | none => σ
  else match assoc k σ.bk with
   | some a => match hp[a.blk]? with | some A => uHp (uSB σ T A a) hp r (k + 1) | none => σ
   | none => uHp σ hp r (k + 1)
def uHp2 (σ : Sub) (hp Ts : List SB) : Sub := uHp (uHp σ hp Ts 0) hp Ts 0

/-! ### contracts -/
structure Con where
 f : FuncId
 nv : Nat
 gl : List (Nat × Nat) := []
 args : List SW
 hp : List SB
 nv' : Nat
 ret : SV
 hp' : List SB
 deriving Inhabited

/-! ### in the caller's terms -/
structure Tr where
 σ : Sub
 m : Nat
 d : Nat
 n : Nat
 n0 : Nat
def oMap2 {α β γ : Type} (f : α → β → γ) : Option α → Option β → Option γ
 | some a, some b => some (f a b)
 | _, _ => none
theorem oMap2_some {α β γ : Type} {f : α → β → γ} {x : Option α} {y : Option β} {z : γ} (h : oMap2 f x y = some z) : ∃ a b, x = some a ∧ y = some b ∧ z = f a b := by
 cases x <;> cases y <;> simp [oMap2] at h
 exact ⟨_, _, rfl, rfl, h.symm⟩
def IE.tr (t : Tr) : IE → Option IE
 | .lit n => some (.lit n)
 | .var i => if Nat.blt i t.m then assoc i t.σ.iv else some (.var (i - t.m + t.d))
 | .add a b => oMap2 .add (a.tr t) (b.tr t)
 | .sub a b => oMap2 .sub (a.tr t) (b.tr t)
 | .mul a b => oMap2 .mul (a.tr t) (b.tr t)
 | .div a b => oMap2 .div (a.tr t) (b.tr t)
 | .mod a b => oMap2 .mod (a.tr t) (b.tr t)
 | .wrap k a => (a.tr t).map (.wrap k)
 | .imin a b => oMap2 .imin (a.tr t) (b.tr t)
 | .imax a b => oMap2 .imax (a.tr t) (b.tr t)
 | .cell r a b j => if Nat.blt r t.m then none else oMap2 (fun a b => .cell (r - t.m + t.d) a b j) (a.tr t) (b.tr t)
def BE.tr (t : Tr) : BE → Option BE
 | .lit n => some (.lit n)
 | .var i => if Nat.blt i t.m then assoc i t.σ.bv else some (.var (i - t.m + t.d))
 | .not a => (a.tr t).map .not
 | .and a b => oMap2 .and (a.tr t) (b.tr t)
 | .or a b => oMap2 .or (a.tr t) (b.tr t)
 | .ite c a b => match c.tr t, a.tr t, b.tr t with | some c, some a, some b => some (.ite c a b) | _, _, _ => none
 | .ieq a b => oMap2 .ieq (IE.tr t a) (IE.tr t b)
 | .ile a b => oMap2 .ile (IE.tr t a) (IE.tr t b)
 | .ilt a b => oMap2 .ilt (IE.tr t a) (IE.tr t b)
 | .beq a b => oMap2 .beq (a.tr t) (b.tr t)
 | .inr k a => (IE.tr t a).map (.inr k)
 | .cell r a b j => if Nat.blt r t.m then none else oMap2 (fun a b => .cell (r - t.m + t.d) a b j) (IE.tr t a) (IE.tr t b)
def trBk (t : Tr) (k : Nat) : Option Nat :=
 if Nat.blt k t.n then match assoc k t.σ.bk with | some a => if a.base then some a.blk else none | none => none
 else some (k - t.n + t.n0)
def SA.tr (t : Tr) (a : SA) : Option SA :=
 match trBk t a.blk, a.i1.tr t, a.i2.tr t with
 | some b, some i1, some i2 => some { a with blk := b, i1 := i1, i2 := i2 }
 | _, _, _ => none
def trBks (t : Tr) : List Nat → Option (List Nat)
 | [] => some []
 | k :: r => oMap2 List.cons (trBk t k) (trBks t r)
def SC.tr (t : Tr) : SC → Option SC
 | .int k e => (e.tr t).map (.int k)
 | .bool b => (b.tr t).map .bool
 | .str l => some (.str l)
 | .val i => if Nat.blt i t.m then (match assoc i t.σ.vv with | some c => if c.isHole then none else some c | none => none) else some (.val (i - t.m + t.d))
 | .vcell r a b j => if Nat.blt r t.m then none else oMap2 (fun a b => .vcell (r - t.m + t.d) a b j) (a.tr t) (b.tr t)
 | .ptr a => (a.tr t).map .ptr
 | .nilptr => some .nilptr
 | .sl a l c => match a.tr t, l.tr t, c.tr t with | some a, some l, some c => some (.sl a l c) | _, _, _ => none
 | .nilsl => some .nilsl
 | .sln k a l c => match k.tr t, a.tr t, l.tr t, c.tr t with | some k, some a, some l, some c => some (.sln k a l c) | _, _, _, _ => none
 | .fn f caps => (trBks t caps).map (.fn f)
 | .nilfn => some .nilfn
 | .iface u c => (c.tr t).map (.iface u)
 | .ifn k c => match k.tr t, c.tr t with | some k, some c => some (.ifn k c) | _, _ => none
 | .mp b => (trBk t b).map .mp
 | .nilmp => some .nilmp
 | .rt t b o => some (.rt t b o)
 | .nilif => some .nilif
 | .hole => some .hole
def trSCs (t : Tr) : List SC → Option (List SC)
 | [] => some []
 | c :: r => oMap2 List.cons (c.tr t) (trSCs t r)
def SW.tr (t : Tr) : SW → Option SW
 | .one c => (c.tr t).map .one
 | .agg cs => (trSCs t cs).map .agg
def trSWs (t : Tr) : List SW → Option (List SW)
 | [] => some []
 | c :: r => oMap2 List.cons (c.tr t) (trSWs t r)
def SV.tr (t : Tr) : SV → Option SV
 | .w x => (x.tr t).map .w
 | .tup xs => (trSWs t xs).map .tup
 | .gd c x => oMap2 .gd (c.tr t) (x.tr t)
def trSegs (t : Tr) : List Seg → Option (List Seg)
 | [] => some []
 | g :: r => if Nat.blt g.r t.m then none else oMap2 (fun n s => { g with r := g.r - t.m + t.d, n1 := n } :: s) (g.n1.tr t) (trSegs t r)
def SB.tr (t : Tr) (b : SB) : Option SB :=
 if b.gone then some goneSB
 else if b.ups.isEmpty then
  match trSCs t b.cs, trSegs t b.segs, b.nl.tr t with
  | some cs, some segs, some nl =>
   match b.cap with
   | none => some { b with cs := cs, segs := segs, nl := nl }
   | some (e, n) => match e.tr t with | some e => some { b with cs := cs, segs := segs, nl := nl, cap := some (e, n) } | none => none
  | _, _, _ => none
 else none
structure Trd (t : Tr) (ρp ρ' : Env) (νp ν' : Nat → Addr) : Prop where
 i : ∀ i e, i < t.m → assoc i t.σ.iv = some e → e.den ρ' = ρp.iv i
 b : ∀ i e, i < t.m → assoc i t.σ.bv = some e → e.den ρ' = ρp.bv i
 v : ∀ i e, i < t.m → assoc i t.σ.vv = some e → e.den ρ' ν' = ρp.vv i
 iv : ∀ i, t.m ≤ i → ρ'.iv (i - t.m + t.d) = ρp.iv i
 bv : ∀ i, t.m ≤ i → ρ'.bv (i - t.m + t.d) = ρp.bv i
 vv : ∀ i, t.m ≤ i → ρ'.vv (i - t.m + t.d) = ρp.vv i
 ic : ∀ i, t.m ≤ i → ρ'.ic (i - t.m + t.d) = ρp.ic i
 bc : ∀ i, t.m ≤ i → ρ'.bc (i - t.m + t.d) = ρp.bc i
 vc : ∀ i, t.m ≤ i → ρ'.vc (i - t.m + t.d) = ρp.vc i
 bo : ∀ k a, k < t.n → assoc k t.σ.bk = some a → a.base = true → ν' a.blk = νp k
 bn : ∀ k, t.n ≤ k → ν' (k - t.n + t.n0) = νp k
section
variable {t : Tr} {ρp ρ' : Env} {νp ν' : Nat → Addr} (H : Trd t ρp ρ' νp ν')
include H
theorem IE.tr_den : ∀ {e e' : IE}, e.tr t = some e' → e'.den ρ' = e.den ρp := by
 intro e
 induction e with
 | lit n => intro e' h; simp [IE.tr] at h; subst h; rfl
 | var i =>
  intro e' h
  simp only [IE.tr] at h
  split at h
  ·rename_i hi; exact H.i i e' (by simpa using hi) h
  ·rename_i hi
   simp at h
   subst h
   exact H.iv i (by simpa using hi)
 | add a b iha ihb | sub a b iha ihb | mul a b iha ihb | div a b iha ihb | mod a b iha ihb | imin a b iha ihb | imax a b iha ihb =>
  intro e' h
  obtain ⟨x, y, h1, h2, rfl⟩ := oMap2_some h
  simp only [IE.den, iha h1, ihb h2]
 | wrap k a ih =>
  intro e' h
  simp only [IE.tr, Option.map_eq_some_iff] at h
  obtain ⟨x, h1, rfl⟩ := h
  simp only [IE.den, ih h1]
 | cell r a b j iha ihb =>
  intro e' h
  simp only [IE.tr] at h
  split at h
  ·cases h
  ·rename_i hr
   obtain ⟨x, y, h1, h2, rfl⟩ := oMap2_some h
   simp only [IE.den, iha h1, ihb h2, H.ic r (by simpa using hr)]
theorem BE.tr_den : ∀ {e e' : BE}, e.tr t = some e' → e'.den ρ' = e.den ρp := by
 intro e
 induction e with
 | lit n => intro e' h; simp [BE.tr] at h; subst h; rfl
 | var i =>
  intro e' h
  simp only [BE.tr] at h
  split at h
  ·rename_i hi; exact H.b i e' (by simpa using hi) h
  ·rename_i hi
   simp at h
   subst h
   exact H.bv i (by simpa using hi)
 | and a b iha ihb | or a b iha ihb | beq a b iha ihb =>
  intro e' h
  obtain ⟨x, y, h1, h2, rfl⟩ := oMap2_some h
  simp only [BE.den, iha h1, ihb h2]
 | ieq a b | ile a b | ilt a b =>
  intro e' h
  obtain ⟨x, y, h1, h2, rfl⟩ := oMap2_some h
  simp only [BE.den, IE.tr_den H h1, IE.tr_den H h2]
 | not a ih =>
  intro e' h
  simp only [BE.tr, Option.map_eq_some_iff] at h
  obtain ⟨x, h1, rfl⟩ := h
  simp only [BE.den, ih h1]
 | inr k a =>
  intro e' h
  simp only [BE.tr, Option.map_eq_some_iff] at h
  obtain ⟨x, h1, rfl⟩ := h
  simp only [BE.den, IE.tr_den H h1]
 | ite c a b ihc iha ihb =>
  intro e' h
  simp only [BE.tr] at h
  split at h
  ·rename_i x y z h1 h2 h3
   simp at h
   subst h
   simp only [BE.den, ihc h1, iha h2, ihb h3]
  ·cases h
 | cell r a b j =>
  intro e' h
  simp only [BE.tr] at h
  split at h
  ·cases h
  ·rename_i hr
   obtain ⟨x, y, h1, h2, rfl⟩ := oMap2_some h
   simp only [BE.den, IE.tr_den H h1, IE.tr_den H h2, H.bc r (by simpa using hr)]
theorem trBk_ok {k b : Nat} (h : trBk t k = some b) : ν' b = νp k := by
 unfold trBk at h
 split at h
 ·rename_i hk
  split at h
  ·rename_i a ha
   split at h
   ·rename_i hb
    simp at h
    subst h
    exact H.bo k a (by simpa using hk) ha hb
   ·cases h
  ·cases h
 ·rename_i hk
  simp at h
  subst h
  exact H.bn k (by simpa using hk)
theorem SA.tr_den {a a' : SA} (h : a.tr t = some a') : a'.den ρ' ν' = a.den ρp νp := by
 unfold SA.tr at h
 split at h
 ·rename_i b i1 i2 h1 h2 h3
  simp at h
  subst h
  simp only [SA.den, SA.off, trBk_ok H h1, IE.tr_den H h2, IE.tr_den H h3]
 ·cases h
theorem trBks_ok : ∀ {l l' : List Nat}, trBks t l = some l' → l'.map ν' = l.map νp
 | [], l', h => by simp [trBks] at h; subst h; rfl
 | k :: r, l', h => by
  obtain ⟨x, y, h1, h2, rfl⟩ := oMap2_some h
  simp only [List.map_cons, trBk_ok H h1, trBks_ok h2]
theorem SC.tr_den : ∀ {c c' : SC}, c.tr t = some c' → c'.den ρ' ν' = c.den ρp νp ∧ (c.isHole = false → c'.isHole = false) ∧ (c.isHole = true → c'.isHole = true) := by
 intro c
 induction c with
 | int k e =>
  intro c' h
  simp only [SC.tr, Option.map_eq_some_iff] at h
  obtain ⟨x, h1, rfl⟩ := h
  exact ⟨by simp only [SC.den, IE.tr_den H h1], fun _ => rfl, fun h => by cases h⟩
 | bool e =>
  intro c' h
  simp only [SC.tr, Option.map_eq_some_iff] at h
  obtain ⟨x, h1, rfl⟩ := h
  exact ⟨by simp only [SC.den, BE.tr_den H h1], fun _ => rfl, fun h => by cases h⟩
 | val i =>
  intro c' h
  simp only [SC.tr] at h
  split at h
  ·rename_i hi
   split at h
   ·rename_i c hc
    split at h
    ·cases h
    ·rename_i hh
     simp at h
     subst h
     have := H.v i c (by simpa using hi) hc
     refine ⟨?_, fun _ => by simpa using hh, fun h => by cases h⟩
     simp only [SC.den, ← this]
     exact (one1_of (SC.oneCell c (by simpa using hh))).symm
   ·cases h
  ·rename_i hi
   simp at h
   subst h
   exact ⟨by simp only [SC.den, H.vv i (by simpa using hi)], fun _ => rfl, fun h => by cases h⟩
 | vcell r a b j =>
  intro c' h
  simp only [SC.tr] at h
  split at h
  ·cases h
  ·rename_i hr
   obtain ⟨x, y, h1, h2, rfl⟩ := oMap2_some h
   exact ⟨by simp only [SC.den, IE.tr_den H h1, IE.tr_den H h2, H.vc r (by simpa using hr)], fun _ => rfl, fun h => by cases h⟩
 | ptr a =>
  intro c' h
  simp only [SC.tr, Option.map_eq_some_iff] at h
  obtain ⟨x, h1, rfl⟩ := h
  exact ⟨by simp only [SC.den, SA.tr_den H h1], fun _ => rfl, fun h => by cases h⟩
 | sl a l c =>
  intro c' h
  simp only [SC.tr] at h
  split at h
  ·rename_i x y z h1 h2 h3
   simp at h
   subst h
   exact ⟨by simp only [SC.den, SA.tr_den H h1, IE.tr_den H h2, IE.tr_den H h3], fun _ => rfl, fun h => by cases h⟩
  ·cases h
 | sln k a l c =>
  intro c' h
  simp only [SC.tr] at h
  split at h
  ·rename_i k x y z h0 h1 h2 h3
   simp at h
   subst h
   exact ⟨by simp only [SC.den, BE.tr_den H h0, SA.tr_den H h1, IE.tr_den H h2, IE.tr_den H h3], fun _ => rfl, fun h => by cases h⟩
  ·cases h
 | fn f caps =>
  intro c' h
  simp only [SC.tr, Option.map_eq_some_iff] at h
  obtain ⟨x, h1, rfl⟩ := h
  have := trBks_ok H h1
  refine ⟨?_, fun _ => rfl, fun h => by cases h⟩
  simp only [SC.den]
  have e : ∀ (μ : Nat → Addr) (l : List Nat), (l.map fun b => Value.pointer (some (μ b))) = (l.map μ).map fun a => Value.pointer (some a) := fun μ l => by simp
  rw [e, e, this]
 | iface u c ih =>
  intro c' h
  simp only [SC.tr, Option.map_eq_some_iff] at h
  obtain ⟨x, h1, rfl⟩ := h
  exact ⟨by simp only [SC.den, (ih h1).1], fun _ => rfl, fun h => by cases h⟩
 | ifn k c ih =>
  intro c' h
  simp only [SC.tr] at h
  split at h
  ·rename_i k' x h0 h1
   simp at h
   subst h
   obtain ⟨i1, i2, i3⟩ := ih h1
   exact ⟨by simp only [SC.den, BE.tr_den H h0, i1], i2, i3⟩
  ·cases h
 | mp b =>
  intro c' h
  simp only [SC.tr, Option.map_eq_some_iff] at h
  obtain ⟨x, h1, rfl⟩ := h
  exact ⟨by simp only [SC.den, trBk_ok H h1], fun _ => rfl, fun h => by cases h⟩
 | _ =>
  intro c' h
  simp only [SC.tr, Option.some.injEq] at h
  subst h
  exact ⟨rfl, fun h => h, fun h => h⟩
theorem trSCs_at : ∀ {l l' : List SC}, trSCs t l = some l' → l'.length = l.length ∧ ∀ (p : Nat) (c' : SC), l'[p]? = some c' → ∃ c, l[p]? = some c ∧ c.tr t = some c'
 | [], l', h => by have _ := H; simp [trSCs] at h; subst h; exact ⟨rfl, fun p c h => by simp at h⟩
 | c :: r, l', h => by
  obtain ⟨x, y, h1, h2, rfl⟩ := oMap2_some h
  obtain ⟨h3, h4⟩ := trSCs_at h2
  refine ⟨by simp [h3], fun p c' hp => ?_⟩
  cases p with
  | zero => simp at hp; subst hp; exact ⟨c, rfl, h1⟩
  | succ p => simpa using h4 p c' (by simpa using hp)
theorem trSCs_den : ∀ {l l' : List SC}, trSCs t l = some l' → l'.map (·.den ρ' ν') = l.map (·.den ρp νp)
 | [], l', h => by simp [trSCs] at h; subst h; rfl
 | c :: r, l', h => by
  obtain ⟨x, y, h1, h2, rfl⟩ := oMap2_some h
  simp only [List.map_cons, (SC.tr_den H h1).1, trSCs_den h2]
theorem SW.tr_den {x x' : SW} (h : x.tr t = some x') : x'.den ρ' ν' = x.den ρp νp := by
 cases x <;> simp only [SW.tr, Option.map_eq_some_iff] at h <;> obtain ⟨y, h1, rfl⟩ := h
 ·exact (SC.tr_den H h1).1
 ·simp only [SW.den, trSCs_den H h1]
theorem trSWs_den : ∀ {l l' : List SW}, trSWs t l = some l' → l'.map (·.den ρ' ν') = l.map (·.den ρp νp)
 | [], l', h => by simp [trSWs] at h; subst h; rfl
 | c :: r, l', h => by
  obtain ⟨x, y, h1, h2, rfl⟩ := oMap2_some h
  simp only [List.map_cons, SW.tr_den H h1, trSWs_den h2]
theorem SV.tr_den {x x' : SV} (h : x.tr t = some x') : x'.den ρ' ν' = x.den ρp νp := by
 cases x <;> simp only [SV.tr] at h
 ·simp only [Option.map_eq_some_iff] at h
  obtain ⟨y, h1, rfl⟩ := h
  exact SW.tr_den H h1
 ·simp only [Option.map_eq_some_iff] at h
  obtain ⟨y, h1, rfl⟩ := h
  simp only [SV.den, trSWs_den H h1]
 ·obtain ⟨y, z, h1, h2, rfl⟩ := oMap2_some h
  simp only [SV.den, BE.tr_den H h1, SW.tr_den H h2]
theorem trSegs_at : ∀ {l l' : List Seg}, trSegs t l = some l' → (l = [] ↔ l' = []) ∧ ∀ (p : Nat) (g' : Seg), l'[p]? = some g' → ∃ g n, l[p]? = some g ∧ t.m ≤ g.r ∧ g.n1.tr t = some n ∧ g' = { g with r := g.r - t.m + t.d, n1 := n }
 | [], l', h => by have _ := H; simp [trSegs] at h; subst h; exact ⟨Iff.rfl, fun p c h => by simp at h⟩
 | g :: r, l', h => by
  simp only [trSegs] at h
  split at h
  ·cases h
  rename_i hr
  obtain ⟨x, y, h1, h2, rfl⟩ := oMap2_some h
  obtain ⟨-, h4⟩ := trSegs_at h2
  refine ⟨by simp, fun p c' hp => ?_⟩
  cases p with
  | zero => simp at hp; subst hp; exact ⟨g, x, rfl, by simpa using hr, h1, rfl⟩
  | succ p => simpa using h4 p c' (by simpa using hp)
theorem SB.tr_ok {b b' : SB} (h : b.tr t = some b') (hg : b'.gone = false) : b.gone = false ∧ b'.t = b.t ∧ b'.ro = b.ro ∧ b'.own = b.own ∧ b'.nl.den ρ' = b.nl.den ρp ∧ ∀ arr, b.has ρp νp arr → b'.has ρ' ν' arr := by
 unfold SB.tr at h
 split at h
 ·simp at h; subst h; cases hg
 rename_i hbg
 split at h
 case isFalse => cases h
 rename_i hu
 have hu' : b.ups = [] := by simpa using hu
 split at h
 case h_2 => cases h
 rename_i cs segs nl h1 h2 h3
 obtain ⟨c1, c2⟩ := trSCs_at H h1
 obtain ⟨s1, s2⟩ := trSegs_at H h2
 have key : ∀ b2 : SB, b2.cs = cs → b2.segs = segs → b2.ups = b.ups → b2.opn = b.opn → (∀ e n, b2.cap = some (e, n) → ∃ e0, b.cap = some (e0, n) ∧ e0.tr t = some e) → ∀ arr, b.has ρp νp arr → b2.has ρ' ν' arr := by
  intro b2 e1 e2 e3 e4 e5 arr hb
  refine ⟨fun u hu => (by rw [e3, hu'] at hu; cases hu), fun hs ho => ?_, fun e n he => ?_, fun p c hp hh => ?_, fun gi g hgi i1 i2 j a1 a2 a3 => ?_⟩
  ·rw [e1, c1]
   exact hb.size (s1.2 (e2 ▸ hs)) (e4 ▸ ho)
  ·obtain ⟨e0, h5, h6⟩ := e5 e n he
   rw [IE.tr_den H h6]
   exact hb.cap e0 n h5
  ·obtain ⟨c0, h5, h6⟩ := c2 p c (e1 ▸ hp)
   obtain ⟨h7, -, h9⟩ := SC.tr_den H h6
   rw [h7]
   refine hb.ex p c0 h5 ?_
   cases hc : c0.isHole with
   | false => rfl
   | true => rw [h9 hc] at hh; cases hh
  ·obtain ⟨g0, n, h5, h6, h7, rfl⟩ := s2 gi g (e2 ▸ hgi)
   simp only [IE.tr_den H h7] at a1
   have := hb.sg gi g0 h5 i1 i2 j a1 a2 a3
   rw [hu'] at this
   rw [e3, hu']
   simp only [upsVal] at this ⊢
   rw [this]
   simp only [Seg.base, H.ic _ h6, H.bc _ h6, H.vc _ h6]
 split at h
 ·rename_i hcap
  simp at h
  subst h
  exact ⟨by simpa using hbg, rfl, rfl, rfl, BE.tr_den H h3, key _ rfl rfl rfl rfl (fun e n he => by rw [hcap] at he; cases he)⟩
 ·rename_i e n hcap
  split at h
  ·rename_i e' he'
   simp at h
   subst h
   refine ⟨by simpa using hbg, rfl, rfl, rfl, BE.tr_den H h3, key _ rfl rfl rfl rfl (fun e1 n1 he => ?_)⟩
   simp at he
   exact ⟨e, by rw [hcap, he.2], by rw [← he.1]; exact he'⟩
  ·cases h
end
end Go.Rex
