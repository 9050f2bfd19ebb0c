/- plain words: a thread's engine, one access at a time -/
import Derived.Test.YthomdlajobnmnaaDoorPPlain
set_option linter.unusedSimpArgs false
set_option linter.unusedVariables false
namespace Go.Proofs.YthomdlajobnmnaaDoor
open Go.Rex
deriving instance DecidableEq for Ac
structure Ca where
 kind : Int
 slot : Int
 gen : Int
 field : Int
 old : Wd
 new : Wd
 i : Int
 j : Int
 code : Int
 val : Int
 deriving DecidableEq
structure Nt where
 ref : Wd
 birth : Int
 death : Int
 deriving DecidableEq
structure Sp where
 is : Bool
 low : Int
 high : Int
 deriving DecidableEq
def Ac.zero : Ac := ⟨0, 0, 0, 0, Wd.zero, Wd.zero⟩
def Ca.zero : Ca := ⟨0, 0, 0, 0, Wd.zero, Wd.zero, 0, 0, 0, 0⟩
def Sp.zero : Sp := ⟨false, 0, 0⟩
def Wd.num' (n : Int) : Wd := ⟨0, 0, 0, n, false⟩
def Wd.ref' (w : Wd) : Wd := ⟨w.slot, w.gen, 0, 0, false⟩
structure RS where
 call : Ca
 step : Int
 acc : Ac
 word : Wd
 clock : Wd
 index : Int
 seen : List Wd
 doomed : List Nt
 engine : Int
 me : Int
 threads : Int
 most : Int
 holds : Nat → Wd
 span : Sp
 notes : List Nt
 freed : Int
 reply : Rp
namespace RS
variable (r : RS)
def keeping : Prop := r.engine = 2 ∨ r.engine = 3
def dating : Prop := r.engine = 3 ∨ r.engine = 5
def spanning : Prop := r.engine = 4 ∨ r.engine = 5
instance : Decidable r.keeping := by unfold keeping; exact inferInstance
instance : Decidable r.dating := by unfold dating; exact inferInstance
instance : Decidable r.spanning := by unfold spanning; exact inferInstance
def ask (step : Int) (a : Ac) : RS := { r with step := step, acc := a }
def load (step slot gen field : Int) : RS := r.ask step ⟨1, slot, gen, field, Wd.zero, Wd.zero⟩
def era (step : Int) : RS := r.load step 0 0 24
def advance (step : Int) : RS := r.ask step ⟨3, 0, 0, 24, r.clock, ⟨0, 0, r.clock.tag + 1, r.clock.num + 1, false⟩⟩
def hold (n : Int) (w : Wd) : RS := { r with holds := fun i => if i = n.toNat then w else r.holds i }
def post (step n : Int) (w : Wd) : RS := (r.hold n w).ask step ⟨2, 0, 0, 25 + r.me * 9 + n, Wd.zero, w⟩
def spanW (s : Sp) : Wd := if s.is = true then ⟨0, 0, s.high, s.low, true⟩ else Wd.zero
def announce (step : Int) (s : Sp) : RS := { r with span := s }.ask step ⟨2, 0, 0, 79 + r.me, Wd.zero, spanW s⟩
def finish (x : Rp) : RS := { r with call := Ca.zero, step := 0, acc := Ac.zero, word := Wd.zero, clock := Wd.zero, index := 0, seen := [], doomed := [], reply := x }
def done : RS := r.finish ⟨Wd.zero, true⟩
def first (h : Nat → Wd) (n : Nat) : Nat → Option Nat
 | 0 => none
 | k + 1 => if h n ≠ Wd.zero then some n else first h (n + 1) k
def leave (start : Int) : RS :=
 if r.spanning ∧ r.span ≠ Sp.zero then r.announce 2 Sp.zero
 else if r.keeping then
  match first r.holds start.toNat (9 - start.toNat) with
  | some n => { r with index := n }.post 4 n Wd.zero
  | none => r.done
 else r.done
def look (n : Int) : Option RS :=
 if r.keeping then
  if n ≥ r.threads * 9 then none else some ({ r with index := n }.load 13 0 0 (25 + n))
 else if n ≥ r.threads then none else some ({ r with index := n }.load 13 0 0 (79 + n))
def scan : RS :=
 if r.engine = 1 then r.done
 else if r.engine = 4 then r.era 12
 else (r.look 0).getD r
def note (birth death : Int) : RS := { r with notes := r.notes ++ [⟨r.call.old.ref', birth, death⟩] }
def noted : RS := if r.notes.length ≥ r.most then r.scan else r.done
def retire : RS :=
 if r.engine = 2 then (r.note 0 0).noted
 else if r.engine = 4 then r.era 10
 else if r.engine = 3 ∨ r.engine = 5 then r.load 9 r.call.old.slot r.call.old.gen 9
 else r.done
def opened : RS :=
 let c := r.call
 if c.kind = 1 then (if r.spanning then r.era 3 else r.done)
 else if c.kind = 2 then r.leave 0
 else if c.kind = 3 then r.load 1 c.slot c.gen c.field
 else if c.kind = 4 then r.ask 1 ⟨2, c.slot, c.gen, c.field, c.old, c.new⟩
 else if c.kind = 5 then r.ask 1 ⟨3, c.slot, c.gen, c.field, c.old, c.new⟩
 else if c.kind = 6 then r.load 5 c.slot c.gen c.field
 else if c.kind = 7 then (if r.keeping ∧ r.holds c.i.toNat ≠ r.holds c.j.toNat then r.post 2 c.i (r.holds c.j.toNat) else r.done)
 else if c.kind = 8 then (if r.dating then r.era 8 else r.ask 1 ⟨4, 0, 0, 0, Wd.zero, Wd.zero⟩)
 else if c.kind = 9 then r.ask 2 ⟨5, 0, 0, 0, c.old, Wd.zero⟩
 else if c.kind = 10 then r.retire
 else if c.kind = 11 then r.scan
 else r
def begin (c : Ca) : RS × Bool :=
 if r.step ≠ 0 then (r, false)
 else if c.kind < 1 ∨ c.kind > 11 then (r, false)
 else if (c.kind = 6 ∨ c.kind = 7) ∧ (c.i < 0 ∨ c.i ≥ 9 ∨ c.j < 0 ∨ c.j ≥ 9) then (r, false)
 else ({ r with call := c, step := 0, acc := Ac.zero, word := Wd.zero, clock := Wd.zero, index := 0, seen := [], doomed := [] }.opened, true)
def covers (i now : Int) : Prop :=
 if r.engine = 3 then r.holds i.toNat ≠ Wd.zero ∧ (r.holds i.toNat).num = now
 else r.span.is = true ∧ r.span.high = now
instance (i now : Int) : Decidable (r.covers i now) := by unfold covers; exact inferInstance
def tookProtect (x : Rp) : RS :=
 let i := r.call.i
 if r.step = 7 then r.load 5 r.call.slot r.call.gen r.call.field
 else if r.step = 5 then
  if r.dating then { r with word := x.word }.era 6
  else if r.engine = 2 ∧ x.word.slot ≠ 0 ∧ r.holds i.toNat ≠ x.word.ref' then { r with word := x.word }.post 7 i x.word.ref'
  else { r with word := x.word }.finish ⟨x.word, true⟩
 else if r.step = 6 then
  let now := x.word.num
  if r.covers i now then r.finish ⟨r.word, true⟩
  else if r.engine = 3 then r.post 7 i (Wd.num' now)
  else r.announce 7 ⟨true, if r.span.is = true then r.span.low else now, now⟩
 else r
def tookRetire (x : Rp) : RS :=
 if r.step = 9 then { r with word := x.word }.era 10
 else if r.step = 10 then
  let s := { r with clock := x.word }.note r.word.num x.word.num
  if r.dating then s.advance 11 else s.noted
 else if r.step = 11 then r.noted
 else r
def hear (w : Wd) : Sp := if w.mark = true then ⟨true, w.num, w.tag⟩ else Sp.zero
def may (now : Int) (l : List Sp) : Bool := l.all fun s => !(s.is && s.low != now)
def reap : RS :=
 match r.doomed with
 | [] => r.done
 | d :: _ => r.ask 16 ⟨5, 0, 0, 0, d.ref, Wd.zero⟩
def keepSlot (w : Wd) (n : Nt) : Bool := w.slot == n.ref.slot
def keepEra (e : Int) (n : Nt) : Bool := decide (0 < e ∧ n.birth ≤ e ∧ e ≤ n.death)
def keepSpan (s : Sp) (n : Nt) : Bool := s.is && decide (s.low ≤ n.death ∧ s.high ≥ n.birth)
def keepEpoch (now : Int) (n : Nt) : Bool := decide (now < -9223372036854775808 + 2 ∨ n.death > now - 2)
def kept (n : Nt) : Bool :=
 if r.engine = 2 then r.seen.any fun w => keepSlot w n
 else if r.engine = 3 then r.seen.any fun w => keepEra w.num n
 else if r.engine = 5 then r.seen.any fun w => keepSpan (hear w) n
 else if r.engine = 4 then keepEpoch r.clock.num n
 else true
def sift : RS :=
 (if 2 ≤ r.engine ∧ r.engine ≤ 5 then { r with doomed := r.notes.filter fun n => !r.kept n } else r).reap
def tookScan (x : Rp) : RS :=
 if r.step = 12 then (({ r with clock := x.word } : RS).look 0).getD { r with clock := x.word }
 else if r.step = 13 then
  let s : RS := { r with seen := r.seen ++ [x.word] }
  match s.look (r.index + 1) with
  | some t => t
  | none =>
   if r.engine ≠ 4 then s.sift
   else if may s.clock.num (s.seen.map hear) = true then s.advance 14
   else s.era 15
 else if r.step = 14 then r.era 15
 else if r.step = 15 then { r with clock := x.word }.sift
 else if r.step = 16 then
  match r.doomed with
  | [] => r
  | d :: l => { r with notes := r.notes.erase d, freed := r.freed + 1, doomed := l }.reap
 else r
def took (x : Rp) : RS × Bool :=
 if r.step = 0 then (r, false)
 else if r.step = 1 then (r.finish x, true)
 else if r.step = 2 then (r.done, true)
 else if r.step = 3 then (r.announce 2 ⟨true, x.word.num, x.word.num⟩, true)
 else if r.step = 4 then (r.leave (r.index + 1), true)
 else if r.step = 8 then (r.ask 1 ⟨4, 0, 0, 0, Wd.zero, Wd.num' x.word.num⟩, true)
 else if r.step = 5 ∨ r.step = 6 ∨ r.step = 7 then (r.tookProtect x, true)
 else if r.step = 9 ∨ r.step = 10 ∨ r.step = 11 then (r.tookRetire x, true)
 else (r.tookScan x, true)
end RS
def RS.new (engine me threads most : Int) : RS := ⟨Ca.zero, 0, Ac.zero, Wd.zero, Wd.zero, 0, [], [], engine, me, threads, most, fun _ => Wd.zero, Sp.zero, [], 0, ⟨Wd.zero, false⟩⟩
end Go.Proofs.YthomdlajobnmnaaDoor

set_option linter.unusedSimpArgs false
set_option linter.unusedVariables false
namespace Go.Proofs.YthomdlajobnmnaaDoor
open Go.Rex
structure Lo where
 engine : Int
 me : Int
 threads : Int
 most : Int
 h : Nat → Wd
 s : Sp
 notes : List Nt
 freed : Int
namespace Lo
variable (l : Lo)
def keeping : Prop := l.engine = 2 ∨ l.engine = 3
def dating : Prop := l.engine = 3 ∨ l.engine = 5
def spanning : Prop := l.engine = 4 ∨ l.engine = 5
instance : Decidable l.keeping := by unfold keeping; exact inferInstance
instance : Decidable l.dating := by unfold dating; exact inferInstance
instance : Decidable l.spanning := by unfold spanning; exact inferInstance
def hold (n : Int) (w : Wd) : Lo := { l with h := fun i => if i = n.toNat then w else l.h i }
def all : Int := if l.keeping then l.threads * 9 else l.threads
def base : Int := if l.keeping then 25 else 79
end Lo
inductive RT where
 | idle (x : Rp)
 | one (a : Ac)
 | fin (a : Ac)
 | eClk
 | lKeep (i : Int)
 | pLoad (c : Ca)
 | pClk (c : Ca) (w : Wd)
 | pSto (c : Ca) (a : Ac)
 | aClk
 | rBirth (old : Wd)
 | rClk (old : Wd) (b : Int)
 | rAdv (clock : Wd)
 | sClk
 | sLoad (clock : Wd) (seen : List Wd)
 | sAdv (clock : Wd)
 | sAgain
 | sFree (d : Nt) (l : List Nt)
def Ac.load (slot gen field : Int) : Ac := ⟨1, slot, gen, field, Wd.zero, Wd.zero⟩
def Ac.era : Ac := Ac.load 0 0 24
def Ac.adv (clock : Wd) : Ac := ⟨3, 0, 0, 24, clock, ⟨0, 0, clock.tag + 1, clock.num + 1, false⟩⟩
def Ac.store (slot gen field : Int) (w : Wd) : Ac := ⟨2, slot, gen, field, Wd.zero, w⟩
def RT.acc (l : Lo) : RT → Ac
 | .idle _ => Ac.zero
 | .one a => a
 | .fin a => a
 | .eClk => Ac.era
 | .lKeep i => Ac.store 0 0 (25 + l.me * 9 + i) Wd.zero
 | .pLoad c => Ac.load c.slot c.gen c.field
 | .pClk _ _ => Ac.era
 | .pSto _ a => a
 | .aClk => Ac.era
 | .rBirth old => Ac.load old.slot old.gen 9
 | .rClk _ _ => Ac.era
 | .rAdv clock => Ac.adv clock
 | .sClk => Ac.era
 | .sLoad _ seen => Ac.load 0 0 (l.base + seen.length)
 | .sAdv clock => Ac.adv clock
 | .sAgain => Ac.era
 | .sFree d _ => ⟨5, 0, 0, 0, d.ref, Wd.zero⟩
def RT.stepNo : RT → Int
 | .idle _ => 0
 | .one _ => 1
 | .fin _ => 2
 | .eClk => 3
 | .lKeep _ => 4
 | .pLoad _ => 5
 | .pClk _ _ => 6
 | .pSto _ _ => 7
 | .aClk => 8
 | .rBirth _ => 9
 | .rClk _ _ => 10
 | .rAdv _ => 11
 | .sClk => 12
 | .sLoad _ _ => 13
 | .sAdv _ => 14
 | .sAgain => 15
 | .sFree _ _ => 16
def Rp.yes : Rp := ⟨Wd.zero, true⟩
abbrev LR := Lo × RT
namespace RT
def spanSto (l : Lo) (s : Sp) : Ac := Ac.store 0 0 (79 + l.me) (RS.spanW s)
def leave (l : Lo) (start : Int) : LR :=
 if l.spanning ∧ l.s ≠ Sp.zero then ({ l with s := Sp.zero }, .fin (spanSto l Sp.zero))
 else if l.keeping then
  match RS.first l.h start.toNat (9 - start.toNat) with
  | some n => (l.hold n Wd.zero, .lKeep n)
  | none => (l, .idle Rp.yes)
 else (l, .idle Rp.yes)
def scan (l : Lo) : LR :=
 if l.engine = 1 then (l, .idle Rp.yes)
 else if l.engine = 4 then (l, .sClk)
 else (l, .sLoad Wd.zero [])
def noted (l : Lo) : LR := if l.notes.length ≥ l.most then scan l else (l, .idle Rp.yes)
def note (l : Lo) (old : Wd) (b d : Int) : Lo := { l with notes := l.notes ++ [⟨old.ref', b, d⟩] }
def retire (l : Lo) (old : Wd) : LR :=
 if l.engine = 2 then noted (note l old 0 0)
 else if l.engine = 4 then (l, .rClk old 0)
 else if l.engine = 3 ∨ l.engine = 5 then (l, .rBirth old)
 else (l, .idle Rp.yes)
def begin (l : Lo) (c : Ca) : LR :=
 if c.kind = 1 then (if l.spanning then (l, .eClk) else (l, .idle Rp.yes))
 else if c.kind = 2 then leave l 0
 else if c.kind = 3 then (l, .one (Ac.load c.slot c.gen c.field))
 else if c.kind = 4 then (l, .one ⟨2, c.slot, c.gen, c.field, c.old, c.new⟩)
 else if c.kind = 5 then (l, .one ⟨3, c.slot, c.gen, c.field, c.old, c.new⟩)
 else if c.kind = 6 then (l, .pLoad c)
 else if c.kind = 7 then (if l.keeping ∧ l.h c.i.toNat ≠ l.h c.j.toNat then (l.hold c.i (l.h c.j.toNat), .fin (Ac.store 0 0 (25 + l.me * 9 + c.i) (l.h c.j.toNat))) else (l, .idle Rp.yes))
 else if c.kind = 8 then (if l.dating then (l, .aClk) else (l, .one ⟨4, 0, 0, 0, Wd.zero, Wd.zero⟩))
 else if c.kind = 9 then (l, .fin ⟨5, 0, 0, 0, c.old, Wd.zero⟩)
 else if c.kind = 10 then retire l c.old
 else scan l
def covers (l : Lo) (i now : Int) : Prop :=
 if l.engine = 3 then l.h i.toNat ≠ Wd.zero ∧ (l.h i.toNat).num = now
 else l.s.is = true ∧ l.s.high = now
instance (l : Lo) (i now : Int) : Decidable (covers l i now) := by unfold covers; exact inferInstance
def kept (l : Lo) (clock : Wd) (seen : List Wd) (n : Nt) : Bool :=
 if l.engine = 2 then seen.any fun w => RS.keepSlot w n
 else if l.engine = 3 then seen.any fun w => RS.keepEra w.num n
 else if l.engine = 5 then seen.any fun w => RS.keepSpan (RS.hear w) n
 else RS.keepEpoch clock.num n
def reap (l : Lo) : List Nt → LR
 | [] => (l, .idle Rp.yes)
 | d :: r => (l, .sFree d r)
def sift (l : Lo) (clock : Wd) (seen : List Wd) : LR := reap l (l.notes.filter fun n => !kept l clock seen n)
def took (l : Lo) : RT → Rp → LR
 | .idle x, _ => (l, .idle x)
 | .one _, x => (l, .idle x)
 | .fin _, _ => (l, .idle Rp.yes)
 | .eClk, x => ({ l with s := ⟨true, x.word.num, x.word.num⟩ }, .fin (spanSto l ⟨true, x.word.num, x.word.num⟩))
 | .lKeep i, _ => leave l (i + 1)
 | .pLoad c, x =>
  if l.dating then (l, .pClk c x.word)
  else if l.engine = 2 ∧ x.word.slot ≠ 0 ∧ l.h c.i.toNat ≠ x.word.ref' then (l.hold c.i x.word.ref', .pSto c (Ac.store 0 0 (25 + l.me * 9 + c.i) x.word.ref'))
  else (l, .idle ⟨x.word, true⟩)
 | .pClk c w, x =>
  if covers l c.i x.word.num then (l, .idle ⟨w, true⟩)
  else if l.engine = 3 then (l.hold c.i (Wd.num' x.word.num), .pSto c (Ac.store 0 0 (25 + l.me * 9 + c.i) (Wd.num' x.word.num)))
  else ({ l with s := ⟨true, if l.s.is = true then l.s.low else x.word.num, x.word.num⟩ }, .pSto c (spanSto l ⟨true, if l.s.is = true then l.s.low else x.word.num, x.word.num⟩))
 | .pSto c _, _ => (l, .pLoad c)
 | .aClk, x => (l, .one ⟨4, 0, 0, 0, Wd.zero, Wd.num' x.word.num⟩)
 | .rBirth old, x => (l, .rClk old x.word.num)
 | .rClk old b, x => if l.dating then (note l old b x.word.num, .rAdv x.word) else noted (note l old b x.word.num)
 | .rAdv _, _ => noted l
 | .sClk, x => (l, .sLoad x.word [])
 | .sLoad clock seen, x =>
  if (seen.length : Int) + 1 < l.all then (l, .sLoad clock (seen ++ [x.word]))
  else if l.engine ≠ 4 then sift l clock (seen ++ [x.word])
  else if RS.may clock.num ((seen ++ [x.word]).map RS.hear) = true then (l, .sAdv clock)
  else (l, .sAgain)
 | .sAdv _, _ => (l, .sAgain)
 | .sAgain, x => sift l x.word []
 | .sFree d r, _ => reap { l with notes := l.notes.erase d, freed := l.freed + 1 } r
end RT
structure Rep (l : Lo) (t : RT) (r : RS) : Prop where
 engine : r.engine = l.engine
 me : r.me = l.me
 threads : r.threads = l.threads
 most : r.most = l.most
 holds : r.holds = l.h
 span : r.span = l.s
 notes : r.notes = l.notes
 freed : r.freed = l.freed
 step : r.step = t.stepNo
 acc : t.stepNo ≠ 0 → r.acc = t.acc l
 more : match t with
  | .idle x => r.reply = x
  | .lKeep i => r.index = i
  | .pLoad c => r.call = c
  | .pClk c w => r.call = c ∧ r.word = w
  | .pSto c _ => r.call = c
  | .rBirth old => r.call.old = old ∧ r.seen = []
  | .rClk old b => r.call.old = old ∧ r.word.num = b ∧ r.seen = []
  | .rAdv _ => r.seen = []
  | .sClk => r.seen = []
  | .sLoad clock seen => (l.engine = 4 → r.clock = clock) ∧ r.seen = seen ∧ r.index = seen.length
  | .sFree d rest => r.doomed = d :: rest
  | _ => True
structure Lo.OK (l : Lo) : Prop where
 engine : 1 ≤ l.engine ∧ l.engine ≤ 5
 me : 0 ≤ l.me ∧ l.me < l.threads
 threads : 1 ≤ l.threads ∧ l.threads ≤ 6
 most : 1 ≤ l.most
section
variable {l : Lo} {r : RS}
theorem Rep.keeping {t : RT} (h : Rep l t r) : r.keeping ↔ l.keeping := by simp only [RS.keeping, Lo.keeping, h.engine]
theorem Rep.dating {t : RT} (h : Rep l t r) : r.dating ↔ l.dating := by simp only [RS.dating, Lo.dating, h.engine]
theorem Rep.spanning {t : RT} (h : Rep l t r) : r.spanning ↔ l.spanning := by simp only [RS.spanning, Lo.spanning, h.engine]
end
structure Keeps (l : Lo) (r : RS) : Prop where
 engine : r.engine = l.engine
 me : r.me = l.me
 threads : r.threads = l.threads
 most : r.most = l.most
 holds : r.holds = l.h
 span : r.span = l.s
 notes : r.notes = l.notes
 freed : r.freed = l.freed
theorem Rep.keeps {l : Lo} {t : RT} {r : RS} (h : Rep l t r) : Keeps l r := ⟨h.engine, h.me, h.threads, h.most, h.holds, h.span, h.notes, h.freed⟩
section
variable {l : Lo} {r : RS}
theorem Keeps.keeping (h : Keeps l r) : r.keeping ↔ l.keeping := by simp only [RS.keeping, Lo.keeping, h.engine]
theorem Keeps.dating (h : Keeps l r) : r.dating ↔ l.dating := by simp only [RS.dating, Lo.dating, h.engine]
theorem Keeps.spanning (h : Keeps l r) : r.spanning ↔ l.spanning := by simp only [RS.spanning, Lo.spanning, h.engine]
theorem Keeps.fin (h : Keeps l r) (x : Rp) : Rep l (.idle x) (r.finish x) :=
 ⟨h.engine, h.me, h.threads, h.most, h.holds, h.span, h.notes, h.freed, rfl, fun h => absurd rfl h, rfl⟩
theorem Keeps.done (h : Keeps l r) : Rep l (.idle Rp.yes) r.done := h.fin _
theorem Keeps.ask (h : Keeps l r) {t : RT} {a : Ac} (h0 : t.stepNo ≠ 0) (ha : a = t.acc l) (hm : match t with
    | .idle x => r.reply = x
    | .lKeep i => r.index = i
    | .pLoad c => r.call = c
    | .pClk c w => r.call = c ∧ r.word = w
    | .pSto c _ => r.call = c
    | .rBirth old => r.call.old = old ∧ r.seen = []
    | .rClk old b => r.call.old = old ∧ r.word.num = b ∧ r.seen = []
    | .rAdv _ => r.seen = []
    | .sClk => r.seen = []
    | .sLoad clock seen => (l.engine = 4 → r.clock = clock) ∧ r.seen = seen ∧ r.index = seen.length
    | .sFree d rest => r.doomed = d :: rest
    | _ => True) : Rep l t (r.ask t.stepNo a) := by
 refine ⟨h.engine, h.me, h.threads, h.most, h.holds, h.span, h.notes, h.freed, rfl, fun _ => ha, ?_⟩
 cases t <;> exact hm
theorem Keeps.hold (h : Keeps l r) (n : Int) (w : Wd) : Keeps (l.hold n w) (r.hold n w) :=
 ⟨h.engine, h.me, h.threads, h.most, by simp only [RS.hold, Lo.hold, h.holds], h.span, h.notes, h.freed⟩
theorem Keeps.leave (h : Keeps l r) (n : Int) : Rep (RT.leave l n).1 (RT.leave l n).2 (r.leave n) := by
 have c1 : (r.spanning ∧ r.span ≠ Sp.zero) ↔ (l.spanning ∧ l.s ≠ Sp.zero) := by rw [h.spanning, h.span]
 unfold RS.leave RT.leave
 by_cases hA : l.spanning ∧ l.s ≠ Sp.zero
 ·rw [if_pos (c1.2 hA), if_pos hA]
  refine Keeps.ask (l := { l with s := Sp.zero }) (r := { r with span := Sp.zero }) (t := .fin (RT.spanSto l Sp.zero)) ⟨h.engine, h.me, h.threads, h.most, h.holds, rfl, h.notes, h.freed⟩ (show (2 : Int) ≠ 0 by decide) ?_ trivial
  show (⟨2, 0, 0, 79 + r.me, Wd.zero, RS.spanW Sp.zero⟩ : Ac) = _
  rw [h.me]; rfl
 ·rw [if_neg (fun x => hA (c1.1 x)), if_neg hA]
  by_cases hB : l.keeping
  ·rw [if_pos (h.keeping.2 hB), if_pos hB]
   have e : RS.first r.holds n.toNat (9 - n.toNat) = RS.first l.h n.toNat (9 - n.toNat) := by rw [h.holds]
   rw [e]
   cases RS.first l.h n.toNat (9 - n.toNat) with
   | some k =>
    refine Keeps.ask (l := l.hold k Wd.zero) (r := ({ r with index := k } : RS).hold k Wd.zero) (t := .lKeep k) (Keeps.hold (r := { r with index := k }) ⟨h.engine, h.me, h.threads, h.most, h.holds, h.span, h.notes, h.freed⟩ _ _) (show (4 : Int) ≠ 0 by decide) ?_ rfl
    show (⟨2, 0, 0, 25 + r.me * 9 + k, Wd.zero, Wd.zero⟩ : Ac) = _
    rw [h.me]; rfl
   | none => exact h.done
  ·rw [if_neg (fun x => hB (h.keeping.1 x)), if_neg hB]
   exact h.done
theorem Keeps.look (h : Keeps l r) (n : Int) {clock : Wd} {seen : List Wd} (hn : n = seen.length) (hc : l.engine = 4 → r.clock = clock) (hs : r.seen = seen) :
  if n < l.all then ∃ q, r.look n = some q ∧ Rep l (.sLoad clock seen) q else r.look n = none := by
 unfold RS.look Lo.all
 by_cases hB : l.keeping
 ·rw [if_pos hB, if_pos (h.keeping.2 hB)]
  have ht := h.threads
  by_cases hn' : n < l.threads * 9
  ·rw [if_pos hn', if_neg (by omega)]
   refine ⟨_, rfl, ⟨h.engine, h.me, h.threads, h.most, h.holds, h.span, h.notes, h.freed, rfl, fun _ => ?_, hc, hs, hn⟩⟩
   show (⟨1, 0, 0, 25 + n, Wd.zero, Wd.zero⟩ : Ac) = Ac.load 0 0 (l.base + seen.length)
   rw [hn, Lo.base, if_pos hB]; rfl
  ·rw [if_neg hn', if_pos (by omega)]
 ·rw [if_neg hB, if_neg (fun x => hB (h.keeping.1 x))]
  have ht := h.threads
  by_cases hn' : n < l.threads
  ·rw [if_pos hn', if_neg (by omega)]
   refine ⟨_, rfl, ⟨h.engine, h.me, h.threads, h.most, h.holds, h.span, h.notes, h.freed, rfl, fun _ => ?_, hc, hs, hn⟩⟩
   show (⟨1, 0, 0, 79 + n, Wd.zero, Wd.zero⟩ : Ac) = Ac.load 0 0 (l.base + seen.length)
   rw [hn, Lo.base, if_neg hB]; rfl
  ·rw [if_neg hn', if_pos (by omega)]
theorem Lo.OK.all {l : Lo} (h : l.OK) : 0 < l.all := by
 have := h.threads
 unfold Lo.all
 split <;> omega
theorem Keeps.look0 (h : Keeps l r) (ho : l.OK) {clock : Wd} (hc : l.engine = 4 → r.clock = clock) (hs : r.seen = []) : Rep l (.sLoad clock []) ((r.look 0).getD r) := by
 have := h.look 0 (clock := clock) (seen := []) rfl hc hs
 rw [if_pos ho.all] at this
 obtain ⟨q, h1, h2⟩ := this
 rw [h1]
 exact h2
theorem Keeps.scan (h : Keeps l r) (ho : l.OK) (hs : r.seen = []) : Rep (RT.scan l).1 (RT.scan l).2 r.scan := by
 unfold RS.scan RT.scan
 rw [h.engine]
 by_cases h1 : l.engine = 1
 ·rw [if_pos h1, if_pos h1]; exact h.done
 ·rw [if_neg h1, if_neg h1]
  by_cases h4 : l.engine = 4
  ·rw [if_pos h4, if_pos h4]
   exact h.ask (t := .sClk) (show (12 : Int) ≠ 0 by decide) rfl hs
  ·rw [if_neg h4, if_neg h4]
   exact h.look0 ho (fun h => absurd h h4) hs
theorem Keeps.noted (h : Keeps l r) (ho : l.OK) (hs : r.seen = []) : Rep (RT.noted l).1 (RT.noted l).2 r.noted := by
 unfold RS.noted RT.noted
 rw [h.notes, h.most]
 split
 ·exact h.scan ho hs
 ·exact h.done
theorem Keeps.note (h : Keeps l r) (b d : Int) : Keeps (RT.note l r.call.old b d) (r.note b d) :=
 ⟨h.engine, h.me, h.threads, h.most, h.holds, h.span, by simp only [RS.note, RT.note, h.notes], h.freed⟩
theorem Lo.OK.note {l : Lo} (h : l.OK) (w : Wd) (b d : Int) : (RT.note l w b d).OK := ⟨h.engine, h.me, h.threads, h.most⟩
theorem Keeps.retire (h : Keeps l r) (ho : l.OK) (hs : r.seen = []) (hw : r.word.num = 0) : Rep (RT.retire l r.call.old).1 (RT.retire l r.call.old).2 r.retire := by
 unfold RS.retire RT.retire
 rw [h.engine]
 by_cases h2 : l.engine = 2
 ·rw [if_pos h2, if_pos h2]
  exact (h.note 0 0).noted (ho.note _ _ _) hs
 rw [if_neg h2, if_neg h2]
 by_cases h4 : l.engine = 4
 ·rw [if_pos h4, if_pos h4]
  exact h.ask (t := .rClk r.call.old 0) (show (10 : Int) ≠ 0 by decide) rfl ⟨rfl, hw, hs⟩
 rw [if_neg h4, if_neg h4]
 by_cases h35 : l.engine = 3 ∨ l.engine = 5
 ·rw [if_pos h35, if_pos h35]
  exact h.ask (t := .rBirth r.call.old) (show (9 : Int) ≠ 0 by decide) rfl ⟨rfl, hs⟩
 rw [if_neg h35, if_neg h35]
 exact h.done
def Ca.OK (c : Ca) : Prop := 1 ≤ c.kind ∧ c.kind ≤ 11 ∧ 0 ≤ c.i ∧ c.i < 9 ∧ 0 ≤ c.j ∧ c.j < 9
theorem Keeps.opened (h : Keeps l r) (ho : l.OK) (hs : r.seen = []) (hw : r.word.num = 0) (hc : r.call.OK) : Rep (RT.begin l r.call).1 (RT.begin l r.call).2 r.opened := by
 unfold RS.opened RT.begin
 simp only
 by_cases k1 : r.call.kind = 1
 ·rw [if_pos k1, if_pos k1]
  by_cases g : l.spanning
  ·rw [if_pos g, if_pos (h.spanning.2 g)]
   exact h.ask (t := .eClk) (show (3 : Int) ≠ 0 by decide) rfl trivial
  ·rw [if_neg g, if_neg (fun x => g (h.spanning.1 x))]
   exact h.done
 rw [if_neg k1, if_neg k1]
 by_cases k2 : r.call.kind = 2
 ·rw [if_pos k2, if_pos k2]
  exact h.leave 0
 rw [if_neg k2, if_neg k2]
 by_cases k3 : r.call.kind = 3
 ·rw [if_pos k3, if_pos k3]
  exact h.ask (t := .one (Ac.load r.call.slot r.call.gen r.call.field)) (show (1 : Int) ≠ 0 by decide) rfl trivial
 rw [if_neg k3, if_neg k3]
 by_cases k4 : r.call.kind = 4
 ·rw [if_pos k4, if_pos k4]
  exact h.ask (t := .one ⟨2, r.call.slot, r.call.gen, r.call.field, r.call.old, r.call.new⟩) (show (1 : Int) ≠ 0 by decide) rfl trivial
 rw [if_neg k4, if_neg k4]
 by_cases k5 : r.call.kind = 5
 ·rw [if_pos k5, if_pos k5]
  exact h.ask (t := .one ⟨3, r.call.slot, r.call.gen, r.call.field, r.call.old, r.call.new⟩) (show (1 : Int) ≠ 0 by decide) rfl trivial
 rw [if_neg k5, if_neg k5]
 by_cases k6 : r.call.kind = 6
 ·rw [if_pos k6, if_pos k6]
  exact h.ask (t := .pLoad r.call) (show (5 : Int) ≠ 0 by decide) rfl rfl
 rw [if_neg k6, if_neg k6]
 by_cases k7 : r.call.kind = 7
 ·rw [if_pos k7, if_pos k7]
  have e : (r.keeping ∧ r.holds r.call.i.toNat ≠ r.holds r.call.j.toNat) ↔ (l.keeping ∧ l.h r.call.i.toNat ≠ l.h r.call.j.toNat) := by rw [h.keeping, h.holds]
  by_cases g : l.keeping ∧ l.h r.call.i.toNat ≠ l.h r.call.j.toNat
  ·rw [if_pos g, if_pos (e.2 g)]
   have h' := h.hold r.call.i (l.h r.call.j.toNat)
   have e2 : r.post 2 r.call.i (r.holds r.call.j.toNat) = (r.hold r.call.i (l.h r.call.j.toNat)).ask 2 ⟨2, 0, 0, 25 + l.me * 9 + r.call.i, Wd.zero, l.h r.call.j.toNat⟩ := by
    unfold RS.post
    rw [h.holds, h.me]
   rw [e2]
   exact h'.ask (t := .fin (Ac.store 0 0 (25 + l.me * 9 + r.call.i) (l.h r.call.j.toNat))) (show (2 : Int) ≠ 0 by decide) rfl trivial
  ·rw [if_neg g, if_neg (fun x => g (e.1 x))]
   exact h.done
 rw [if_neg k7, if_neg k7]
 by_cases k8 : r.call.kind = 8
 ·rw [if_pos k8, if_pos k8]
  by_cases g : l.dating
  ·rw [if_pos g, if_pos (h.dating.2 g)]
   exact h.ask (t := .aClk) (show (8 : Int) ≠ 0 by decide) rfl trivial
  ·rw [if_neg g, if_neg (fun x => g (h.dating.1 x))]
   exact h.ask (t := .one ⟨4, 0, 0, 0, Wd.zero, Wd.zero⟩) (show (1 : Int) ≠ 0 by decide) rfl trivial
 rw [if_neg k8, if_neg k8]
 by_cases k9 : r.call.kind = 9
 ·rw [if_pos k9, if_pos k9]
  exact h.ask (t := .fin ⟨5, 0, 0, 0, r.call.old, Wd.zero⟩) (show (2 : Int) ≠ 0 by decide) rfl trivial
 rw [if_neg k9, if_neg k9]
 by_cases k10 : r.call.kind = 10
 ·rw [if_pos k10, if_pos k10]
  exact h.retire ho hs hw
 rw [if_neg k10, if_neg k10, if_pos (by have := hc.1; have := hc.2.1; omega)]
 exact h.scan ho hs
theorem Rep.begin {x : Rp} (h : Rep l (.idle x) r) (ho : l.OK) {c : Ca} (hc : c.OK) : Rep (RT.begin l c).1 (RT.begin l c).2 (r.begin c).1 ∧ (r.begin c).2 = true := by
 have hs : r.step = 0 := h.step
 unfold RS.begin
 obtain ⟨c1, c2, c3, c4, c5, c6⟩ := hc
 rw [if_neg (by omega), if_neg (by omega), if_neg (by omega)]
 exact ⟨Keeps.opened (r := { r with call := c, step := 0, acc := Ac.zero, word := Wd.zero, clock := Wd.zero, index := 0, seen := [], doomed := [] }) ⟨h.engine, h.me, h.threads, h.most, h.holds, h.span, h.notes, h.freed⟩ ho rfl rfl ⟨c1, c2, c3, c4, c5, c6⟩, rfl⟩
theorem Keeps.announce (h : Keeps l r) (s : Sp) {t : RT} (ht : t = .fin (RT.spanSto l s) ∨ ∃ c, t = .pSto c (RT.spanSto l s) ∧ r.call = c) : Rep { l with s := s } t (r.announce t.stepNo s) := by
 have h' : Keeps { l with s := s } { r with span := s } := ⟨h.engine, h.me, h.threads, h.most, h.holds, rfl, h.notes, h.freed⟩
 have e : (⟨2, 0, 0, 79 + r.me, Wd.zero, RS.spanW s⟩ : Ac) = RT.spanSto l s := by rw [h.me]; rfl
 unfold RS.announce
 rw [e]
 rcases ht with rfl | ⟨c, rfl, hc⟩
 ·exact h'.ask (t := .fin (RT.spanSto l s)) (show (2 : Int) ≠ 0 by decide) rfl trivial
 ·exact h'.ask (t := .pSto c (RT.spanSto l s)) (show (7 : Int) ≠ 0 by decide) rfl hc
theorem Keeps.reap (h : Keeps l r) : Rep (RT.reap l r.doomed).1 (RT.reap l r.doomed).2 r.reap := by
 unfold RS.reap RT.reap
 cases hd : r.doomed with
 | nil => exact h.done
 | cons d q => exact h.ask (t := .sFree d q) (show (16 : Int) ≠ 0 by decide) rfl hd
theorem Keeps.sift (h : Keeps l r) (ho : l.OK) (h1 : l.engine ≠ 1) {clock : Wd} {seen : List Wd} (hc : l.engine = 4 → r.clock = clock) (hs : r.seen = seen ∨ l.engine = 4) : Rep (RT.sift l clock seen).1 (RT.sift l clock seen).2 r.sift := by
 have ho1 := ho.engine
 unfold RS.sift RT.sift
 rw [if_pos (by rw [h.engine]; omega)]
 have e : (r.notes.filter fun n => !r.kept n) = l.notes.filter fun n => !RT.kept l clock seen n := by
  rw [h.notes]
  congr 1
  funext n
  congr 1
  unfold RS.kept RT.kept
  rw [h.engine]
  split
  ·rename_i e; rcases hs with hs | hs
   ·rw [hs]
   ·omega
  split
  ·rcases hs with hs | hs
   ·rw [hs]
   ·omega
  split
  ·rcases hs with hs | hs
   ·rw [hs]
   ·omega
  rw [if_pos (by omega), hc (by omega)]
 have := Keeps.reap (l := l) (r := { r with doomed := r.notes.filter fun n => !r.kept n }) ⟨h.engine, h.me, h.threads, h.most, h.holds, h.span, h.notes, h.freed⟩
 rw [e] at this
 rw [e]
 exact this
def RT.fits (l : Lo) : RT → Prop
 | .pClk _ _ => l.dating
 | .sClk | .sAdv _ | .sAgain => l.engine = 4
 | .sLoad _ _ => l.engine ≠ 1
 | .pLoad c | .pSto c _ => 0 ≤ c.i ∧ c.i < 9
 | _ => True
theorem Rep.took {t : RT} (h : Rep l t r) (ho : l.OK) (hf : t.fits l) (h0 : t.stepNo ≠ 0) (x : Rp) : Rep (RT.took l t x).1 (RT.took l t x).2 (r.took x).1 ∧ (r.took x).2 = true := by
 have hk := h.keeps
 have hs := h.step
 have hm := h.more
 unfold RS.took
 cases t with
 | idle y => exact absurd rfl h0
 | one a =>
  replace hs : r.step = 1 := hs
  rw [if_neg (by omega), if_pos hs]
  exact ⟨hk.fin x, rfl⟩
 | fin a =>
  replace hs : r.step = 2 := hs
  rw [if_neg (by omega), if_neg (by omega), if_pos hs]
  exact ⟨hk.done, rfl⟩
 | eClk =>
  replace hs : r.step = 3 := hs
  rw [if_neg (by omega), if_neg (by omega), if_neg (by omega), if_pos hs]
  exact ⟨hk.announce _ (t := .fin _) (.inl rfl), rfl⟩
 | lKeep i =>
  replace hs : r.step = 4 := hs
  replace hm : r.index = i := hm
  rw [if_neg (by omega), if_neg (by omega), if_neg (by omega), if_neg (by omega), if_pos hs, hm]
  exact ⟨hk.leave _, rfl⟩
 | aClk =>
  replace hs : r.step = 8 := hs
  rw [if_neg (by omega), if_neg (by omega), if_neg (by omega), if_neg (by omega), if_neg (by omega), if_pos hs]
  exact ⟨hk.ask (t := .one _) (show (1 : Int) ≠ 0 by decide) rfl trivial, rfl⟩
 | pSto c a =>
  replace hs : r.step = 7 := hs
  replace hm : r.call = c := hm
  subst hm
  rw [if_neg (by omega), if_neg (by omega), if_neg (by omega), if_neg (by omega), if_neg (by omega), if_neg (by omega), if_pos (by omega)]
  refine ⟨?_, rfl⟩
  unfold RS.tookProtect
  simp only
  rw [if_pos hs]
  exact hk.ask (t := .pLoad r.call) (show (5 : Int) ≠ 0 by decide) rfl rfl
 | pLoad c =>
  replace hs : r.step = 5 := hs
  replace hm : r.call = c := hm
  subst hm
  rw [if_neg (by omega), if_neg (by omega), if_neg (by omega), if_neg (by omega), if_neg (by omega), if_neg (by omega), if_pos (by omega)]
  refine ⟨?_, rfl⟩
  have hk' : Keeps l { r with word := x.word } := ⟨h.engine, h.me, h.threads, h.most, h.holds, h.span, h.notes, h.freed⟩
  unfold RS.tookProtect
  simp only
  rw [if_neg (by omega), if_pos hs]
  show Rep (if l.dating then _ else _ : LR).1 (if l.dating then _ else _ : LR).2 _
  by_cases hd : l.dating
  ·rw [if_pos (h.dating.2 hd), if_pos hd]
   exact hk'.ask (t := .pClk r.call x.word) (show (6 : Int) ≠ 0 by decide) rfl ⟨rfl, rfl⟩
  rw [if_neg (fun y => hd (h.dating.1 y)), if_neg hd]
  have e : (r.engine = 2 ∧ x.word.slot ≠ 0 ∧ r.holds r.call.i.toNat ≠ x.word.ref') ↔ (l.engine = 2 ∧ x.word.slot ≠ 0 ∧ l.h r.call.i.toNat ≠ x.word.ref') := by rw [h.engine, h.holds]
  by_cases g : l.engine = 2 ∧ x.word.slot ≠ 0 ∧ l.h r.call.i.toNat ≠ x.word.ref'
  ·rw [if_pos (e.2 g), if_pos g]
   have e2 : ({ r with word := x.word } : RS).post 7 r.call.i x.word.ref' = (({ r with word := x.word } : RS).hold r.call.i x.word.ref').ask 7 (Ac.store 0 0 (25 + l.me * 9 + r.call.i) x.word.ref') := by
    unfold RS.post
    rw [show ({ r with word := x.word } : RS).me = l.me from h.me]
    rfl
   rw [e2]
   exact (hk'.hold r.call.i x.word.ref').ask (t := .pSto r.call (Ac.store 0 0 (25 + l.me * 9 + r.call.i) x.word.ref')) (show (7 : Int) ≠ 0 by decide) rfl rfl
  ·rw [if_neg (fun y => g (e.1 y)), if_neg g]
   exact hk'.fin _
 | pClk c w =>
  replace hs : r.step = 6 := hs
  obtain ⟨hm, hw⟩ : r.call = c ∧ r.word = w := hm
  subst hm hw
  rw [if_neg (by omega), if_neg (by omega), if_neg (by omega), if_neg (by omega), if_neg (by omega), if_neg (by omega), if_pos (by omega)]
  refine ⟨?_, rfl⟩
  unfold RS.tookProtect
  simp only
  rw [if_neg (by omega), if_neg (by omega), if_pos hs]
  show Rep (if RT.covers l r.call.i x.word.num then _ else _ : LR).1 (if RT.covers l r.call.i x.word.num then _ else _ : LR).2 _
  have e : r.covers r.call.i x.word.num ↔ RT.covers l r.call.i x.word.num := by unfold RS.covers RT.covers; rw [h.engine, h.holds, h.span]
  by_cases g : RT.covers l r.call.i x.word.num
  ·rw [if_pos (e.2 g), if_pos g]
   exact hk.fin _
  rw [if_neg (fun y => g (e.1 y)), if_neg g, h.engine]
  by_cases g3 : l.engine = 3
  ·rw [if_pos g3, if_pos g3]
   have e2 : r.post 7 r.call.i (Wd.num' x.word.num) = (r.hold r.call.i (Wd.num' x.word.num)).ask 7 (Ac.store 0 0 (25 + l.me * 9 + r.call.i) (Wd.num' x.word.num)) := by
    unfold RS.post
    rw [h.me]
    rfl
   rw [e2]
   exact (hk.hold r.call.i _).ask (t := .pSto r.call (Ac.store 0 0 (25 + l.me * 9 + r.call.i) (Wd.num' x.word.num))) (show (7 : Int) ≠ 0 by decide) rfl rfl
  ·rw [if_neg g3, if_neg g3, h.span]
   exact hk.announce _ (t := .pSto r.call _) (.inr ⟨_, rfl, rfl⟩)
 | rBirth old =>
  replace hs : r.step = 9 := hs
  obtain ⟨h1, h2⟩ : r.call.old = old ∧ r.seen = [] := hm
  rw [if_neg (by omega), if_neg (by omega), if_neg (by omega), if_neg (by omega), if_neg (by omega), if_neg (by omega), if_neg (by omega), if_pos (by omega)]
  refine ⟨?_, rfl⟩
  unfold RS.tookRetire
  rw [if_pos hs]
  have hk' : Keeps l { r with word := x.word } := ⟨h.engine, h.me, h.threads, h.most, h.holds, h.span, h.notes, h.freed⟩
  exact hk'.ask (t := .rClk old x.word.num) (show (10 : Int) ≠ 0 by decide) rfl ⟨h1, rfl, h2⟩
 | rClk old b =>
  replace hs : r.step = 10 := hs
  obtain ⟨h1, h2, h3⟩ : r.call.old = old ∧ r.word.num = b ∧ r.seen = [] := hm
  rw [if_neg (by omega), if_neg (by omega), if_neg (by omega), if_neg (by omega), if_neg (by omega), if_neg (by omega), if_neg (by omega), if_pos (by omega)]
  refine ⟨?_, rfl⟩
  unfold RS.tookRetire
  simp only
  rw [if_neg (by omega), if_pos hs, h2]
  show Rep (if l.dating then _ else _ : LR).1 (if l.dating then _ else _ : LR).2 _
  have hk' : Keeps l { r with clock := x.word } := ⟨h.engine, h.me, h.threads, h.most, h.holds, h.span, h.notes, h.freed⟩
  have hk2 := hk'.note b x.word.num
  rw [show ({ r with clock := x.word } : RS).call.old = old from h1] at hk2
  by_cases hd : l.dating
  ·rw [if_pos (h.dating.2 hd), if_pos hd]
   exact hk2.ask (t := .rAdv x.word) (show (11 : Int) ≠ 0 by decide) rfl h3
  ·rw [if_neg (fun y => hd (h.dating.1 y)), if_neg hd]
   exact hk2.noted (ho.note _ _ _) h3
 | rAdv clock =>
  replace hs : r.step = 11 := hs
  replace hm : r.seen = [] := hm
  rw [if_neg (by omega), if_neg (by omega), if_neg (by omega), if_neg (by omega), if_neg (by omega), if_neg (by omega), if_neg (by omega), if_pos (by omega)]
  refine ⟨?_, rfl⟩
  unfold RS.tookRetire
  rw [if_neg (by omega), if_neg (by omega), if_pos hs]
  exact hk.noted ho hm
 | sClk =>
  replace hs : r.step = 12 := hs
  replace hm : r.seen = [] := hm
  rw [if_neg (by omega), if_neg (by omega), if_neg (by omega), if_neg (by omega), if_neg (by omega), if_neg (by omega), if_neg (by omega), if_neg (by omega)]
  refine ⟨?_, rfl⟩
  unfold RS.tookScan
  rw [if_pos hs]
  have hk' : Keeps l { r with clock := x.word } := ⟨h.engine, h.me, h.threads, h.most, h.holds, h.span, h.notes, h.freed⟩
  exact hk'.look0 ho (fun _ => rfl) hm
 | sLoad clock seen =>
  replace hs : r.step = 13 := hs
  obtain ⟨h1, h2, h3⟩ : (l.engine = 4 → r.clock = clock) ∧ r.seen = seen ∧ r.index = seen.length := hm
  subst h2
  replace hf : l.engine ≠ 1 := hf
  rw [if_neg (by omega), if_neg (by omega), if_neg (by omega), if_neg (by omega), if_neg (by omega), if_neg (by omega), if_neg (by omega), if_neg (by omega)]
  refine ⟨?_, rfl⟩
  unfold RS.tookScan
  simp only
  rw [if_neg (by omega), if_pos hs]
  show Rep (if (r.seen.length : Int) + 1 < l.all then _ else _ : LR).1 (if (r.seen.length : Int) + 1 < l.all then _ else _ : LR).2 _
  have hk' : Keeps l { r with seen := r.seen ++ [x.word] } := ⟨h.engine, h.me, h.threads, h.most, h.holds, h.span, h.notes, h.freed⟩
  have hl := hk'.look (r.index + 1) (clock := clock) (seen := r.seen ++ [x.word]) (by rw [h3]; simp) h1 rfl
  by_cases g : (r.seen.length : Int) + 1 < l.all
  ·rw [if_pos (by omega)] at hl
   obtain ⟨q, e1, e2⟩ := hl
   rw [e1, if_pos g]
   exact e2
  ·rw [if_neg (by omega)] at hl
   rw [hl, if_neg g]
   simp only
   by_cases g4 : l.engine = 4
   ·have g4' : r.engine = 4 := h.engine.trans g4
    obtain rfl := h1 g4
    rw [if_neg (show ¬ l.engine ≠ 4 from fun y => y g4), if_neg (show ¬ r.engine ≠ 4 from fun y => y g4')]
    by_cases gm : RS.may r.clock.num ((r.seen ++ [x.word]).map RS.hear) = true
    ·rw [if_pos gm, if_pos gm]
     exact hk'.ask (t := .sAdv r.clock) (show (14 : Int) ≠ 0 by decide) rfl trivial
    ·rw [if_neg gm, if_neg gm]
     exact hk'.ask (t := .sAgain) (show (15 : Int) ≠ 0 by decide) rfl trivial
   ·rw [if_pos (show l.engine ≠ 4 from g4), if_pos (show r.engine ≠ 4 from fun y => g4 (h.engine.symm.trans y))]
    exact hk'.sift ho hf h1 (.inl rfl)
 | sAdv clock =>
  replace hs : r.step = 14 := hs
  rw [if_neg (by omega), if_neg (by omega), if_neg (by omega), if_neg (by omega), if_neg (by omega), if_neg (by omega), if_neg (by omega), if_neg (by omega)]
  refine ⟨?_, rfl⟩
  unfold RS.tookScan
  rw [if_neg (by omega), if_neg (by omega), if_pos hs]
  exact hk.ask (t := .sAgain) (show (15 : Int) ≠ 0 by decide) rfl trivial
 | sAgain =>
  replace hs : r.step = 15 := hs
  replace hf : l.engine = 4 := hf
  rw [if_neg (by omega), if_neg (by omega), if_neg (by omega), if_neg (by omega), if_neg (by omega), if_neg (by omega), if_neg (by omega), if_neg (by omega)]
  refine ⟨?_, rfl⟩
  unfold RS.tookScan
  rw [if_neg (by omega), if_neg (by omega), if_neg (by omega), if_pos hs]
  have hk' : Keeps l { r with clock := x.word } := ⟨h.engine, h.me, h.threads, h.most, h.holds, h.span, h.notes, h.freed⟩
  exact hk'.sift ho (by omega) (fun _ => rfl) (.inr hf)
 | sFree d rest =>
  replace hs : r.step = 16 := hs
  replace hm : r.doomed = d :: rest := hm
  rw [if_neg (by omega), if_neg (by omega), if_neg (by omega), if_neg (by omega), if_neg (by omega), if_neg (by omega), if_neg (by omega), if_neg (by omega)]
  refine ⟨?_, rfl⟩
  unfold RS.tookScan
  simp only
  rw [if_neg (by omega), if_neg (by omega), if_neg (by omega), if_neg (by omega), if_pos hs, hm]
  have hk' : Keeps { l with notes := l.notes.erase d, freed := l.freed + 1 } { r with notes := r.notes.erase d, freed := r.freed + 1, doomed := rest } := ⟨h.engine, h.me, h.threads, h.most, h.holds, h.span, by simp only [h.notes], by simp only [h.freed]⟩
  exact hk'.reap
theorem Rep.new {e me th mo : Int} : Rep ⟨e, me, th, mo, fun _ => Wd.zero, Sp.zero, [], 0⟩ (.idle ⟨Wd.zero, false⟩) (RS.new e me th mo) :=
 ⟨rfl, rfl, rfl, rfl, rfl, rfl, rfl, rfl, rfl, fun h => absurd rfl h, rfl⟩
end
end Go.Proofs.YthomdlajobnmnaaDoor

set_option linter.unusedSimpArgs false
set_option linter.unusedVariables false
namespace Go.Proofs.YthomdlajobnmnaaDoor
open Go.Rex
structure RS.Tk (r : RS) (x : Rp) : Prop where
 me : 0 ≤ r.me ∧ r.me < 6
 threads : 1 ≤ r.threads ∧ r.threads ≤ 6
 step : r.step ≠ 0
 notes : r.notes.length ≤ 1000000
 seen : r.step = 13 → r.seen.length ≤ 99999
 clock : r.step = 13 → r.engine = 4 → (-1000000000000 ≤ r.clock.tag ∧ r.clock.tag ≤ 1000000000000) ∧ -1000000000000 ≤ r.clock.num ∧ r.clock.num ≤ 1000000000000
 index : r.step = 13 → 0 ≤ r.index ∧ r.index ≤ 99999
 word : (-1000000000000 ≤ x.word.tag ∧ x.word.tag ≤ 1000000000000) ∧ -1000000000000 ≤ x.word.num ∧ x.word.num ≤ 1000000000000
 freed : -1000000000000 ≤ r.freed ∧ r.freed ≤ 1000000000000
 again : r.step = 15 → r.engine = 4
 keep : r.step = 4 → 0 ≤ r.index ∧ r.index ≤ 8
 prot : r.step = 5 ∨ r.step = 6 ∨ r.step = 7 → 0 ≤ r.call.i ∧ r.call.i < 9
 doom : r.step = 16 → ∃ d l, r.doomed = d :: l ∧ d ∈ r.notes
end Go.Proofs.YthomdlajobnmnaaDoor
