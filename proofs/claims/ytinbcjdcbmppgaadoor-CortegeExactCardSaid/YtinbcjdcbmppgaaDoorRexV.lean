/- Rex, part V: the run in pieces. -/
import Derived.Test.YtinbcjdcbmppgaaDoorRexF
set_option linter.unusedSimpArgs false
set_option linter.unusedVariables false
namespace Go.Rex
/-- the run up to so many conditions on which it parts; behind these whatever K says -/
def execB (T : Tab) (E : Ex) (K : Nat → List Opn → Cfg → Out) : Nat → Nat → List Opn → Cfg → Out
  | 0, _, _, c => .stop c
  | n + 1, b, op, c =>
    match atLoop T E c with
    | some (L, todo) =>
      match mkTmpl T L c todo with
      | none => .bad 40
      | some cT =>
        match instC c.nv c.hp.length cT { c with top := { c.top with todo := todo } } with
        | none => .bad 41
        | some (σ, os) => if c.sc && cT.sc && Nat.ble c.nv cT.nv && Nat.ble c.hp.length cT.hp.length then obWrap c.kn os fun _ => .loop c.nv σ (execB T E K n b (⟨c.nv, c.hp.length, cT⟩ :: op) cT) else .bad 42
    | none =>
      match atBack E c with
      | some todo =>
        match findOpn { c with top := { c.top with todo := todo } } op 0 with
        | none => .bad 43
        | some (i, o) =>
          match instC o.lo o.lob o.cT { c with top := { c.top with todo := todo } } with
          | none => .bad 44
          | some (σ, os) => obWrap c.kn os fun _ => .back i σ
      | none =>
        match stepC T E c with
        | .next os fs c' => obWrap c.kn os fun kn => newWrap c.nv fs (execB T E K n b op { c' with kn := asKn kn fs })
        | .alt x y => .alt (execB T E K n b op x) (execB T E K n b op y)
        | .call os g σ c' => obWrap c.kn os fun kn => .call g σ c.nv (execB T E K n b op { c' with kn := kn })
        | .br d => match b with
          | 0 => .br d (K n op { c with kn := addKn d true c.kn }) (K n op { c with kn := addKn d false c.kn })
          | b + 1 => .br d (execB T E K n b op { c with kn := addKn d true c.kn }) (execB T E K n b op { c with kn := addKn d false c.kn })
        | .ret os v =>
          match finOut E.fin c v with
          | some (σ, os') => obWrap c.kn (os ++ os') fun _ => .fin σ
          | none => .bad 45
        | .stop => .stop c
        | .no k => .bad k
theorem execB_eq {T : Tab} {E : Ex} : ∀ (n b : Nat) (op : List Opn) (c : Cfg), execB T E (exec T E) n b op c = exec T E n op c
  | 0, _, _, _ => rfl
  | n + 1, b, op, c => by
    have ih := @execB_eq T E n
    simp only [execB, exec]
    cases atLoop T E c with
    | some p =>
      obtain ⟨L, todo⟩ := p
      simp only []
      cases mkTmpl T L c todo with
      | none => rfl
      | some cT =>
        simp only []
        cases instC c.nv c.hp.length cT { c with top := { c.top with todo := todo } } with
        | none => rfl
        | some q =>
          obtain ⟨σ, os⟩ := q
          simp only [ih]
    | none =>
      simp only []
      cases atBack E c with
      | some todo => rfl
      | none =>
        simp only []
        cases stepC T E c with
        | next os fs c' => simp only [ih]
        | alt x y => simp only [ih]
        | call os g σ c' => simp only [ih]
        | br d => cases b <;> simp only [ih]
        | ret os v => rfl
        | stop => rfl
        | no k => rfl
/-- a run from its piece -/
theorem exec_of {T : Tab} {E : Ex} {n b : Nat} {op : List Opn} {c : Cfg} {F : (Nat → List Opn → Cfg → Out) → Out} (h : ∀ K, execB T E K n b op c = F K) : exec T E n op c = F (exec T E) :=
  (execB_eq n b op c).symm.trans (h _)
end Go.Rex
