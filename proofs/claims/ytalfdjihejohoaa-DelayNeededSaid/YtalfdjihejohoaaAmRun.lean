/- Running over operations and code: what a proof over a function's text uses. -/
import Derived.Test.YtalfdjihejohoaaAmCall
set_option linter.unusedSimpArgs false
set_option linter.unusedSectionVars false
namespace Go.Am
open Go

/-- Which loop's round an operation asks for, and with what. -/
def callY (T : Types) (σ : St) (o : Oper) : Option (Nat × List AV) :=
  match o.op with
  | .call { callee := .value (.tmp t), args, argTypes } =>
    match σ.get t, ((args.toList.zip argTypes.toList).mapM fun p => opv T σ.get p.2 p.1) with
    | .yield l, some vs => if args.size = argTypes.size then some (l, vs.map AV.copy) else none
    | _, _ => none
  | _ => none

/-- How far a list of operations can be evaluated. -/
inductive Out where
  | done (σ : St)
  | yield (l : Nat) (args : List AV) (o : Oper) (rest : List Oper) (σ : St)
  | call (f : FuncId) (args : List AV) (o : Oper) (rest : List Oper) (σ : St)
  | stuck

def runP (A : Ar) (T : Types) (an : Ann) (all : List Oper) : List Oper → St → Out
  | [], σ => .done σ
  | o :: os, σ =>
    match wantA all σ o with
    | some true =>
      match callOf T σ o with
      | some (f, args) => .call f args o os σ
      | none =>
        match callY T σ o with
        | some (l, args) => .yield l args o os σ
        | none =>
          match evCore A T an σ.n σ.get σ.heap o with
          | some (ss, h) => runP A T an all os (σ.upd ss h)
          | none => .stuck
    | some false =>
      match o.dst with
      | some d => if decide (d < σ.n) && !(σ.get d).isBox then runP A T an all os (σ.upd [(d, .tuple [])] none) else .stuck
      | none => runP A T an all os σ
    | none => .stuck

theorem upd_len {A : Ar} {T : Types} {an : Ann} {σ : St} {o : Oper} {ss : Sets} {h : Option (List Obj)} (he : evCore A T an σ.n σ.get σ.heap o = some (ss, h)) : σ.heap.length ≤ (σ.upd ss h).heap.length := by
  cases h with
  | none => exact Nat.le_refl _
  | some H' => exact evCore_len he

section
variable {P : Program} {T : Types} {m : Nat} {Q : Exit → St → Prop} {ops : Array Oper} {an : Ann}

/-- What evaluation has come to, taken up by a proof. -/
def Resume (P : Program) (m : Nat) (ops : Array Oper) (T : Types) (Q : Exit → St → Prop) : Out → Prop
  | .done σ => Q .normal σ
  | .call f args o rest σ => callOf T σ o = some (f, args) → wantA ops.toList σ o = some true → AOps P m ops (o :: rest) Q σ
  | .yield l args o rest σ => callY T σ o = some (l, args) → wantA ops.toList σ o = some true → AOps P m ops (o :: rest) Q σ
  | .stuck => False

theorem AOps.run (hT : TOk P T) : ∀ (l : List Oper) (σ : St), m ≤ σ.heap.length → Resume P m ops T (fun e σ' => m ≤ σ'.heap.length → Q e σ') (runP Ar.std T an ops.toList l σ) → AOps P m ops l Q σ
  | [], σ, hm, h => AOps.nil (h hm)
  | o :: os, σ, hm, h => by
    unfold runP at h
    cases hw : wantA ops.toList σ o with
    | none => simp [hw, Resume] at h
    | some b =>
      cases b with
      | true =>
        simp only [hw] at h
        cases hc : callOf T σ o with
        | some p =>
          obtain ⟨f, args⟩ := p
          simp only [hc] at h
          have := h hc hw
          intro r n G a w Q' hm' R hQ
          exact this r n G a w Q' hm' R (fun e a' w' hp => by
            obtain ⟨σ', G', R', hE, hm'', hq⟩ := hp
            exact hQ e a' w' ⟨σ', G', R', hE, hm'', hq (by rw [R'.h.nh]; exact hm'')⟩)
        | none =>
          simp only [hc] at h
          cases hy : callY T σ o with
          | some p =>
            obtain ⟨l, args⟩ := p
            simp only [hy] at h
            have := h hy hw
            intro r n G a w Q' hm' R hQ
            exact this r n G a w Q' hm' R (fun e a' w' hp => by
              obtain ⟨σ', G', R', hE, hm'', hq⟩ := hp
              exact hQ e a' w' ⟨σ', G', R', hE, hm'', hq (by rw [R'.h.nh]; exact hm'')⟩)
          | none =>
          simp only [hy] at h
          cases he : evCore Ar.std T an σ.n σ.get σ.heap o with
          | none => simp [he, Resume] at h
          | some q =>
            obtain ⟨ss, h'⟩ := q
            simp only [he] at h
            have hlen := upd_len he
            exact AOps.step hw (evCore_ok hT (less_get σ) (fun _ _ => rfl) (fun _ _ h => h) (fun _ => rfl) he) (by omega) (AOps.run hT os _ (by omega) h)
      | false =>
        simp only [hw] at h
        cases hd : o.dst with
        | none => simp only [hd] at h; exact AOps.skip0 hw hd (AOps.run hT os σ hm h)
        | some d =>
          simp only [hd] at h
          split at h
          · rename_i hc
            simp at hc
            exact AOps.skip hw hd hc.1 hc.2 (AOps.run hT os _ hm h)
          · exact h.elim

theorem AOps.done (hT : TOk P T) {l : List Oper} {σ σ' : St} (h : ∀ A : Ar, A = Ar.std → runP A T an ops.toList l σ = .done σ') (hm : m ≤ σ.heap.length) (hq : Q .normal σ') : AOps P m ops l Q σ :=
  AOps.run (an := an) hT l σ hm (by rw [h _ rfl]; exact fun _ => hq)
end

/-! ### Forgetting -/
def AV.noPlace : AV → AV
  | .place .. => .undef
  | v => v
/-- Only these slots are kept (and no places). -/
def keepE (e : List (Nat × AV)) : List Nat → List (Nat × AV)
  | [] => []
  | t :: r => (t, (eget e t).noPlace) :: keepE e r
def St.keep (σ : St) (ts : List Nat) : St := { σ with env := keepE σ.env ts }

theorem eget_keepE (e : List (Nat × AV)) : ∀ (ts : List Nat) (t : Nat), eget (keepE e ts) t = (eget e t).noPlace ∨ eget (keepE e ts) t = .undef
  | [], t => .inr rfl
  | s :: r, t => by
    simp only [keepE, eget]
    split
    · rename_i h; subst h; exact .inl rfl
    · exact eget_keepE e r t

theorem Rel.keep {G : Gh} {σ : St} {a : Act} {w : World} (R : Rel G σ a w) (ts : List Nat) : Rel G (σ.keep ts) a w := by
  refine ⟨R.h, R.size, fun t => ?_, fun t r off ht => ?_, R.df⟩
  · rcases eget_keepE σ.env ts t with h | h
    · simp only [St.keep, St.get, h]
      have := R.slots t
      simp only [St.get] at this
      generalize eget σ.env t = c at this
      cases c <;> first | exact this | exact .undef _ _
    · simp only [St.keep, St.get, h]; exact .undef _ _
  · simp only [St.keep, St.get] at ht
    rcases eget_keepE σ.env ts t with h | h
    · rw [h] at ht
      generalize eget σ.env t = c at ht
      cases c <;> simp [AV.noPlace] at ht
    · rw [h] at ht; cases ht

section
variable {P : Program} {T : Types} {m : Nat} {Q : Exit → St → Prop} {σ : St}
theorem AWp.keep (ts : List Nat) {c : Code} (h : AWp P m c Q (σ.keep ts)) : AWp P m c Q σ := fun r n G a w hm R => h r n G a w hm (R.keep ts)

/-- Fewer objects: those from k on are let go of; nothing that stays refers to them. -/
def envInb (k : Nat) : List (Nat × AV) → Bool
  | [] => true
  | (_, v) :: r => v.inb k && envInb k r
def St.drop (σ : St) (k : Nat) : St := { σ with heap := σ.heap.take k }
end
end Go.Am
