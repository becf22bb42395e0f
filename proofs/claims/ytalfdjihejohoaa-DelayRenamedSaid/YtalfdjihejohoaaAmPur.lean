/- Own text: AmPur. -/
import Derived.Test.YtalfdjihejohoaaAmLaw
import Derived.CallsIn
import Derived.Lib.BitFns
set_option linter.unusedSimpArgs false
namespace Go.Am
open Go
theorem ACall.ofInt {P : Program} {f : FuncId} {k k' : IntKind} {x r : Int} (hc : callable P f = true)
    (h : ∀ w, Calls P f #[.int k x] w fun e w' => e = .returned (.int k' r) ∧ w' = w) : ACall P f [.d (.int k x)] [] (.d (.int k' r)) [] := by
  refine ⟨hc, rfl, rfl, rfl, Nat.le_refl _, fun n G w vs hs hrep RH ho => ?_⟩
  have h0 := hrep 0 (by simp)
  obtain ⟨v, rfl⟩ : ∃ v, vs = #[v] := by
    match vs, hs with
    | ⟨[v]⟩, _ => exact ⟨v, rfl⟩
  simp at h0
  cases h0 with | d _ _ _ h0 =>
  cases h0
  have hw : CallsIn Fence.wide n P f #[.int k x] w _ := callsIn_wide.2 (h w)
  refine CallsIn.mono (F := Wd none) hw ?_
  rintro e w' ⟨rfl, rfl⟩
  exact ⟨_, G, rfl, .d _ _ _ (.int _ _), RH, Ext.refl _ _ _⟩
end Go.Am

set_option linter.unusedSimpArgs false
namespace Go.Am
open Go
variable {P : Program} {T : Types} {A : Ar} {m : Nat} {ops : Array Oper} {σ σ1 : St} {o : Oper} {i : Nat} {K : St → Prop} {l rest : List Oper} {xs xs1 : List Rec}
theorem LStep.callP (ho : ops[i]? = some o) {f : FuncId} {args : List AV} {r : AV} {H rest : List Obj} {d : Nat} (hw : wantA ops.toList σ o = some true) (hcall : callOf T σ o = some (f, args)) (hH : σ.heap = H ++ rest)
    (hin : objsInb H.length H = true)
    (hargs : inbL H.length args = true) (hd : o.dst = some d) (hlt : d < σ.n) (hb : (σ.get d).isBox = false) (hfr : args.all AV.free = true) (hc : ACall P f args H r H) :
    LStep P m ops i σ { sets := [(d, r)], heap := none, rd := operSlots ops.toList o, hr := false, ho := List.range H.length, low := [] } := by
  intro τ hrd hhr hho hn hm
  have h := LStep.callL (m := m) ho hw hcall hH rfl hin hargs hd hlt hb hfr hc τ hrd hhr hho hn hm
  have e : Rec.app τ { sets := [(d, r)], heap := none, rd := operSlots ops.toList o, hr := false, ho := List.range H.length, low := H } = Rec.app τ { sets := [(d, r)], heap := none, rd := operSlots ops.toList o, hr := false, ho := List.range H.length, low := [] } := by
    obtain ⟨rest', hheap⟩ : ∃ rest', τ.heap = H ++ rest' := pre_of_get (fun a ha => by
      rw [hho a (List.mem_range.2 ha), hH, List.getElem?_append_left ha])
    have : lowOn H τ.heap = τ.heap := by unfold lowOn; rw [hheap, List.drop_left]
    simp only [Rec.app, St.upd, Option.getD_none, this, lowOn_nil]
  rw [e] at h
  exact h
theorem DOps.cp (hT : TOk P T) (hA : A = Ar.std) (an : Ann) {f : FuncId} {args : List AV} {r : AV} {H Hr : List Obj} {d : Nat} (hl : l = ops.toList.drop xs.length) (h : runD A T an ops.toList l σ xs = .call f args o rest σ1 xs1)
    (hc : ACall P f args H r H) (hH : σ1.heap = H ++ Hr) (hin : objsInb H.length H = true) (hargs : inbL H.length args = true) (hd : o.dst = some d) (hlt : d < σ1.n) (hb : (σ1.get d).isBox = false) (hfr : args.all AV.free = true)
    (k : DOps P m ops rest (xs1 ++ [{ sets := [(d, r)], heap := none, rd := operSlots ops.toList o, hr := false, ho := List.range H.length, low := [] }]) K (σ1.upd [(d, r)] none)) : DOps P m ops l xs K σ :=
  DOps.run (an := an) hT l xs σ hl (by
    rw [(fun A' (hA' : A' = Ar.std) => by subst hA'; subst hA; exact h : ∀ A : Ar, A = Ar.std → runD A T an ops.toList l σ xs = .call f args o rest σ1 xs1) _ rfl]
    exact fun hcall hw ho => DOps.cons (LStep.callP ho hw hcall hH hin hargs hd hlt hb hfr hc) k)
end Go.Am
