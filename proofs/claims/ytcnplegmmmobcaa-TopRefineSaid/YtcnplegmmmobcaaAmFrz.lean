/- Own text: AmFrz. -/
import Derived.Test.YtcnplegmmmobcaaAmBits
set_option linter.unusedSimpArgs false
namespace Go.Am
open Go
variable {P : Program} {T : Types} {A : Ar} {m : Nat} {ops : Array Oper} {σ σ1 : St} {o : Oper} {i : Nat} {K : St → Prop} {l rest : List Oper} {xs xs1 : List Rec}
theorem LStep.callP (ho : ops[i]? = some o) {f : FuncId} {args : List AV} {r : AV} {H rest : List Obj} {d : Nat} (hw : wantA ops.toList σ o = some true) (hcall : callOf T σ o = some (f, args)) (hH : σ.heap = H ++ rest)
    (hin : objsInb H.length H = true)
    (hargs : inbL H.length args = true) (hd : o.dst = some d) (hlt : d < σ.n) (hb : (σ.get d).isBox = false) (hfr : args.all AV.free = true) (hc : ACall P f args H r H) :
    LStep P m ops i σ { sets := [(d, r)], heap := none, rd := operSlots ops.toList o, hr := false, ho := List.range H.length, low := [] } := by
  intro τ hrd hhr hho hn hm
  have h := LStep.callL (m := m) ho hw hcall hH rfl hin hargs hd hlt hb hfr hc τ hrd hhr hho hn hm
  have e : Rec.app τ { sets := [(d, r)], heap := none, rd := operSlots ops.toList o, hr := false, ho := List.range H.length, low := H } = Rec.app τ { sets := [(d, r)], heap := none, rd := operSlots ops.toList o, hr := false, ho := List.range H.length, low := [] } := by
    obtain ⟨rest', hheap⟩ : ∃ rest', τ.heap = H ++ rest' := pre_of_get (fun a ha => by
      rw [hho a (List.mem_range.2 ha), hH, List.getElem?_append_left ha])
    have : lowOn H τ.heap = τ.heap := by unfold lowOn; rw [hheap, List.drop_left]
    simp only [Rec.app, St.upd, Option.getD_none, this, lowOn_nil]
  rw [e] at h
  exact h
theorem DOps.cp (hT : TOk P T) (hA : A = Ar.std) (an : Ann) {f : FuncId} {args : List AV} {r : AV} {H Hr : List Obj} {d : Nat} (hl : l = ops.toList.drop xs.length) (h : runD A T an ops.toList l σ xs = .call f args o rest σ1 xs1)
    (hc : ACall P f args H r H) (hH : σ1.heap = H ++ Hr) (hin : objsInb H.length H = true) (hargs : inbL H.length args = true) (hd : o.dst = some d) (hlt : d < σ1.n) (hb : (σ1.get d).isBox = false) (hfr : args.all AV.free = true)
    (k : DOps P m ops rest (xs1 ++ [{ sets := [(d, r)], heap := none, rd := operSlots ops.toList o, hr := false, ho := List.range H.length, low := [] }]) K (σ1.upd [(d, r)] none)) : DOps P m ops l xs K σ :=
  DOps.run (an := an) hT l xs σ hl (by
    rw [(fun A' (hA' : A' = Ar.std) => by subst hA'; subst hA; exact h : ∀ A : Ar, A = Ar.std → runD A T an ops.toList l σ xs = .call f args o rest σ1 xs1) _ rfl]
    exact fun hcall hw ho => DOps.cons (LStep.callP ho hw hcall hH hin hargs hd hlt hb hfr hc) k)
theorem rs1 {x : ResultVar} {a : AV} (h : resOne T σ true x = some a) : resAV T σ [x] = some a := h
end Go.Am

set_option linter.unusedSimpArgs false
namespace Go.Am
open Go
variable {P : Program} {m : Nat} {Q : Exit → St → Prop} {σ : St} {c : Code}
theorem AWpT.freezeBox (s : Nat) (cs : List D) (hs : σ.get s = .lbox (cs.map .d)) (hp : σ.env.all (fun p => !p.2.placeOf s) = true)
    (h : AWpT P m c Q { σ with env := eset σ.env s (.iptr cs) }) : AWpT P m c Q σ := by
  intro n' G a w hm R
  obtain ⟨G', R', hE⟩ := R.freezeBox hs (noPlace hp)
  refine wpIn_mono (h n' G' a w (by have h1 := R'.h.nh; have h2 := R.h.nh; simp at h1; omega) R') ?_
  rintro e a' w' ⟨σ', G2, R2, hE2, hm2, hQ⟩
  exact ⟨σ', G2, R2, (hE m).trans hE2, hm2, hQ⟩
theorem RelH.freeze {G : Gh} {H : List Obj} {w : World} {c : Loc} (R : RelH G H w) {i k : Nat} {lo n : Int} {l : List D} {v : Value} (hrep : RepV G w c (.mref i k lo n) v) (hi : H[i]? = some (.arr k l)) (hfit : lo + n ≤ l.length) :
    ∃ G', RelH G' (H.set i .dead) w ∧ RepD G'.K (.list k (Ar.std.sub l lo (lo + n))) v ∧ ∀ m, Ext m G w G' w := by
  cases hrep with | mref _ _ _ _ _ b off cap hnh hlo hn hcap hbo =>
  obtain ⟨vs, e, hO, hw, hu, hsz, h1, hh⟩ := R.objs i _ hi
  have hil : i < H.length := (List.getElem?_eq_some_iff.1 hi).1
  have hfl := flat_length hu
  let B := G.β (.o i)
  let G' : Gh := { G with K := fun x => if x.block = B ∧ x.spot = none ∧ x.off < (D.flat l).length then some (vs.getD x.off Go.undef) else G.K x, O := fun x => if x = B then none else G.O x }
  have hdisj := R.disj _ _ _ hO
  have hKle : KLe G.K G'.K := by
    intro x v h
    simp only [G']
    rw [if_neg]; exact h
    rintro ⟨hb, hsp, _⟩
    obtain ⟨xb, xo, xs⟩ := x
    simp at hb hsp; subst hb hsp
    rw [hdisj.2 xo (Nat.zero_le _)] at h; cases h
  have hOold : ∀ b' x f', x ≠ .o i → G.O b' = some (x, f') → G'.O b' = some (x, f') := by
    intro b' x f' hx h
    have : b' ≠ B := by rintro rfl; rw [show G.O B = _ from hO] at h; simp at h; exact hx h.1.symm
    simp only [G']; rw [if_neg this]; exact h
  have hpr : Pres G G' w w (fun x => x ≠ .o i) :=
    ⟨hKle, fun b' x f' hx h => ⟨hOold b' x f' hx h, rfl⟩, fun _ _ => rfl, Nat.le_refl _⟩
  have hkept : ∀ x v, G'.K x = some v → w.cell? x = some v := by
    intro x v h
    simp only [G'] at h
    split at h
    · rename_i hc
      obtain ⟨xb, xo, xs⟩ := x
      obtain ⟨h1', h2', h3'⟩ := hc
      simp at h1' h2' h3' h
      subst h1' h2'
      rw [cell_at hw (by omega)]
      simpa using h
    · exact R.kept x v h
  obtain ⟨LO, rfl⟩ := Int.eq_ofNat_of_zero_le hlo
  obtain ⟨N, rfl⟩ := Int.eq_ofNat_of_zero_le hn
  have hsubl : Ar.std.sub l LO (LO + N) = (l.drop LO).take N := by
    simp only [Ar.std]
    congr 1
    all_goals omega
  have hlist' : RepD G'.K (.list k ((l.drop LO).take N)) (.slice (some ⟨b, off, none⟩) N cap) := by
    by_cases hN : N = 0
    · subst hN
      simp only [List.take_zero]
      exact RepD.empty _ _ _ _ _
    · obtain ⟨rfl, rfl⟩ := hbo (by omega)
      simp only [Int.toNat_natCast]
      have hus := hu.sub LO N
      have hln : ((l.drop LO).take N).length = N := by simp; omega
      have hfe : D.flat ((l.drop LO).take N) = ((D.flat l).drop (LO * k)).take (N * k) := by
        rw [flat_take (fun x hx => hu x (List.mem_of_mem_drop hx)), flat_drop hu]
      have hflN := flat_length hus
      have hmul : LO * k + N * k ≤ l.length * k := by rw [← Nat.add_mul]; exact Nat.mul_le_mul_right _ (by omega)
      have hgetj : ∀ (j : Nat) (hj : j < (D.flat ((l.drop LO).take N)).length), (D.flat ((l.drop LO).take N))[j] = (D.flat l)[LO * k + j]'(by rw [hflN, hln] at hj; omega) := by
        intro j hj
        simp only [hfe, List.getElem_take, List.getElem_drop]
      have := RepD.list (K := G'.K) k ((l.drop LO).take N) (G.β (.o i)) (LO * k) cap (fun j => vs.getD (LO * k + j) Go.undef) hus (by rw [hln]; simpa using hcap)
        (fun j hj => by
          rw [hflN, hln] at hj
          have hjj : LO * k + j < (D.flat l).length := by omega
          simp [G', B, hjj])
        (fun j hj => by rw [hflN, hln] at hj; exact h1 _ (by omega))
        (fun j hj => by
          rw [hgetj j hj]
          rw [hflN, hln] at hj
          exact (hh _ (by omega)).mono hKle)
      rwa [hln] at this
  refine ⟨G', ⟨⟨fun b' x f' h => ?_⟩, by simpa [G'] using R.nh, fun i' ob hob => ?_, hkept, fun b' x f' h => ?_⟩, by rw [hsubl]; exact hlist', fun m => ⟨hKle, fun x v h => ?_, fun b' hb h => ⟨rfl, ?_⟩, Nat.le_refl _, fun _ _ => rfl, rfl, rfl, fun _ => rfl⟩⟩
  · simp only [G'] at h
    split at h
    · cases h
    · exact R.sane.no b' x f' h
  · by_cases hii : i = i'
    · subst hii
      simp [List.getElem?_set_self hil] at hob
      subst hob; trivial
    · rw [List.getElem?_set_ne hii] at hob
      exact (R.objs i' ob hob).pres R.sane (by rw [← R.nh]; exact (List.getElem?_eq_some_iff.1 hob).1) hpr (by simp; exact fun e => hii e.symm) (by simp)
  · simp only [G'] at h ⊢
    split at h
    · cases h
    · rename_i hne
      refine ⟨(R.disj b' x f' h).1, fun j hj => ?_⟩
      rw [if_neg (by intro hc; exact hne hc.1)]
      exact (R.disj b' x f' h).2 j hj
  · simp only [G'] at h
    split at h
    · rename_i hc; exact .inr (.inl ⟨_, by rw [hc.1]; exact hO⟩)
    · exact .inl h
  · simp only [G']; split
    · rfl
    · exact h
theorem ACall.frz {P : Program} {f : FuncId} {args : List AV} {H H' : List Obj} {i k : Nat} {lo n : Int} {l l' : List D} (hc : ACall P f args H (.mref i k lo n) H') (hi : H'[i]? = some (.arr k l)) (hfit : lo + n ≤ l.length) (hl : Ar.std.sub l lo (lo + n) = l')
    (hin : objsInb H'.length (H'.set i .dead) = true) : ACall P f args H (.d (.list k l')) (H'.set i .dead) := by
  obtain ⟨h1, _, _, _, h5, h⟩ := hc
  refine ⟨h1, rfl, rfl, by simpa using hin, by simpa using h5, ?_⟩
  intro N G w vs hvs hrep R hO
  refine CallsIn.mono (h N G w vs hvs hrep R hO) ?_
  rintro e w' ⟨v, G2, rfl, hv, R2, hE⟩
  obtain ⟨G3, R3, hd, hE3⟩ := R2.freeze hv hi hfit
  subst hl
  exact ⟨v, G3, rfl, .d _ _ _ hd, R3, hE.trans (hE3 _)⟩
theorem AWp.uncap {s i k : Nat} {lo n cc : Int} (hs : σ.get s = .mcap i k lo n cc) (h : AWp P m c Q { σ with env := eset σ.env s (.mref i k lo n) }) : AWp P m c Q σ := by
  intro rr n' G a w hm R
  refine h rr n' G a w hm ?_
  refine ⟨R.h, R.size, fun t => ?_, fun t r off ht => ?_, R.df⟩
  · simp only [St.get, eget_eset]
    split
    · rename_i e; subst e
      have hrep := R.slots s
      rw [hs] at hrep
      generalize a.tmps.getD s Go.undef = v at hrep
      cases hrep with | mcap _ _ _ _ _ _ b off cap h1 h2 h3 h4 h5 h6 => exact .mref _ _ _ _ _ b off cap h1 h2 h3 (by omega) (fun hlt => h6 (by omega))
    · exact R.slots t
  · simp only [St.get, eget_eset] at ht ⊢
    split at ht
    · cases ht
    · obtain ⟨cs, hcs⟩ := R.places t r off ht
      refine ⟨cs, ?_⟩
      split
      · rename_i e; subst e; rw [show σ.get s = .lbox cs from hcs] at hs; cases hs
      · exact hcs
end Go.Am
