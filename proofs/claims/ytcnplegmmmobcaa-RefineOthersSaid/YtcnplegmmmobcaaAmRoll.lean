/- Own text: AmRoll. -/
import Derived.Test.YtcnplegmmmobcaaAmLaw
set_option linter.unusedSimpArgs false
namespace Go.Am
open Go
variable {P : Program} {T : Types} {A : Ar} {m : Nat} {ops : Array Oper} {σ σ1 : St} {o : Oper} {i : Nat} {K : St → Prop} {l rest : List Oper} {xs xs1 : List Rec}
theorem LStep.callP (ho : ops[i]? = some o) {f : FuncId} {args : List AV} {r : AV} {H rest : List Obj} {d : Nat} (hw : wantA ops.toList σ o = some true) (hcall : callOf T σ o = some (f, args)) (hH : σ.heap = H ++ rest)
    (hin : objsInb H.length H = true)
    (hargs : inbL H.length args = true) (hd : o.dst = some d) (hlt : d < σ.n) (hb : (σ.get d).isBox = false) (hfr : args.all AV.free = true) (hc : ACall P f args H r H) :
    LStep P m ops i σ { sets := [(d, r)], heap := none, rd := operSlots ops.toList o, hr := false, ho := List.range H.length, low := [] } := by
  intro τ hrd hhr hho hn hm
  have h := LStep.callL (m := m) ho hw hcall hH rfl hin hargs hd hlt hb hfr hc τ hrd hhr hho hn hm
  have e : Rec.app τ { sets := [(d, r)], heap := none, rd := operSlots ops.toList o, hr := false, ho := List.range H.length, low := H } = Rec.app τ { sets := [(d, r)], heap := none, rd := operSlots ops.toList o, hr := false, ho := List.range H.length, low := [] } := by
    obtain ⟨rest', hheap⟩ : ∃ rest', τ.heap = H ++ rest' := pre_of_get (fun a ha => by
      rw [hho a (List.mem_range.2 ha), hH, List.getElem?_append_left ha])
    have : lowOn H τ.heap = τ.heap := by unfold lowOn; rw [hheap, List.drop_left]
    simp only [Rec.app, St.upd, Option.getD_none, this, lowOn_nil]
  rw [e] at h
  exact h
theorem DOps.cp (hT : TOk P T) (hA : A = Ar.std) (an : Ann) {f : FuncId} {args : List AV} {r : AV} {H Hr : List Obj} {d : Nat} (hl : l = ops.toList.drop xs.length) (h : runD A T an ops.toList l σ xs = .call f args o rest σ1 xs1)
    (hc : ACall P f args H r H) (hH : σ1.heap = H ++ Hr) (hin : objsInb H.length H = true) (hargs : inbL H.length args = true) (hd : o.dst = some d) (hlt : d < σ1.n) (hb : (σ1.get d).isBox = false) (hfr : args.all AV.free = true)
    (k : DOps P m ops rest (xs1 ++ [{ sets := [(d, r)], heap := none, rd := operSlots ops.toList o, hr := false, ho := List.range H.length, low := [] }]) K (σ1.upd [(d, r)] none)) : DOps P m ops l xs K σ :=
  DOps.run (an := an) hT l xs σ hl (by
    rw [(fun A' (hA' : A' = Ar.std) => by subst hA'; subst hA; exact h : ∀ A : Ar, A = Ar.std → runD A T an ops.toList l σ xs = .call f args o rest σ1 xs1) _ rfl]
    exact fun hcall hw ho => DOps.cons (LStep.callP ho hw hcall hH hin hargs hd hlt hb hfr hc) k)
end Go.Am

set_option linter.unusedSimpArgs false
namespace Go.Am
open Go
variable {P : Program} {m : Nat} {Q : Exit → St → Prop} {σ : St} {c : Code}
theorem RelH.freezeP {G : Gh} {H : List Obj} {w : World} {c : Loc} (R : RelH G H w) {i k : Nat} {lo n : Int} {l : List D} {v : Value} (hrep : RepV G w c (.mref i k lo n) v) (hi : H[i]? = some (.arr k l)) (hfit : lo + n ≤ l.length) :
    ∃ G', RelH G' (H.set i .dead) w ∧ RepD G'.K (.list k (Ar.std.sub l lo (lo + n))) v ∧ (∀ m, Ext m G w G' w) ∧ Pres G G' w w (fun x => x ≠ .o i) ∧ G'.β = G.β := by
  cases hrep with | mref _ _ _ _ _ b off cap hnh hlo hn hcap hbo =>
  obtain ⟨vs, e, hO, hw, hu, hsz, h1, hh⟩ := R.objs i _ hi
  have hil : i < H.length := (List.getElem?_eq_some_iff.1 hi).1
  have hfl := flat_length hu
  let B := G.β (.o i)
  let G' : Gh := { G with K := fun x => if x.block = B ∧ x.spot = none ∧ x.off < (D.flat l).length then some (vs.getD x.off Go.undef) else G.K x, O := fun x => if x = B then none else G.O x }
  have hdisj := R.disj _ _ _ hO
  have hKle : KLe G.K G'.K := by
    intro x v h
    simp only [G']
    rw [if_neg]; exact h
    rintro ⟨hb, hsp, _⟩
    obtain ⟨xb, xo, xs⟩ := x
    simp at hb hsp; subst hb hsp
    rw [hdisj.2 xo (Nat.zero_le _)] at h; cases h
  have hOold : ∀ b' x f', x ≠ .o i → G.O b' = some (x, f') → G'.O b' = some (x, f') := by
    intro b' x f' hx h
    have : b' ≠ B := by rintro rfl; rw [show G.O B = _ from hO] at h; simp at h; exact hx h.1.symm
    simp only [G']; rw [if_neg this]; exact h
  have hpr : Pres G G' w w (fun x => x ≠ .o i) :=
    ⟨hKle, fun b' x f' hx h => ⟨hOold b' x f' hx h, rfl⟩, fun _ _ => rfl, Nat.le_refl _⟩
  have hkept : ∀ x v, G'.K x = some v → w.cell? x = some v := by
    intro x v h
    simp only [G'] at h
    split at h
    · rename_i hc
      obtain ⟨xb, xo, xs⟩ := x
      obtain ⟨h1', h2', h3'⟩ := hc
      simp at h1' h2' h3' h
      subst h1' h2'
      rw [cell_at hw (by omega)]
      simpa using h
    · exact R.kept x v h
  obtain ⟨LO, rfl⟩ := Int.eq_ofNat_of_zero_le hlo
  obtain ⟨N, rfl⟩ := Int.eq_ofNat_of_zero_le hn
  have hsubl : Ar.std.sub l LO (LO + N) = (l.drop LO).take N := by
    simp only [Ar.std]
    congr 1
    all_goals omega
  have hlist' : RepD G'.K (.list k ((l.drop LO).take N)) (.slice (some ⟨b, off, none⟩) N cap) := by
    by_cases hN : N = 0
    · subst hN
      simp only [List.take_zero]
      exact RepD.empty _ _ _ _ _
    · obtain ⟨rfl, rfl⟩ := hbo (by omega)
      simp only [Int.toNat_natCast]
      have hus := hu.sub LO N
      have hln : ((l.drop LO).take N).length = N := by simp; omega
      have hfe : D.flat ((l.drop LO).take N) = ((D.flat l).drop (LO * k)).take (N * k) := by
        rw [flat_take (fun x hx => hu x (List.mem_of_mem_drop hx)), flat_drop hu]
      have hflN := flat_length hus
      have hmul : LO * k + N * k ≤ l.length * k := by rw [← Nat.add_mul]; exact Nat.mul_le_mul_right _ (by omega)
      have hgetj : ∀ (j : Nat) (hj : j < (D.flat ((l.drop LO).take N)).length), (D.flat ((l.drop LO).take N))[j] = (D.flat l)[LO * k + j]'(by rw [hflN, hln] at hj; omega) := by
        intro j hj
        simp only [hfe, List.getElem_take, List.getElem_drop]
      have := RepD.list (K := G'.K) k ((l.drop LO).take N) (G.β (.o i)) (LO * k) cap (fun j => vs.getD (LO * k + j) Go.undef) hus (by rw [hln]; simpa using hcap)
        (fun j hj => by
          rw [hflN, hln] at hj
          have hjj : LO * k + j < (D.flat l).length := by omega
          simp [G', B, hjj])
        (fun j hj => by rw [hflN, hln] at hj; exact h1 _ (by omega))
        (fun j hj => by
          rw [hgetj j hj]
          rw [hflN, hln] at hj
          exact (hh _ (by omega)).mono hKle)
      rwa [hln] at this
  refine ⟨G', ⟨⟨fun b' x f' h => ?_⟩, by simpa [G'] using R.nh, fun i' ob hob => ?_, hkept, fun b' x f' h => ?_⟩, by rw [hsubl]; exact hlist', fun m => ⟨hKle, fun x v h => ?_, fun b' hb h => ⟨rfl, ?_⟩, Nat.le_refl _, fun _ _ => rfl, rfl, rfl, fun _ _ => rfl, rfl, Nat.le_refl _⟩, hpr, rfl⟩
  · simp only [G'] at h
    split at h
    · cases h
    · exact R.sane.no b' x f' h
  · by_cases hii : i = i'
    · subst hii
      simp [List.getElem?_set_self hil] at hob
      subst hob; trivial
    · rw [List.getElem?_set_ne hii] at hob
      exact (R.objs i' ob hob).pres R.sane (by rw [← R.nh]; exact (List.getElem?_eq_some_iff.1 hob).1) hpr (by simp; exact fun e => hii e.symm) (by simp)
  · simp only [G'] at h ⊢
    split at h
    · cases h
    · rename_i hne
      refine ⟨(R.disj b' x f' h).1, fun j hj => ?_⟩
      rw [if_neg (by intro hc; exact hne hc.1)]
      exact (R.disj b' x f' h).2 j hj
  · simp only [G'] at h
    split at h
    · rename_i hc; exact .inr (.inl ⟨_, by rw [hc.1]; exact hO⟩)
    · exact .inl h
  · simp only [G']; split
    · rfl
    · exact h
theorem RelH.freeze {G : Gh} {H : List Obj} {w : World} {c : Loc} (R : RelH G H w) {i k : Nat} {lo n : Int} {l : List D} {v : Value} (hrep : RepV G w c (.mref i k lo n) v) (hi : H[i]? = some (.arr k l)) (hfit : lo + n ≤ l.length) :
    ∃ G', RelH G' (H.set i .dead) w ∧ RepD G'.K (.list k (Ar.std.sub l lo (lo + n))) v ∧ ∀ m, Ext m G w G' w := by
  obtain ⟨G', h1, h2, h3, _⟩ := R.freezeP hrep hi hfit
  exact ⟨G', h1, h2, h3⟩
theorem AWp.freezeC (i j : Nat) {q k : Nat} {lo n : Int} {l l' : List D} {cs : List AV} (hi : σ.heap[i]? = some (.cells cs)) (hj : cs[j]? = some (.mref q k lo n)) (hq : σ.heap[q]? = some (.arr k l)) (hfit : lo + n ≤ l.length) (hl : Ar.std.sub l lo (lo + n) = l')
    (h : AWp P m c Q { σ with heap := (σ.heap.set q .dead).set i (.cells (cs.set j (.d (.list k l')))) }) : AWp P m c Q σ := by
  intro r n' G a w hm R
  have hjl : j < cs.length := (List.getElem?_eq_some_iff.1 hj).1
  have hcj : cs[j] = .mref q k lo n := (List.getElem?_eq_some_iff.1 hj).2
  obtain ⟨vs, e, o1, o2, o3, o4, o5⟩ := R.h.objs i _ hi
  have hv := o4 j hjl
  rw [hcj] at hv
  have hiq : q ≠ i := by rintro rfl; rw [hq] at hi; cases hi
  obtain ⟨G', R1, hd, hE, hpr, hβ⟩ := R.h.freezeP hv hq hfit
  rw [hl] at hd
  have hnh : (σ.heap.set q .dead).length = G'.nh := R1.nh
  have hi1 : (σ.heap.set q .dead)[i]? = some (.cells cs) := by rw [List.getElem?_set_ne hiq]; exact hi
  obtain ⟨vs', e', p1, p2, p3, p4, p5⟩ := R1.objs i _ hi1
  have hvs : vs' = vs := by
    rw [hβ] at p2
    rw [o2] at p2; cases p2; rfl
  subst hvs
  refine wpIn_mono (h r n' G' a w (by have h1 := R1.nh; have h2 := R.h.nh; simp at h1; omega) ⟨⟨R1.sane, by simpa using R1.nh, fun x ob hob => ?_, R1.kept, R1.disj⟩, R.size, fun t => (R.slots t).pres R.h.sane hpr (by simp) (fun _ _ _ => by rw [hβ]) (fun _ _ _ => ⟨by rw [hβ], by simp⟩), R.places, ⟨R.df.1, fun d hd => ?_⟩⟩) ?_
  · by_cases hx : i = x
    · subst hx
      rw [List.getElem?_set_self (by have := (List.getElem?_eq_some_iff.1 hi1).1; exact this)] at hob
      injection hob with hob; subst hob
      refine ⟨vs', e', p1, p2, by simpa using p3, fun y hy => ?_, fun c hc => ?_⟩
      · rw [List.length_set] at hy
        by_cases hyj : y = j
        · subst hyj
          rw [List.getElem_set_self]
          exact .d _ _ _ hd
        · rw [List.getElem_set_ne (Ne.symm hyj)]
          exact p4 y hy
      · rcases List.mem_or_eq_of_mem_set hc with hc | rfl
        · exact p5 c hc
        · rfl
    · rw [List.getElem?_set_ne hx] at hob
      exact R1.objs x ob hob
  · obtain ⟨r0, h1, h2, h3⟩ := R.df.2 d hd
    exact ⟨r0, h1, (hpr.O _ _ _ (by simp) h2).1, h3⟩
  · rintro e2 a' w' ⟨σ', G2, R2, hE2, hm2, hQ⟩
    exact ⟨σ', G2, R2, (hE m).trans hE2, hm2, hQ⟩
theorem ACall.frz {P : Program} {f : FuncId} {args : List AV} {H H' : List Obj} {i k : Nat} {lo n : Int} {l l' : List D} (hc : ACall P f args H (.mref i k lo n) H') (hi : H'[i]? = some (.arr k l)) (hfit : lo + n ≤ l.length) (hl : Ar.std.sub l lo (lo + n) = l')
    (hin : objsInb H'.length (H'.set i .dead) = true) : ACall P f args H (.d (.list k l')) (H'.set i .dead) := by
  obtain ⟨h1, _, _, _, h5, h⟩ := hc
  refine ⟨h1, rfl, rfl, by simpa using hin, by simpa using h5, ?_⟩
  intro N G w vs hvs hrep R hO
  refine CallsIn.mono (h N G w vs hvs hrep R hO) ?_
  rintro e w' ⟨v, G2, rfl, hv, R2, hE⟩
  obtain ⟨G3, R3, hd, hE3⟩ := R2.freeze hv hi hfit
  subst hl
  exact ⟨v, G3, rfl, .d _ _ _ hd, R3, hE.trans (hE3 _)⟩
theorem AWp.uncap {s i k : Nat} {lo n cc : Int} (hs : σ.get s = .mcap i k lo n cc) (h : AWp P m c Q { σ with env := eset σ.env s (.mref i k lo n) }) : AWp P m c Q σ := by
  intro rr n' G a w hm R
  refine h rr n' G a w hm ?_
  refine ⟨R.h, R.size, fun t => ?_, fun t r off ht => ?_, R.df⟩
  · simp only [St.get, eget_eset]
    split
    · rename_i e; subst e
      have hrep := R.slots s
      rw [hs] at hrep
      generalize a.tmps.getD s Go.undef = v at hrep
      cases hrep with | mcap _ _ _ _ _ _ b off cap h1 h2 h3 h4 h5 h6 => exact .mref _ _ _ _ _ b off cap h1 h2 h3 (by omega) (fun hlt => h6 (by omega))
    · exact R.slots t
  · simp only [St.get, eget_eset] at ht ⊢
    split at ht
    · cases ht
    · obtain ⟨cs, hcs⟩ := R.places t r off ht
      refine ⟨cs, ?_⟩
      split
      · rename_i e; subst e; rw [show σ.get s = .lbox cs from hcs] at hs; cases hs
      · exact hcs
end Go.Am

set_option linter.unusedSimpArgs false
set_option linter.unusedSectionVars false
set_option linter.unusedVariables false
namespace Go.Am
open Go
def ACallO (P : Program) (f : FuncId) (args : List AV) (H : List Obj) (r : AV) (H' : List Obj) : Prop :=
  callable P f = true ∧ r.isLocal = false ∧ r.inb H'.length = true ∧ objsInb H'.length H' = true ∧ H.length ≤ H'.length ∧ ∀ (n : Nat) (G : Gh) (w : World) (vs : Array Value), vs.size = args.length →
    (∀ (i : Nat) (hi : i < args.length), RepV G w (.o (H.length - 1)) args[i] (vs.getD i Go.undef)) → RelH G H w → (∀ b ℓ f, G.O b = some (ℓ, f) → ∃ i, ℓ.root = .o i) →
    CallsIn (Wd none) n P f vs w (fun e w' => ∃ v G', e = .returned v ∧ RepV G' w' .ret r v ∧ RelH G' H' w' ∧ Ext H.length G w G' w')
def freeBut (j : Nat) : Nat → List AV → Bool
  | _, [] => true
  | i, c :: r => (if i = j then (match c with | .own .. => true | _ => false) else c.free) && freeBut j (i + 1) r
theorem freeBut_get {j : Nat} : ∀ {l : List AV} {i0 : Nat}, freeBut j i0 l = true → ∀ (i : Nat) (hi : i < l.length), (i0 + i = j → ∃ k m, l[i] = .own k m) ∧ (i0 + i ≠ j → l[i].free = true)
  | [], _, _, i, hi => by simp at hi
  | c :: r, i0, h, 0, _ => by
    simp only [freeBut, Bool.and_eq_true] at h
    refine ⟨fun e => ?_, fun e => ?_⟩
    · have := h.1
      rw [if_pos (by simpa using e)] at this
      cases c <;> first | exact ⟨_, _, rfl⟩ | cases this
    · have := h.1
      rw [if_neg (by simpa using e)] at this
      exact this
  | c :: r, i0, h, i + 1, hi => by
    simp only [freeBut, Bool.and_eq_true] at h
    have := freeBut_get h.2 i (by simpa using hi)
    simpa [Nat.add_assoc, Nat.add_comm 1 i] using this
section
variable {P : Program} {T : Types}
theorem ACallO.enter (hT : TOk P T) {f : FuncId} {fn : Func} {c : Code} {args : List AV} {H0 H H' : List Obj} {r : AV} (j : Nat) (hH : H = H0 ++ [.dead]) (hf : P.funcs[f]? = some fn) (hb : fn.body = some c) (hname : fn.name ≠ "runtime.NumGoroutine")
    (hn : args.length ≤ fn.ntmps) (hfr : freeBut j 0 args = true) (hrl : r.isLocal = false) (hri : r.inb H'.length = true) (hin : objsInb H'.length H' = true) (hHH : H.length ≤ H'.length)
    (h : AWpT P H.length c (FnPost T fn H.length r H') { env := envOf 0 args, heap := H, n := fn.ntmps }) : ACallO P f args H r H' := by
  refine ⟨by simp [callable, hf, hb, hname], hrl, hri, hin, hHH, fun n G w vs hvs hrep RH hroot => ?_⟩
  have hlast : H.length - 1 = H0.length := by rw [hH]; simp
  rw [hlast] at hrep
  have hi0 : H0.length < H.length := by rw [hH]; simp
  have hdead : H[H0.length]? = some .dead := by rw [hH]; simp
  have hg := fun i hi => freeBut_get (i0 := 0) hfr i hi
  let G1 := G.move (.o H0.length) (.s j)
  have hpr := G.move_pres w (.o H0.length) (.s j)
  have RH1 : RelH G1 H w := RH.move _ _ (by simp [Loc.root]) (fun i ob hob => by
    by_cases hi : i = H0.length
    · subst hi; rw [hdead] at hob; injection hob with hob; subst hob; trivial
    · exact (RH.objs i ob hob).pres RH.sane (by rw [← RH.nh]; exact (List.getElem?_eq_some_iff.1 hob).1) hpr (by simpa using hi) (by simp))
  refine callsIn_of_wp_marks hf hb trivial ?_ rfl
  have hsz : (vs ++ Array.replicate (fn.ntmps - vs.size) Go.undef).size = fn.ntmps := by simp; omega
  have R : Rel G1 { env := envOf 0 args, heap := H, n := fn.ntmps } { tmps := vs ++ Array.replicate (fn.ntmps - vs.size) Go.undef, defers := [] } w := by
    refine ⟨RH1, hsz, fun t => ?_, fun t r off ht => ?_, ⟨by simp, fun d hd => by simp at hd⟩⟩
    · simp only [St.get, eget_envOf]
      split
      · rename_i ht
        simp at ht
        have h0 := hrep t (by omega)
        have key : RepV G1 w (.s t) args[t] (vs.getD t Go.undef) := by
          by_cases htj : t = j
          · subst htj
            obtain ⟨k, m, e⟩ := (hg t (by omega)).1 (by omega)
            rw [e] at h0 ⊢
            cases h0 with | own _ _ _ _ hr ht => exact .own _ _ _ _ hr ht.move
          · have hfree := (hg t (by omega)).2 (by omega)
            refine ((h0.anywhere hfree .no).pres RH.sane (hpr.no RH.sane) rfl (fun r off e => ?_) (fun t e => by cases e)).anywhere hfree _
            rw [e] at hfree; simp [AV.free] at hfree
        simpa [List.getD, show t < args.length by omega, Array.getD_eq_getD_getElem?, Array.getElem?_append_left (show t < vs.size by omega)] using key
      · exact .undef _ _
    · simp only [St.get, eget_envOf] at ht
      split at ht
      · rename_i hlt
        simp at hlt
        simp [List.getD, show t < args.length by omega] at ht
        by_cases htj : t = j
        · obtain ⟨k, m, e⟩ := (hg t (by omega)).1 (by omega)
          rw [e] at ht; cases ht
        · have hfree := (hg t (by omega)).2 (by omega)
          rw [ht] at hfree; simp [AV.free] at hfree
      · cases ht
  refine wpIn_mono (h n G1 _ w (by rw [show G1.nh = G.nh from rfl, ← RH.nh]; exact Nat.le_refl _) R) ?_
  intro e a' w' hp
  have hp' := hp.ext (Ext.move H.length G w (.o H0.length) (.s j))
  obtain ⟨he, hl⟩ := ACall.leaveP (n := n) hT hrl hri hin hp'
  rcases he with rfl | rfl
  · exact hl
  · exact hl
theorem callOf_vals {σ : St} {o : Oper} {f : FuncId} {args : List AV} {xs : Array Operand} {ts : Array TypeId} (hop : o.op = .call { callee := .value (.func f), args := xs, argTypes := ts }) (h : callOf T σ o = some (f, args)) (hc : callable P f = true) {G : Gh} {a : Act} {w : World} (R : Rel G σ a w) :
    (∀ c, o.op ≠ .defer c) ∧ (execOp a.eval o).run P w = .ok (.enter f (xs.map a.eval)) w ∧ (xs.map a.eval).size = args.length ∧ ∀ (i : Nat) (hi : i < args.length), RepV G w .no args[i] ((xs.map a.eval).getD i Go.undef) := by
  obtain ⟨h1, vs, h2, h3, h4⟩ := callOf_ok h hc R
  have hrun : (execOp a.eval o).run P w = .ok (.enter f (xs.map a.eval)) w := by
    have hcall : (callFunc f (xs.map a.eval)).run P w = .ok (.enter f (xs.map a.eval)) w := by
      unfold callable at hc
      unfold callFunc
      simp only [Sem.run_bind, run_program, Result.andThen_ok]
      split at hc
      · rename_i fn hfn'
        simp at hc
        rw [hfn']
        simp [hc.1, Option.isSome_iff_ne_none.1 hc.2]
      · cases hc
    have hx : a.eval (.func f) = .func (.func f) #[] #[] := rfl
    simp only [execOp, hop, Sem.run_bind, resolve, hx, Deferred.ofValue, Sem.run_pure, Result.andThen_ok, invoke]
    simpa using hcall
  have he : vs = xs.map a.eval := by
    rw [hrun] at h2
    injection h2 with h2
    injection h2 with _ h2
    exact h2.symm
  subst he
  exact ⟨h1, hrun, h3, h4⟩
variable {m : Nat} {Q : Exit → St → Prop} {σ : St} {ops : Array Oper} {o : Oper} {l : List Oper}
theorem AOps.callO {f : FuncId} {args : List AV} {H' : List Obj} {r : AV} {d j s k : Nat} {ys : List D} {xs : Array Operand} {ts : Array TypeId} (hop : o.op = .call { callee := .value (.func f), args := xs, argTypes := ts }) (hw : wantA ops.toList σ o = some true) (hcall : callOf T σ o = some (f, args))
    (hj : xs[j]? = some (.tmp s)) (hs : σ.get s = .own k ys) (hin : objsInb (σ.heap.length + 1) (σ.heap ++ [.dead]) = true) (hargs : inbL (σ.heap.length + 1) args = true) (hd : o.dst = some d) (hlt : d < σ.n) (hb : (σ.get d).isBox = false)
    (hfr : freeBut j 0 (args.set j (.own k ys)) = true) (hc : ACallO P f (args.set j (.own k ys)) (σ.heap ++ [.dead]) r H') (h : AOps P m ops l Q { σ with env := eset (eset σ.env s (.d (.list k ys))) d r, heap := H' }) : AOps P m ops (o :: l) Q σ := by
  intro rr n G a w Q' hm' R hQ
  unfold wpListIn
  rw [if_pos (wantA_ok hw R)]
  obtain ⟨hcb, hrl, hri, hin', hHH, hcc⟩ := hc
  obtain ⟨hnd, hrun, hvs, hrep⟩ := callOf_vals hop hcall hcb R
  have hjl : j < args.length := by
    have := (Array.getElem?_eq_some_iff.1 hj).1
    simp at hvs; omega
  have hvj : (xs.map a.eval).getD j Go.undef = a.tmps.getD s Go.undef := by
    have hx := (Array.getElem?_eq_some_iff.1 hj)
    obtain ⟨h1, h2⟩ := hx
    simp [Array.getD, h1, h2]; rfl
  let N := σ.heap.length
  have hN : N = G.nh := R.h.nh
  
  let G1 : Gh := { G.move (.s s) (.o N) with nh := G.nh + 1 }
  let σ1 : St := { σ with env := eset σ.env s (.d (.list k ys)), heap := σ.heap ++ [.dead] }
  have hpr0 := G.move_pres w (.s s) (.o N)
  have hpr : Pres G G1 w w (fun x => x ≠ .s s) := ⟨hpr0.K, hpr0.O, hpr0.β, Nat.le_succ _⟩
  have hslot := R.slots s
  rw [hs] at hslot
  generalize hsv : a.tmps.getD s Go.undef = sv at hslot hvj
  cases hslot with | own _ _ _ _ hr0 htl =>
  have R1 : Rel G1 σ1 a w := by
    refine ⟨⟨⟨fun b x f' h' => (R.h.sane.move (by simp [Loc.root])).no b x f' h'⟩, by simp [σ1, G1]; exact R.h.nh, fun i ob hob => ?_, R.h.kept, fun b ℓ f' h' => ?_⟩, R.size, fun t => ?_, fun t r' off ht => ?_, ?_⟩
    · simp only [σ1] at hob
      rcases Nat.lt_or_ge i σ.heap.length with hi | hi
      · rw [List.getElem?_append_left hi] at hob
        exact (R.h.objs i ob hob).pres R.h.sane (by rw [← R.h.nh]; exact hi) hpr (by simp) (by simp)
      · rw [List.getElem?_append_right hi] at hob
        match hq : i - σ.heap.length, hob with
        | 0, hob => simp at hob; subst hob; trivial
        | q + 1, hob => simp at hob
    · obtain ⟨y, hy, rfl⟩ := move_O (G := G) h'
      exact R.h.disj b y f' hy
    · simp only [σ1, St.get, eget_eset]
      split
      · rename_i e; subst e; rw [hsv]; exact .d _ _ _ hr0
      · rename_i e
        exact (R.slots t).pres R.h.sane hpr (by simp; exact fun h => e h.symm) (fun _ _ _ => rfl) (fun _ _ _ => ⟨rfl, by simp⟩)
    · simp only [σ1, St.get, eget_eset] at ht ⊢
      split at ht
      · cases ht
      · obtain ⟨cs, hcs⟩ := R.places t r' off ht
        refine ⟨cs, ?_⟩
        split
        · rename_i e; subst e; rw [hcs] at hs; cases hs
        · exact hcs
    · exact R.df.move (by simp)
  have hE1 : ∀ m, Ext m G w G1 w := fun m => ⟨KLe.refl _, fun x v h => .inl h, fun b _ hO => ⟨rfl, by simp [G1, Gh.move, hO]⟩, Nat.le_refl _, fun _ _ => rfl, rfl, rfl, fun _ _ => rfl, rfl, Nat.le_refl _⟩
  have hlen : (σ.heap ++ [Obj.dead]).length = N + 1 := by simp [N]
  have RH : RelH G1 ((σ.heap ++ [.dead]) ++ []) w := by rw [List.append_nil]; exact R1.h
  have hRh := RH.handed (by rw [hlen]; exact hin)
  refine ⟨fun _ _ => trivial, ?_⟩
  rw [Oper.semAt_eq _ _ _ hnd, hrun]
  refine ⟨fun hh => by simp [Wd] at hh, ?_⟩
  have hsub : Sub G (G1.handed (σ.heap ++ [Obj.dead]).length) w w (fun ℓ => ℓ = .no) (N + 1) :=
    ⟨KLe.refl _, fun b ℓ f hl hO => absurd (hl ▸ rfl) (R.h.sane.no b ℓ f hO), fun _ _ => rfl, by rw [hlen]; exact Nat.le_refl _⟩
  refine CallsIn.mono (callsIn_wd (hcc (n - 1) (G1.handed (σ.heap ++ [Obj.dead]).length) w (xs.map a.eval) (by rw [hvs]; simp) (fun i hi => ?_) hRh (fun b ℓ f hO => ?_))) ?_
  · rw [hlen, Nat.add_sub_cancel]
    simp only [List.length_set] at hi
    by_cases hij : i = j
    · subst hij
      rw [List.getElem_set_self, hvj]
      refine .own _ _ _ _ hr0 ?_
      intro a' n' cap e hn'
      obtain ⟨f', c, e', h1, h2, h3, h4⟩ := htl a' n' cap e hn'
      refine ⟨f', c, e', ?_, h2, h3, h4⟩
      simp [Gh.handed, G1, Gh.move, h1, objLoc, hlen]
    · rw [List.getElem_set_ne (fun e => hij e.symm)]
      have hfree : args[i].free = true := by
        have := (freeBut_get (i0 := 0) hfr i (by simpa using hi)).2 (by omega)
        rwa [List.getElem_set_ne (fun e => hij e.symm)] at this
      have := ((hrep i hi).sub R.h.sane hsub rfl (inbL_get hargs i hi) (AV.free_isLocal hfree)).anywhere hfree (.o N)
      rw [hlen] at this
      exact this
  · have := (handed_O hO).2
    cases ℓ <;> simp [objLoc] at this
    · rename_i i; exact ⟨i, rfl⟩
    · rename_i i j; exact ⟨i, rfl⟩
  · rintro e w' ⟨v, G3, rfl, hv, R3, hE⟩
    have hb1 : (σ1.get d).isBox = false := by
      simp only [σ1, St.get, eget_eset]
      split
      · rfl
      · exact hb
    obtain ⟨R', hext⟩ := R1.back (H := σ.heap ++ [.dead]) (rest := []) (by simp [σ1]) (.inl rfl) hHH R3 hE hin' hv hrl hri hlt hb1
    show wpListIn _ _ _ _ _ _ (a.put o.dst v) w'
    rw [hd]
    rw [List.append_nil] at R'
    refine h rr n _ _ w' Q' ?_ R' (fun e a' w'' hp => hQ e a' w'' (hp.ext ((hE1 m).trans (hext m (by simp [G1]; omega)))))
    have : (σ.heap ++ [Obj.dead]).length ≤ H'.length := hHH
    simp [Gh.back]; rw [hlen] at this; omega
theorem AOps.cO {A : Ar} (hT : TOk P T) (hA : A = Ar.std) (an : Ann) {f : FuncId} {args args' : List AV} {rest : List Oper} {σ1 : St} {H1 H' : List Obj} {r : AV} {d s k : Nat} (j : Nat) {ys : List D} {xs : Array Operand} {ts : Array TypeId} (h : runP A T an ops.toList l σ = .call f args o rest σ1)
    (hm : m ≤ σ.heap.length) (hc : ACallO P f args' H1 r H') (hop : o.op = .call { callee := .value (.func f), args := xs, argTypes := ts }) (hj : xs[j]? = some (.tmp s)) (hs : σ1.get s = .own k ys) (ha : args.set j (.own k ys) = args') (hh : σ1.heap ++ [.dead] = H1) (hin : objsInb H1.length H1 = true) (hargs : inbL H1.length args = true)
    (hd : o.dst = some d) (hlt : d < σ1.n) (hb : (σ1.get d).isBox = false) (hfr : freeBut j 0 args' = true) (kk : AOps P m ops rest Q { σ1 with env := eset (eset σ1.env s (.d (.list k ys))) d r, heap := H' }) : AOps P m ops l Q σ := by
  subst ha hh
  have hl : (σ1.heap ++ [Obj.dead]).length = σ1.heap.length + 1 := by simp
  rw [hl] at hin hargs
  exact AOps.run (an := an) hT l σ hm (by
    subst hA
    rw [h]
    intro hcall hw
    refine AOps.callO hop hw hcall hj hs hin hargs hd hlt hb hfr hc ?_
    intro r n G a w Q' hm' R hQ
    exact kk r n G a w Q' hm' R (fun e a' w' hp => by
      obtain ⟨σ', G', R', hE, hm'', hq⟩ := hp
      exact hQ e a' w' ⟨σ', G', R', hE, hm'', fun _ => hq⟩))
end
end Go.Am

set_option linter.unusedSimpArgs false
set_option linter.unusedVariables false
namespace Go.Am
open Go
mutual
def D.kf : D → Bool
  | .list _ [] => true
  | .list _ (_ :: _) => false
  | .agg l => kfD l
  | .iface _ x => x.kf
  | .ref _ => false
  | _ => true
def kfD : List D → Bool
  | [] => true
  | x :: r => x.kf && kfD r
end
theorem kfD_get : ∀ {l : List D}, kfD l = true → ∀ (i : Nat) (hi : i < l.length), l[i].kf = true
  | x :: r, h, 0, _ => by simp [kfD] at h; exact h.1
  | x :: r, h, i + 1, hi => by simp [kfD] at h; exact kfD_get h.2 i (by simpa using hi)
mutual
def AV.kf : AV → Bool
  | .own .. | .lim .. | .tail .. | .lbox _ | .place .. | .iptr _ => false
  | .d x => x.kf
  | .func _ as bs => kfL as && kfL bs
  | .agg cs | .tuple cs => kfL cs
  | _ => true
def kfL : List AV → Bool
  | [] => true
  | c :: r => c.kf && kfL r
end
theorem kfL_get : ∀ {l : List AV}, kfL l = true → ∀ (i : Nat) (hi : i < l.length), l[i].kf = true
  | x :: r, h, 0, _ => by simp [kfL] at h; exact h.1
  | x :: r, h, i + 1, hi => by simp [kfL] at h; exact kfL_get h.2 i (by simpa using hi)
theorem RepD.kf {K K' : Addr → Option Value} {x : D} {v : Value} (h : RepD K x v) : x.kf = true → RepD K' x v := by
  induction h with
  | bool b => exact fun _ => .bool b
  | int k n => exact fun _ => .int k n
  | str s => exact fun _ => .str s
  | nilIface => exact fun _ => .nilIface
  | iface t x v _ ih => exact fun hk => .iface t x v (ih (by simpa [D.kf] using hk))
  | agg cs vs hs _ h1 ih => exact fun hk => .agg cs vs hs (fun i hi => ih i hi (kfD_get (by simpa [D.kf] using hk) i hi)) h1
  | ref cs b off vs hk h1 _ _ => exact fun hkf => by simp [D.kf] at hkf
  | nil k => exact fun _ => .nil k
  | none0 k a => exact fun _ => .none0 k a
  | list k l b off cap vs hu hc hk h1 _ ih =>
    intro hkf
    cases l with
    | nil => exact .list k [] b off cap vs hu hc (fun j hj => by simp [D.flat] at hj) (fun j hj => by simp [D.flat] at hj) (fun j hj => by simp [D.flat] at hj)
    | cons y r => simp [D.kf] at hkf
theorem RepV.kf {G G' : Gh} {w w' : World} {ℓ : Loc} {av : AV} {v : Value} (h : RepV G w ℓ av v) (hβ : ∀ a, a < G.nh → G'.β (.o a) = G.β (.o a)) (hn : G.nh ≤ G'.nh) : av.kf = true → ∀ ℓ', RepV G' w' ℓ' av v := by
  induction h with
  | undef ℓ v => exact fun _ ℓ' => .undef ℓ' v
  | abool ℓ b => exact fun _ ℓ' => .abool ℓ' b
  | d ℓ x v h => exact fun hk ℓ' => .d ℓ' x v (h.kf (by simpa [AV.kf] using hk))
  | ptr ℓ a off ha => intro _ ℓ'; rw [← hβ a ha]; exact .ptr ℓ' a off (Nat.lt_of_lt_of_le ha hn)
  | nilptr ℓ => exact fun _ ℓ' => .nilptr ℓ'
  | iptr ℓ cs b off vs hK h1 h => intro hk; simp [AV.kf] at hk
  | own ℓ k l v h ht => intro hk; simp [AV.kf] at hk
  | lim ℓ k l v h ht => intro hk; simp [AV.kf] at hk
  | tail ℓ k l v h ht => intro hk; simp [AV.kf] at hk
  | func ℓ f as bs va vb ha hb _ _ hc hc' ih ih' =>
    intro hk ℓ'
    simp [AV.kf] at hk
    exact .func ℓ' f as bs va vb ha hb (fun i hi => ih i hi (kfL_get hk.1 i hi) _) (fun i hi => ih' i hi (kfL_get hk.2 i hi) _) hc hc'
  | nilfunc ℓ => exact fun _ ℓ' => .nilfunc ℓ'
  | yield ℓ l hl => intro _ ℓ'; rw [← hβ l hl]; exact .yield ℓ' l (Nat.lt_of_lt_of_le hl hn)
  | map ℓ a ha => intro _ ℓ'; rw [← hβ a ha]; exact .map ℓ' a (Nat.lt_of_lt_of_le ha hn)
  | nilmap ℓ => exact fun _ ℓ' => .nilmap ℓ'
  | lbox t cs vs e hO hw hs _ hc ih => intro hk; simp [AV.kf] at hk
  | place ℓ r off => intro hk; simp [AV.kf] at hk
  | mref ℓ a k lo n b off cap ha h1 h2 h3 h4 => intro _ ℓ'; exact .mref ℓ' a k lo n b off cap (Nat.lt_of_lt_of_le ha hn) h1 h2 h3 (fun h => by rw [hβ a ha]; exact h4 h)
  | mcap ℓ a k lo n c b off cap ha h1 h2 h3 h4 h5 => intro _ ℓ'; exact .mcap ℓ' a k lo n c b off cap (Nat.lt_of_lt_of_le ha hn) h1 h2 h3 h4 (fun h => by rw [hβ a ha]; exact h5 h)
  | gref ℓ a k p ha hc hq => intro _ ℓ'; rw [← hβ _ ha, ← hβ _ (by omega : a + 1 < _)] at hc; rw [← hβ _ ha, ← hβ _ (by omega : a + 1 < _)]; exact .gref ℓ' a k p (Nat.lt_of_lt_of_le ha hn) hc (fun h => by rw [hβ _ (by omega : a < _)]; exact hq (by rw [← hβ _ (by omega : a + 1 < _)]; exact h))
  | eptr ℓ a k i j ha hi => intro _ ℓ'; rw [← hβ a ha]; exact .eptr ℓ' a k i j (Nat.lt_of_lt_of_le ha hn) hi
  | agg ℓ cs vs hs _ hc hf ih => intro hk ℓ'; exact .agg ℓ' cs vs hs (fun i hi => ih i hi (kfL_get (by simpa [AV.kf] using hk) i hi) _) hc hf
  | tuple ℓ cs vs hs _ hc ih => intro hk ℓ'; exact .tuple ℓ' cs vs hs (fun i hi => ih i hi (kfL_get (by simpa [AV.kf] using hk) i hi) _) hc
def AV.kfo : AV → Bool
  | .own _ [] => true
  | c => c.kf
def AV.kft : AV → Bool
  | .lbox cs => cs.all AV.kfo
  | c => c.kf
theorem RepV.kfo {G G' : Gh} {w : World} {ℓ : Loc} {av : AV} {v : Value} (h : RepV G w ℓ av v) (hβ : ∀ a, a < G.nh → G'.β (.o a) = G.β (.o a)) (hn : G.nh ≤ G'.nh) (hO : ∀ b f, G.O b = some (ℓ, f) → G'.O b = some (ℓ, f)) (hk : av.kfo = true) : RepV G' w ℓ av v := by
  cases av with
  | own k l =>
    cases l with
    | nil =>
      cases h with | own _ _ _ _ h ht =>
      refine .own _ _ _ _ (h.kf rfl) fun a n cap e hc => ?_
      obtain ⟨f, c, e, h1, h2, h3, h4, h5⟩ := ht a n cap e hc
      exact ⟨f, c, e, hO _ _ h1, h2, h3, h4, h5⟩
    | cons x r => simp [AV.kfo, AV.kf] at hk
  | _ => exact h.kf hβ hn hk ℓ
theorem RepV.kft {G G' : Gh} {w : World} {t : Nat} {av : AV} {v : Value} (h : RepV G w (.s t) av v) (hβ : ∀ a, a < G.nh → G'.β (.o a) = G.β (.o a)) (hβs : G'.β (.s t) = G.β (.s t)) (hn : G.nh ≤ G'.nh)
    (hO : ∀ b f, G.O b = some (.s t, f) → G'.O b = some (.s t, f)) (hOc : ∀ j b f, G.O b = some (.sc t j, f) → G'.O b = some (.sc t j, f)) (hk : av.kft = true) : RepV G' w (.s t) av v := by
  cases av with
  | lbox cs =>
    cases h with | lbox _ _ vs e h1 h2 h3 h4 h5 =>
    have hk' : ∀ c ∈ cs, c.kfo = true := by simpa [AV.kft] using hk
    rw [← hβs] at h1 h2 ⊢
    exact .lbox t cs vs e (hO _ _ (by rw [hβs] at h1 ⊢; exact h1)) h2 h3 (fun j hj => (h4 j hj).kfo hβ hn (hOc j) (hk' _ (List.getElem_mem hj))) h5
  | _ => exact h.kf hβ hn hk _
def thawSt (σ : St) (ts : List Nat) (i j k : Nat) (l : List D) (cs : List AV) (n : Int) : St :=
  { env := ts.map fun t => (t, σ.get t), heap := (List.range σ.heap.length).map (fun x => if x = i then .cells (cs.set j (.mref σ.heap.length k 0 n)) else .dead) ++ [.arr k l], n := σ.n }
theorem eget_map (g : Nat → AV) : ∀ (ts : List Nat) (t : Nat), eget (ts.map fun t => (t, g t)) t = if t ∈ ts then g t else .undef
  | [], t => rfl
  | s :: r, t => by
    simp only [List.map_cons, eget, eget_map g r t, List.mem_cons]
    by_cases h : s = t
    · subst h; simp
    · have h2 : ¬ t = s := fun e => h e.symm
      simp [h, h2]
theorem Rel.thawC {G : Gh} {σ : St} {a : Act} {w : World} (R : Rel G σ a w) {ts : List Nat} {i j k : Nat} {l : List D} {cs : List AV} {n : Int} (hi : σ.heap[i]? = some (.cells cs)) (hj : cs[j]? = some (.own k l)) (hl : l ≠ []) (hs : scalars l = true) (hn : (l.length : Int) = n)
    (hts : ∀ t ∈ ts, (σ.get t).kft = true) (hcs : ∀ q c, q ≠ j → cs[q]? = some c → c.kf = true) :
    ∃ b G', Rel G' (thawSt σ ts i j k l cs n) a w ∧ (∃ p, G.O b = some p) ∧ (∀ x v, G'.K x = some v ↔ x.block ≠ b ∧ G.K x = some v) ∧ (∀ c, G.O c = none → G'.O c = none) := by
  have hil : i < σ.heap.length := (List.getElem?_eq_some_iff.1 hi).1
  have hjl : j < cs.length := (List.getElem?_eq_some_iff.1 hj).1
  have hcj : cs[j] = .own k l := (List.getElem?_eq_some_iff.1 hj).2
  obtain ⟨vs, e, o1, o2, o3, o4, o5⟩ := R.h.objs i _ hi
  have hv := o4 j hjl
  rw [hcj] at hv
  generalize hvv0 : vs.getD j Go.undef = v at hv
  cases hv with | own _ _ _ _ hr ht =>
  rcases hr.slice with ⟨rfl, _⟩ | ⟨b, off, cap, hvv⟩
  · exact absurd rfl hl
  have hlen : 0 < l.length := List.length_pos_iff.2 hl
  have hcap : l.length ≤ cap := by
    rw [hvv] at hr
    generalize hv' : Value.slice (some ⟨b, off, none⟩) l.length cap = v at hr
    cases hr with
    | nil => simp at hv'
    | none0 => simp
    | list k l b' off' cap' vs hu hc => simp at hv'; omega
  obtain ⟨fr, c, e0, t1, t2, t3, t4, t5⟩ := ht _ _ _ hvv (by omega)
  dsimp only at t1 t2 t3 t4 t5
  subst t5
  have hnh : σ.heap.length = G.nh := R.h.nh
  obtain ⟨hu, hK, hKK, h1c, hh⟩ : uniform k l ∧ ∃ vs : Nat → Value, (∀ j, j < (D.flat l).length → G.K ⟨b, 0 + j, none⟩ = some (vs j)) ∧ (∀ j, j < (D.flat l).length → (vs j).oneCell' = true) ∧ ∀ (j : Nat) (hj : j < (D.flat l).length), RepD G.K (D.flat l)[j] (vs j) := by
    rw [hvv] at hr
    generalize hv' : Value.slice (some ⟨b, 0, none⟩) l.length cap = v at hr
    cases hr with
    | nil => simp at hv'
    | none0 => exact absurd rfl hl
    | list k l b' off' cap' vs hu hc hK h1 hh =>
      simp at hv'
      obtain ⟨⟨rfl, rfl⟩, _⟩ := hv'
      exact ⟨hu, vs, hK, h1, hh⟩
  have hfl := flat_length hu
  have hsz : (D.flat l).length ≤ c.size := by
    have : l.length * k ≤ cap * k := Nat.mul_le_mul_right k hcap
    omega
  have hcell : ∀ j, j < (D.flat l).length → c.getD j Go.undef = hK j := by
    intro j hj
    have := R.h.kept _ _ (hKK j hj)
    rw [Nat.zero_add] at this
    have h2 := cell_at t3 (show j < c.size by omega)
    rw [this] at h2
    exact (Option.some.inj h2).symm
  have hbi : b ≠ G.β (.o i) := by rintro rfl; rw [o1] at t1; cases t1
  let G' : Gh := { K := fun x => if x.block = b then none else G.K x, O := fun x => if x = b then some (.o G.nh, 0) else G.O x, β := fun r => if r = .o G.nh then b else G.β r, nh := G.nh + 1 }
  have hβ : ∀ i, i < G.nh → G'.β (.o i) = G.β (.o i) := by
    intro i hi
    simp only [G', Root.o.injEq]
    rw [if_neg (by omega)]
  have hKi : ∀ x v, G'.K x = some v ↔ x.block ≠ b ∧ G.K x = some v := by
    intro x v
    simp only [G']
    split <;> simp_all
  have hin : i < G.nh := by omega
  have hOo : ∀ {ℓ : Loc}, ℓ ≠ .oc i j → ∀ b' f', G.O b' = some (ℓ, f') → G'.O b' = some (ℓ, f') := by
    intro ℓ hne b' f' h
    simp only [G']
    rw [if_neg]; exact h
    rintro rfl
    rw [t1] at h; simp at h; exact hne h.1.symm
  refine ⟨b, G', ⟨⟨⟨fun b' ℓ f' h => ?_⟩, by simp [thawSt, G', hnh], fun i' ob hob => ?_, fun x v h => R.h.kept x v ((hKi x v).1 h).2, fun b' ℓ f' h => ?_⟩, R.size, fun t => ?_, fun t r off' ht => ?_, ?_⟩, ⟨_, t1⟩, hKi, fun c' hc' => ?_⟩
  · simp only [G'] at h
    split at h
    · simp at h; rw [← h.1]; simp [Loc.root]
    · exact R.h.sane.no b' ℓ f' h
  · simp only [thawSt] at hob
    rcases Nat.lt_or_ge i' σ.heap.length with hlt | hge
    · rw [List.getElem?_append_left (by simpa using hlt)] at hob
      rw [List.getElem?_map, List.getElem?_range hlt] at hob
      simp only [Option.map_some, Option.some.injEq] at hob
      split at hob
      · rename_i hii; subst hii; subst hob
        refine ⟨vs, e, ?_, ?_, by simpa using o3, fun q hq => ?_, fun x hx => ?_⟩
        · rw [hβ i' hin]; simp only [G']; rw [if_neg (Ne.symm hbi)]; exact o1
        · rw [hβ i' hin]; exact o2
        · rw [List.length_set] at hq
          by_cases hqj : q = j
          · subst hqj
            rw [List.getElem_set_self, hvv0, hvv, hnh, ← hn]
            have := RepV.mref (G := G') (w := w) (.oc i' q) G.nh k 0 (l.length : Int) b 0 cap (by simp [G']) (Int.le_refl _) (by omega) (by simpa using hcap) (fun _ => ⟨by simp [G'], by simp⟩)
            simpa using this
          · rw [List.getElem_set_ne (Ne.symm hqj)]
            exact (o4 q hq).kf hβ (Nat.le_succ _) (hcs q _ hqj (List.getElem?_eq_getElem hq)) _
        · rcases List.mem_or_eq_of_mem_set hx with hx | rfl
          · exact o5 x hx
          · rfl
      · subst hob; trivial
    · rcases Nat.eq_or_lt_of_le hge with rfl | hgt
      · rw [List.getElem?_append_right (by simp)] at hob
        simp at hob
        subst hob
        refine ⟨c, e0, ?_, ?_, hu, hsz, fun q hq => ?_, fun q hq => ?_⟩
        · simp [G', hnh]
        · simpa [G', hnh] using t3
        · rw [hcell q hq]; exact h1c q hq
        · rw [hcell q hq]
          exact (hh q hq).scalar (scalars_flat hs _ (List.getElem_mem hq))
      · rw [List.getElem?_eq_none (by simp; omega)] at hob; cases hob
  · simp only [G'] at h ⊢
    split at h
    · rename_i hb; subst hb
      exact ⟨(R.h.disj _ _ _ t1).1, fun q _ => by simp⟩
    · rename_i hb
      have := R.h.disj b' ℓ f' h
      exact ⟨this.1, fun q hq => by simp only [hb, if_false]; exact this.2 q hq⟩
  · simp only [thawSt, St.get, eget_map]
    split
    · rename_i htm
      exact (R.slots t).kft hβ (by simp [G']) (Nat.le_succ _) (hOo (by simp)) (fun j => hOo (by simp)) (hts t htm)
    · exact .undef _ _
  · simp only [thawSt, St.get, eget_map] at ht
    split at ht
    · rename_i htm
      have := hts t htm
      simp only [St.get] at this
      rw [ht] at this; simp [AV.kft, AV.kf] at this
    · cases ht
  · refine ⟨R.df.1, fun d hd => ?_⟩
    obtain ⟨r0, h1, h2, h3⟩ := R.df.2 d hd
    refine ⟨r0, h1, ?_, h3⟩
    simp only [G']
    rw [if_neg (by rintro rfl; rw [h2] at t1; cases t1)]; exact h2
  · simp only [G']
    rw [if_neg (by rintro rfl; rw [t1] at hc'; cases hc')]; exact hc'
def AWpR (P : Program) (c : Code) (Q : Exit → St → Prop) (σ : St) : Prop :=
  ∀ (n : Nat) (G0 : Gh) (w0 : World) (G : Gh) (a : Act) (w : World), (∀ b, G0.O b = none) → (∀ x v, G0.K x = some v → x.block < w0.heap.size) → Rel G σ a w → Ext 0 G0 w0 G w → c.wpIn (Wd none) n P (Post 0 G0 w0 Q) a w
section
variable {P : Program} {c x y : Code} {Q : Exit → St → Prop} {σ : St}
theorem AWpR.of (h : AWpT P 0 c Q σ) : AWpR P c Q σ := fun n G0 w0 G a w _ _ R hE => wpIn_mono (h n G a w (Nat.zero_le _) R) (fun _ _ _ hp => hp.ext hE)
theorem AWpR.seq (h : AWpT P 0 x (AExit.then (AWpR P y Q) Q) σ) : AWpR P (.seq x y) Q σ := by
  intro n G0 w0 G a w hO hK R hE0
  refine wpIn_seq (wpIn_mono (h n G a w (Nat.zero_le _) R) ?_)
  rintro e a' w' ⟨σ', G', R', hE, hm', hQ⟩
  cases e with
  | normal => exact hQ n G0 w0 G' a' w' hO hK R' (hE0.trans hE)
  | _ => exact ⟨σ', G', R', hE0.trans hE, hm', hQ⟩
theorem AWpR.seq2 (h : AWpR P x (AExit.then (AWpR P y Q) Q) σ) : AWpR P (.seq x y) Q σ := by
  intro n G0 w0 G a w hO hK R hE0
  refine wpIn_seq (wpIn_mono (h n G0 w0 G a w hO hK R hE0) ?_)
  rintro e a' w' ⟨σ', G', R', hE, hm', hQ⟩
  cases e with
  | normal => exact hQ n G0 w0 G' a' w' hO hK R' hE
  | _ => exact ⟨σ', G', R', hE, hm', hQ⟩
theorem AWpR.thawC (ts : List Nat) (i j : Nat) {k : Nat} {l : List D} {cs : List AV} {n : Int} (hi : σ.heap[i]? = some (.cells cs)) (hj : cs[j]? = some (.own k l)) (hl : l ≠ []) (hs : scalars l = true) (hn : (l.length : Int) = n)
    (hts : ts.all (fun t => (σ.get t).kft) = true) (hcs : kfL (cs.set j .undef) = true) (h : AWpR P c Q (thawSt σ ts i j k l cs n)) : AWpR P c Q σ := by
  intro n' G0 w0 G a w hO hK R hE
  obtain ⟨b, G', R', ⟨p, hb⟩, hKi, hO'⟩ := R.thawC (ts := ts) hi hj hl hs hn (fun t ht => List.all_eq_true.1 hts t ht) (fun q c hq hc => by
    have hql : q < cs.length := (List.getElem?_eq_some_iff.1 hc).1
    have := kfL_get hcs q (by simpa using hql)
    rw [List.getElem_set_ne (Ne.symm hq)] at this
    rw [(List.getElem?_eq_some_iff.1 hc).2] at this
    exact this)
  have hnew : w0.heap.size ≤ b := by
    rcases Nat.lt_or_ge b w0.heap.size with hlt | hge
    · have := (hE.others b hlt (hO b)).2
      rw [hb] at this; cases this
    · exact hge
  refine h n' G0 w0 G' a w hO hK R' ⟨fun x v hx => (hKi x v).2 ⟨fun e => ?_, hE.K x v hx⟩, fun x v hx => hE.new x v ((hKi x v).1 hx).2, fun b' hb' hO1 => ⟨(hE.others b' hb' hO1).1, hO' _ (hE.others b' hb' hO1).2⟩, hE.size, fun i hi => absurd hi (Nat.not_lt_zero _), hE.io⟩
  have := hK x v hx
  omega
end
theorem ACall.enterR {P : Program} {T : Types} (hT : TOk P T) {f : FuncId} {fn : Func} {c : Code} {args : List AV} {H' : List Obj} {r : AV} (hf : P.funcs[f]? = some fn) (hb : fn.body = some c) (hname : fn.name ≠ "runtime.NumGoroutine")
    (hn : args.length ≤ fn.ntmps) (hfr : args.all AV.free = true) (hia : inbL 0 args = true) (hrl : r.isLocal = false) (hri : r.inb H'.length = true) (hin : objsInb H'.length H' = true)
    (h : AWpR P c (FnPost T fn 0 r H') { env := envOf 0 args, heap := [], n := fn.ntmps }) : ACall P f args [] r H' := by
  refine ⟨by simp [callable, hf, hb, hname], hrl, hri, hin, Nat.zero_le _, fun n G w vs hvs hrep RH _ => ?_⟩
  let G1 : Gh := { G with O := fun _ => none }
  have RH1 : RelH G1 [] w := ⟨⟨fun b ℓ f h => by cases h⟩, RH.nh, fun i ob h => by simp at h, RH.kept, fun b ℓ f h => by cases h⟩
  have hfr' : ∀ c ∈ args, c.free = true := by simpa using hfr
  have hsub : Sub G G1 w w (fun ℓ => ℓ = .no) 0 := ⟨KLe.refl _, fun b ℓ f hl hO => absurd (hl ▸ rfl) (RH.sane.no b ℓ f hO), fun _ _ => rfl, Nat.zero_le _⟩
  refine CallsIn.mono (ACall.enterW hT hf hb hname hn hfr hrl hri hin (Nat.zero_le _) n G1 w (fun a R => h n G1 w G1 a w (fun _ => rfl) (fun x v hx => World.block_lt_of_cell? w _ (RH.kept x v hx)) R (Ext.refl _ _ _)) vs hvs
    (fun i hi => (hrep i hi).sub RH.sane hsub rfl (inbL_get hia i hi) (AV.free_isLocal (hfr' _ (List.getElem_mem hi)))) RH1) ?_
  rintro e w' ⟨v, G', rfl, hv, R', hE⟩
  exact ⟨v, G', rfl, hv, R', hE.K, fun x v hx => (hE.new x v hx).imp id (fun h => h.elim (fun ⟨p, hp⟩ => by cases hp) .inr), fun b hb _ => hE.others b hb rfl, hE.size, fun i hi => absurd hi (Nat.not_lt_zero _), hE.io⟩
end Go.Am
