/- Lists that are made free to be changed, and lists that are left as they are. -/
import Derived.Test.YtalfdjihejohoaaAmForget
set_option linter.unusedSimpArgs false
set_option linter.unusedSectionVars false
set_option linter.unusedVariables false
namespace Go.Am
open Go

def D.scalar : D → Bool
  | .int .. | .bool _ | .str _ | .nilIface => true
  | _ => false
theorem RepD.scalar {K K' : Addr → Option Value} {x : D} {v : Value} (hs : x.scalar = true) (h : RepD K x v) : RepD K' x v := by
  cases h <;> first | (simp [D.scalar] at hs; done) | constructor
def scalars (l : List D) : Bool := l.all fun x => x.cells.all D.scalar
theorem scalars_flat {l : List D} (h : scalars l = true) : ∀ x ∈ D.flat l, x.scalar = true := by
  intro x hx
  unfold D.flat at hx
  obtain ⟨y, hy, hxy⟩ := List.mem_flatMap.1 hx
  have := List.all_eq_true.1 h y hy
  exact List.all_eq_true.1 this x hxy

/-- What a function returns as its own, its caller may change. -/
theorem ACall.thaw {P : Program} {f : FuncId} {args : List AV} {k : Nat} {l : List D} (hc : ACall P f args [] (.own k l) []) (hargs : inbL 0 args = true) (hfree : args.all AV.free = true) (hl : l ≠ []) (hs : scalars l = true)
    {H : List Obj} (hin : objsInb (H.length + 1) (H ++ [.arr k l]) = true) {n : Int} (hn : (l.length : Int) = n) : ACall P f args H (.mref H.length k 0 n) (H ++ [.arr k l]) := by
  obtain ⟨h1, _, _, _, _, h⟩ := hc
  refine ⟨h1, rfl, by simp [AV.inb], by simpa using hin, by simp, ?_⟩
  intro N G w vs hvs hrep R hO
  have R0 := R.handed (H := []) (rest := H) rfl
  have hsub : Sub G (G.handed 0) w w (fun ℓ => ℓ = .no) 0 :=
    ⟨KLe.refl _, fun b ℓ f hl hO => absurd (hl ▸ rfl) (R.sane.no b ℓ f hO), fun _ _ => rfl, Nat.le_refl _⟩
  have hfree' : ∀ c ∈ args, c.free = true := by simpa using hfree
  have hnone : ∀ b, (G.handed 0).O b = none := fun b => handed_none (by intro ℓ f _; cases ℓ <;> simp [objLoc])
  refine CallsIn.mono (h N (G.handed 0) w vs hvs (fun i hi => (hrep i hi).sub R.sane hsub rfl (inbL_get hargs i hi) (AV.free_isLocal (hfree' _ (List.getElem_mem hi)))) R0 (fun b ℓ f hb => by rw [hnone] at hb; cases hb)) ?_
  rintro e w' ⟨v, G3, rfl, hv, R3, hE⟩
  cases hv with | own _ _ _ _ hr ht =>
  rcases hr.slice with ⟨rfl, _⟩ | ⟨b, off, cap, hvv⟩
  · exact absurd rfl hl
  have hlen : 0 < l.length := List.length_pos_iff.2 hl
  have hcap : l.length ≤ cap := by
    rw [hvv] at hr
    generalize hv' : Value.slice (some ⟨b, off, none⟩) l.length cap = v at hr
    cases hr with
    | nil => simp at hv'
    | none0 => simp
    | list k l b' off' cap' vs hu hc => simp at hv'; omega
  obtain ⟨fr, c, e0, t1, t2, t3, t4, t5⟩ := ht _ _ _ hvv (by omega)
  dsimp only at t1 t2 t3 t4 t5
  subst t5
  -- the block is new
  have hnew : w.heap.size ≤ b := by
    rcases Nat.lt_or_ge b w.heap.size with hb | hb
    · have := (hE.others b hb (hnone b)).2
      rw [this] at t1; cases t1
    · exact hb
  have hblt : b < w'.heap.size := (Array.getElem?_eq_some_iff.1 t3).1
  have hold : ∀ b', b' < w.heap.size → w'.heap[b']? = w.heap[b']? := fun b' hb => (hE.others b' hb (hnone b')).1
  let G' : Gh := { K := G.K, O := fun x => if x = b then some (.o H.length, 0) else G.O x, β := fun r => if r = .o H.length then b else G.β r, nh := H.length + 1 }
  have hnh : H.length = G.nh := R.nh
  have hβold : ∀ i, i < H.length → G'.β (.o i) = G.β (.o i) := by
    intro i hi
    simp only [G', Root.o.injEq]
    rw [if_neg (by omega)]
  have hOold : ∀ b' x f', G.O b' = some (x, f') → G'.O b' = some (x, f') := by
    intro b' x f' h
    have := (R.disj b' x f' h).1
    simp only [G']
    rw [if_neg (by omega)]; exact h
  have hpr : Pres G G' w w' (fun _ => True) :=
    ⟨KLe.refl _, fun b' x f' _ h => ⟨hOold b' x f' h, hold b' (R.disj b' x f' h).1⟩, fun i hi => hβold i (by omega), by simp only [G']; omega⟩
  obtain ⟨hu, hK, hKK, h1c, hh⟩ : uniform k l ∧ ∃ vs : Nat → Value, (∀ j, j < (D.flat l).length → G3.K ⟨b, 0 + j, none⟩ = some (vs j)) ∧ (∀ j, j < (D.flat l).length → (vs j).oneCell' = true) ∧ ∀ (j : Nat) (hj : j < (D.flat l).length), RepD G3.K (D.flat l)[j] (vs j) := by
    rw [hvv] at hr
    generalize hv' : Value.slice (some ⟨b, 0, none⟩) l.length cap = v at hr
    cases hr with
    | nil => simp at hv'
    | none0 => exact absurd rfl hl
    | list k l b' off' cap' vs hu hc hK h1 hh =>
      simp at hv'
      obtain ⟨⟨rfl, rfl⟩, _⟩ := hv'
      exact ⟨hu, vs, hK, h1, hh⟩
  have hfl := flat_length hu
  have hsz : (D.flat l).length ≤ c.size := by
    have : l.length * k ≤ cap * k := Nat.mul_le_mul_right k hcap
    omega
  have hcell : ∀ j, j < (D.flat l).length → c.getD j Go.undef = hK j := by
    intro j hj
    have := R3.kept _ _ (hKK j hj)
    rw [Nat.zero_add] at this
    have h2 := cell_at t3 (show j < c.size by omega)
    rw [this] at h2
    exact (Option.some.inj h2).symm
  refine ⟨v, G', rfl, ?_, ⟨⟨fun b' ℓ f' h => ?_⟩, by simp [G'], fun i ob hob => ?_, fun x v h => ?_, fun b' ℓ f' h => ?_⟩, ⟨KLe.refl _, fun x v h => .inl h, fun b' hb hO' => ⟨hold b' hb, ?_⟩, hE.size, fun i hi => hβold i hi, hE.io⟩⟩
  · rw [hvv, ← hn]
    have := RepV.mref (G := G') (w := w') .ret H.length k 0 (l.length : Int) b 0 cap (by simp [G']) (Int.le_refl _) (by omega) (by simpa using hcap) (fun _ => ⟨by simp [G'], by simp⟩)
    simpa using this
  · simp only [G'] at h
    split at h
    · simp at h; rw [← h.1]; simp [Loc.root]
    · exact R.sane.no b' ℓ f' h
  · rcases Nat.lt_or_ge i H.length with hi | hi
    · rw [List.getElem?_append_left hi] at hob
      exact (R.objs i ob hob).pres R.sane (by omega) hpr trivial (fun _ => trivial)
    · have hi' : i = H.length := by
        have := (List.getElem?_eq_some_iff.1 hob).1
        simp at this; omega
      subst hi'
      simp at hob
      subst hob
      refine ⟨c, e0, by simp [G'], by simpa [G'] using t3, hu, hsz, fun j hj => ?_, fun j hj => ?_⟩
      · rw [hcell j hj]; exact h1c j hj
      · rw [hcell j hj]
        exact (hh j hj).scalar (scalars_flat hs _ (List.getElem_mem hj))
  · have hx := R.kept x v h
    have hb := World.block_lt_of_cell? w _ hx
    unfold World.cell? at *
    rwa [hold _ hb]
  · simp only [G'] at h ⊢
    split at h
    · rename_i hbe; subst hbe
      refine ⟨hblt, fun j _ => ?_⟩
      cases hK : G.K ⟨b', j, none⟩ with
      | none => rfl
      | some v => 
        have := World.block_lt_of_cell? w _ (R.kept _ _ hK)
        simp at this; omega
    · have := R.disj b' ℓ f' h
      exact ⟨by have := hE.size; omega, this.2⟩
  · simp only [G']
    rw [if_neg (by omega)]; exact hO'

/-- A list that may be changed is left as it is. -/
theorem Rel.freeze {G : Gh} {σ : St} {a : Act} {w : World} (R : Rel G σ a w) {s i k : Nat} {lo n : Int} {l : List D} (hs : σ.get s = .mref i k lo n) (hi : σ.heap[i]? = some (.arr k l)) (hfit : lo + n ≤ l.length) :
    ∃ G', Rel G' { σ with env := eset σ.env s (.d (.list k (Ar.std.sub l lo (lo + n)))), heap := σ.heap.set i .dead } a w ∧ ∀ m, Ext m G w G' w := by
  have hrep := R.slots s
  rw [hs] at hrep
  generalize hv : a.tmps.getD s Go.undef = v at hrep
  cases hrep with | mref _ _ _ _ _ b off cap hnh hlo hn hcap hbo =>
  obtain ⟨vs, e, hO, hw, hu, hsz, h1, hh⟩ := R.h.objs i _ hi
  have hil : i < σ.heap.length := (List.getElem?_eq_some_iff.1 hi).1
  have hfl := flat_length hu
  let B := G.β (.o i)
  let G' : Gh := { G with K := fun x => if x.block = B ∧ x.spot = none ∧ x.off < (D.flat l).length then some (vs.getD x.off Go.undef) else G.K x, O := fun x => if x = B then none else G.O x }
  have hdisj := R.h.disj _ _ _ hO
  have hKle : KLe G.K G'.K := by
    intro x v h
    simp only [G']
    rw [if_neg]; exact h
    rintro ⟨hb, hsp, _⟩
    obtain ⟨xb, xo, xs⟩ := x
    simp at hb hsp; subst hb hsp
    rw [hdisj.2 xo (Nat.zero_le _)] at h; cases h
  have hOold : ∀ b' x f', x ≠ .o i → G.O b' = some (x, f') → G'.O b' = some (x, f') := by
    intro b' x f' hx h
    have : b' ≠ B := by rintro rfl; rw [show G.O B = _ from hO] at h; simp at h; exact hx h.1.symm
    simp only [G']; rw [if_neg this]; exact h
  have hpr : Pres G G' w w (fun x => x ≠ .o i) :=
    ⟨hKle, fun b' x f' hx h => ⟨hOold b' x f' hx h, rfl⟩, fun _ _ => rfl, Nat.le_refl _⟩
  have hkept : ∀ x v, G'.K x = some v → w.cell? x = some v := by
    intro x v h
    simp only [G'] at h
    split at h
    · rename_i hc
      obtain ⟨xb, xo, xs⟩ := x
      obtain ⟨h1', h2', h3'⟩ := hc
      simp at h1' h2' h3' h
      subst h1' h2'
      rw [cell_at hw (by omega)]
      simpa using h
    · exact R.h.kept x v h
  obtain ⟨LO, rfl⟩ := Int.eq_ofNat_of_zero_le hlo
  obtain ⟨N, rfl⟩ := Int.eq_ofNat_of_zero_le hn
  have hsubl : Ar.std.sub l LO (LO + N) = (l.drop LO).take N := by
    simp only [Ar.std]
    congr 1
    all_goals omega
  -- the list that it is
  have hlist : RepD G'.K (.list k ((l.drop LO).take N)) (.slice (some ⟨b, off, none⟩) N cap) := by
    by_cases hN : N = 0
    · subst hN
      simp only [List.take_zero]
      exact RepD.empty _ _ _ _ _
    · obtain ⟨rfl, rfl⟩ := hbo (by omega)
      simp only [Int.toNat_natCast]
      have hus := hu.sub LO N
      have hln : ((l.drop LO).take N).length = N := by simp; omega
      have hfe : D.flat ((l.drop LO).take N) = ((D.flat l).drop (LO * k)).take (N * k) := by
        rw [flat_take (fun x hx => hu x (List.mem_of_mem_drop hx)), flat_drop hu]
      have hflN := flat_length hus
      have hmul : LO * k + N * k ≤ l.length * k := by rw [← Nat.add_mul]; exact Nat.mul_le_mul_right _ (by omega)
      have hgetj : ∀ (j : Nat) (hj : j < (D.flat ((l.drop LO).take N)).length), (D.flat ((l.drop LO).take N))[j] = (D.flat l)[LO * k + j]'(by rw [hflN, hln] at hj; omega) := by
        intro j hj
        simp only [hfe, List.getElem_take, List.getElem_drop]
      have := RepD.list (K := G'.K) k ((l.drop LO).take N) (G.β (.o i)) (LO * k) cap (fun j => vs.getD (LO * k + j) Go.undef) hus (by rw [hln]; simpa using hcap)
        (fun j hj => by
          rw [hflN, hln] at hj
          have hjj : LO * k + j < (D.flat l).length := by omega
          simp [G', B, hjj])
        (fun j hj => by rw [hflN, hln] at hj; exact h1 _ (by omega))
        (fun j hj => by
          rw [hgetj j hj]
          rw [hflN, hln] at hj
          exact (hh _ (by omega)).mono hKle)
      rwa [hln] at this
  refine ⟨G', ⟨⟨⟨fun b' x f' h => ?_⟩, by simpa [G'] using R.h.nh, fun i' ob hob => ?_, hkept, fun b' x f' h => ?_⟩, R.size, fun t => ?_, fun t r off' ht => ?_, ?_⟩, fun m => ⟨hKle, fun x v h => ?_, fun b' hb h => ⟨rfl, ?_⟩, Nat.le_refl _, fun _ _ => rfl, rfl, rfl, fun _ => rfl⟩⟩
  · simp only [G'] at h
    split at h
    · cases h
    · exact R.h.sane.no b' x f' h
  · by_cases hii : i = i'
    · subst hii
      simp [List.getElem?_set_self hil] at hob
      subst hob; trivial
    · simp only at hob
      rw [List.getElem?_set_ne hii] at hob
      exact (R.h.objs i' ob hob).pres R.h.sane (by rw [← R.h.nh]; exact (List.getElem?_eq_some_iff.1 hob).1) hpr (by simp; exact fun e => hii e.symm) (by simp)
  · simp only [G'] at h ⊢
    split at h
    · cases h
    · rename_i hne
      refine ⟨(R.h.disj b' x f' h).1, fun j hj => ?_⟩
      rw [if_neg (by intro hc; exact hne hc.1)]
      exact (R.h.disj b' x f' h).2 j hj
  · simp only [St.get, eget_eset]
    split
    · rename_i e'; subst e'
      rw [hv, hsubl]
      exact .d _ _ _ (by simpa using hlist)
    · exact (R.slots t).pres R.h.sane hpr (by simp) (fun _ _ _ => rfl) (fun t' e' _ => ⟨rfl, fun j => by simp⟩)
  · simp only [St.get, eget_eset] at ht ⊢
    split at ht
    · cases ht
    · obtain ⟨cs, hcs⟩ := R.places t r off' ht
      refine ⟨cs, ?_⟩
      split
      · rename_i e'; subst e'; rw [show σ.get s = .lbox cs from hcs] at hs; cases hs
      · exact hcs
  · refine ⟨R.df.1, fun x hx => ?_⟩
    obtain ⟨r0, h1, h2, h3⟩ := R.df.2 x hx
    exact ⟨r0, h1, hOold _ _ _ (by simp) h2, h3⟩
  · simp only [G'] at h
    split at h
    · rename_i hc; exact .inr (.inl ⟨_, by rw [hc.1]; exact hO⟩)
    · exact .inl h
  · simp only [G']; split
    · rfl
    · exact h

section
variable {P : Program} {m : Nat} {Q : Exit → St → Prop} {σ : St} {c : Code}
theorem AWp.freeze {s i k : Nat} {lo n : Int} {l l' : List D} (hs : σ.get s = .mref i k lo n) (hi : σ.heap[i]? = some (.arr k l)) (hfit : lo + n ≤ l.length) (hl : Ar.std.sub l lo (lo + n) = l')
    (h : AWp P m c Q { σ with env := eset σ.env s (.d (.list k l')), heap := σ.heap.set i .dead }) : AWp P m c Q σ := by
  intro r n' G a w hm R
  obtain ⟨G', R', hE⟩ := R.freeze hs hi hfit
  rw [hl] at R'
  refine wpIn_mono (h r n' G' a w (by have h1 := R'.h.nh; have h2 := R.h.nh; simp at h1; omega) R') ?_
  rintro e a' w' ⟨σ', G2, R2, hE2, hm2, hQ⟩
  exact ⟨σ', G2, R2, (hE m).trans hE2, hm2, hQ⟩
end
end Go.Am
