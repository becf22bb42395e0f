/- Letting go of objects; calls in drawn regions that are handed all objects. -/
import Derived.Test.YtalfdjihejohoaaAmSteps
set_option linter.unusedSimpArgs false
set_option linter.unusedSectionVars false
namespace Go.Am
open Go

theorem RepV.fewer {G : Gh} {w : World} {k : Nat} {ℓ : Loc} {av : AV} {v : Value} (h : RepV G w ℓ av v) : av.inb k = true → RepV { G with nh := k } w ℓ av v := by
  have tail : ∀ {ℓ : Loc} {k' : Nat} {v : Value}, Tail G w ℓ k' v → Tail { G with nh := k } w ℓ k' v := fun h => h
  induction h with
  | undef ℓ v => exact fun _ => .undef ℓ v
  | abool ℓ b => exact fun _ => .abool ℓ b
  | d ℓ x v h => exact fun _ => .d ℓ x v h
  | ptr ℓ a off ha => intro hb; simp [AV.inb] at hb; exact RepV.ptr (G := { G with nh := k }) ℓ a off hb
  | nilptr ℓ => exact fun _ => .nilptr ℓ
  | iptr ℓ cs b off vs hK h1 h => exact fun _ => .iptr ℓ cs b off vs hK h1 h
  | own ℓ k l v h ht => exact fun _ => .own ℓ k l v h (tail ht)
  | lim ℓ k l v h ht => exact fun _ => .lim ℓ k l v h ht
  | func ℓ f as bs va vb ha hb _ _ hc hc' ih ih' =>
    intro hbl
    simp [AV.inb] at hbl
    exact .func ℓ f as bs va vb ha hb (fun i hi => ih i hi (inbL_get hbl.1 i hi)) (fun i hi => ih' i hi (inbL_get hbl.2 i hi)) hc hc'
  | nilfunc ℓ => exact fun _ => .nilfunc ℓ
  | yield ℓ l hl => intro hb; simp [AV.inb] at hb; exact RepV.yield (G := { G with nh := k }) ℓ l hb
  | map ℓ a ha => intro hb; simp [AV.inb] at hb; exact RepV.map (G := { G with nh := k }) ℓ a hb
  | nilmap ℓ => exact fun _ => .nilmap ℓ
  | lbox t cs vs e hO hw hs _ hc ih =>
    intro hbl
    simp [AV.inb] at hbl
    exact RepV.lbox (G := { G with nh := k }) t cs vs e hO hw hs (fun j hj => ih j hj (inbL_get hbl j hj)) hc
  | place ℓ r off => exact fun _ => RepV.place (G := { G with nh := k }) ℓ r off
  | mref ℓ a k' lo n b off cap ha h1 h2 h3 h4 => intro hb; simp [AV.inb] at hb; exact RepV.mref (G := { G with nh := k }) ℓ a k' lo n b off cap hb h1 h2 h3 h4
  | eptr ℓ a k' i j ha hi => intro hb; simp [AV.inb] at hb; exact RepV.eptr (G := { G with nh := k }) ℓ a k' i j hb hi
  | agg ℓ cs vs hs _ hc hf ih =>
    intro hbl
    simp [AV.inb] at hbl
    exact .agg ℓ cs vs hs (fun i hi => ih i hi (inbL_get hbl i hi)) hc hf
  | tuple ℓ cs vs hs _ hc ih =>
    intro hbl
    simp [AV.inb] at hbl
    exact .tuple ℓ cs vs hs (fun i hi => ih i hi (inbL_get hbl i hi)) hc

theorem RelH.fewer {G : Gh} {H : List Obj} {w : World} (R : RelH G H w) {k : Nat} (hk : k ≤ H.length) (hb : objsInb k (H.take k) = true) : RelH { G with nh := k } (H.take k) w := by
  have hsub : Sub G { G with nh := k } w w (fun _ => True) k := ⟨KLe.refl _, fun b ℓ f _ hO => ⟨hO, rfl⟩, fun _ _ => rfl, Nat.le_refl _⟩
  refine ⟨⟨R.sane.no⟩, by simp; omega, fun i ob hob => ?_, R.kept, R.disj⟩
  have hi : i < k := by have := (List.getElem?_eq_some_iff.1 hob).1; simp at this; omega
  rw [List.getElem?_take_of_lt hi] at hob
  exact (R.objs i ob hob).sub R.sane hi hsub trivial (fun _ => trivial) (objsInb_get hb i ob (by rw [List.getElem?_take_of_lt hi]; exact hob))

/-- The slots that are kept, and the first k objects. -/
def St.fit (σ : St) (ts : List Nat) (k : Nat) : St := { σ with env := keepE σ.env ts, heap := σ.heap.take k }
def St.fits (σ : St) (ts : List Nat) (k : Nat) : Bool := Nat.ble k σ.heap.length && inbL k ((keepE σ.env ts).map (·.2)) && objsInb k (σ.heap.take k)

theorem Rel.fit {G : Gh} {σ : St} {a : Act} {w : World} (R : Rel G σ a w) {ts : List Nat} {k : Nat} (h : σ.fits ts k = true) : Rel { G with nh := k } (σ.fit ts k) a w := by
  simp only [St.fits, Bool.and_eq_true, Nat.ble_eq] at h
  obtain ⟨⟨h1, h2⟩, h3⟩ := h
  have R' := R.keep ts
  exact ⟨R.h.fewer h1 h3, R'.size, fun t => (R'.slots t).fewer (inbL_eget h2 t), R'.places, R'.df⟩
theorem Ext.nh {m : Nat} {G G' : Gh} {w w' : World} (h : Ext m G w G' w') (k : Nat) : Ext m G w { G' with nh := k } w' := ⟨h.K, h.new, h.others, h.size, h.β, h.io⟩

section
variable {P : Program} {T : Types} {m : Nat} {Q : Exit → St → Prop} {σ : St} {c : Code}
theorem AWp.fit (ts : List Nat) (k : Nat) (hm : m ≤ k) (hf : σ.fits ts k = true) (h : AWp P m c Q (σ.fit ts k)) : AWp P m c Q σ := by
  intro r n G a w hm' R
  refine wpIn_mono (h r n _ a w hm (R.fit hf)) ?_
  rintro e a' w' ⟨σ', G', R', hE, hm'', hQ⟩
  exact ⟨σ', G', R', ⟨hE.K, hE.new, hE.others, hE.size, hE.β, hE.io⟩, hm'', hQ⟩

/-- What is known between two parts. -/
theorem AWp.cut {x y : Code} (R : St → Prop) (h : AWp P m x (AExit.then R Q) σ) (k : ∀ σ', R σ' → AWp P m y Q σ') : AWp P m (.seq x y) Q σ := by
  refine AWp.seq (AWp.mono h ?_)
  intro e σ' hq
  cases e with
  | normal => exact k σ' hq
  | _ => exact hq
theorem AWp.fitThen (ts : List Nat) (k : Nat) (hm : m ≤ k) {K : St → Prop} (h : AWp P m c (AExit.then (fun σ => σ.fits ts k = true ∧ K (σ.fit ts k)) Q) σ) : AWp P m c (AExit.then K Q) σ := by
  intro r n G a w hm' R
  refine wpIn_mono (h r n G a w hm' R) ?_
  rintro e a' w' ⟨σ', G', R', hE, hm'', hQ⟩
  cases e with
  | normal => exact ⟨_, _, R'.fit hQ.1, hE.nh k, hm, hQ.2⟩
  | _ => exact ⟨σ', G', R', hE, hm'', hQ⟩

/-- A loop with an invariant; ts: the slots that the states speak of; k: how many objects there are. -/
theorem AWp.loopH {ι : Type} (Inv : ι → Prop) (μ : ι → Nat) (ts : List Nat) (k : Nat) (S : ι → St) (i0 : ι) (hm : m ≤ k) (hf : σ.fits ts k = true) (hσ : σ.fit ts k = S i0) (h0 : Inv i0)
    (h : ∀ i, Inv i → AWp P m c (AExit.then (fun σ' => σ'.fits ts k = true ∧ ∃ j, Inv j ∧ μ j < μ i ∧ σ'.fit ts k = S j) Q) (S i)) : AWp P m (.loop c) Q σ := by
  refine AWp.fit ts k hm hf ?_
  rw [hσ]
  refine AWp.loop (ι := { i : ι // Inv i }) (fun i => μ i.1) (fun i => S i.1) ⟨i0, h0⟩ ?_
  rintro ⟨i, hi⟩
  refine AWp.fitThen ts k hm (AWp.mono (h i hi) ?_)
  intro e σ' hq
  cases e with
  | normal => obtain ⟨h1, j, hj, hl, e⟩ := hq; exact ⟨h1, ⟨j, hj⟩, hl, e⟩
  | _ => exact hq
end

section
variable {P : Program} {T : Types} {m i : Nat} {ops : Array Oper} {σ : St} {o : Oper} {an : Ann}
/-- A call that is handed objects. -/
theorem LStep.callH (ho : ops[i]? = some o) {f : FuncId} {args : List AV} {r : AV} {H rest H' : List Obj} {d : Nat} (hw : wantA ops.toList σ o = some true) (hcall : callOf T σ o = some (f, args)) (hH : σ.heap = H ++ rest)
    (hr : rest = [] ∨ H'.length = H.length) (hin : objsInb H.length H = true)
    (hargs : inbL H.length args = true) (hd : o.dst = some d) (hlt : d < σ.n) (hb : (σ.get d).isBox = false) (hfr : args.all AV.free = true) (hc : ACall P f args H r H') :
    LStep P m ops i σ { sets := [(d, r)], heap := some (H' ++ rest), rd := operSlots ops.toList o, hr := true } := by
  intro τ hrd hhp hn hm
  have hheap : τ.heap = H ++ rest := (hhp rfl).trans hH
  obtain ⟨hcb, hrl, hri, hin', hHH, hcc⟩ := hc
  refine ⟨by rw [hheap] at hm; simp only [Rec.app, St.upd, Option.getD_some, List.length_append] at *; omega, fun rr n G a w Q' K R hK => ?_⟩
  have hdm : d ∈ operSlots ops.toList o := by simp [operSlots, hd]
  have hbτ : (τ.get d).isBox = false := by rw [hrd d hdm]; exact hb
  unfold wpOpIn
  simp only [ho]
  rw [if_pos (wantA_ok (b := true) (by rw [wantA_same (σ := σ) hrd]; exact hw) R)]
  obtain ⟨hnd, vs, hrun, hvs, hrep⟩ := callOf_ok (T := T) (by rw [callOf_same (σ := σ) hrd]; exact hcall) hcb R
  have RH : RelH G (H ++ rest) w := by rw [← hheap]; exact R.h
  have hRh := RH.handed hin
  have hfr' : ∀ c ∈ args, c.free = true := by simpa using hfr
  have hsub : Sub G (G.handed H.length) w w (fun ℓ => ℓ = .no) H.length :=
    ⟨KLe.refl _, fun b ℓ f hl hO => absurd (hl ▸ rfl) (R.h.sane.no b ℓ f hO), fun _ _ => rfl, Nat.le_refl _⟩
  refine ⟨fun _ _ => trivial, ?_⟩
  rw [Oper.semAt_eq _ _ _ hnd, hrun]
  refine ⟨fun hh => by simp [Wd] at hh, ?_⟩
  refine CallsIn.mono (callsIn_wd (hcc (n - 1) (G.handed H.length) w vs hvs (fun i hi => ?_) hRh (fun b ℓ f hO => ?_))) ?_
  · exact (hrep i hi).sub R.h.sane hsub rfl (inbL_get hargs i hi) (AV.free_isLocal (hfr' _ (List.getElem_mem hi)))
  · have := (handed_O hO).2
    cases ℓ <;> simp [objLoc] at this
    · rename_i i; exact ⟨i, rfl⟩
    · rename_i i j; exact ⟨i, rfl⟩
  · rintro e w' ⟨v, G3, rfl, hv, R3, hE⟩
    obtain ⟨R', hext⟩ := R.back (H := H) (rest := rest) hheap hr hHH R3 hE hin' hv hrl hri (by rw [hn]; exact hlt) hbτ
    show K (a.put o.dst v) w'
    rw [hd]
    refine hK _ _ w' ?_ (hext m (by rw [← R.h.nh]; exact hm))
    simpa [Rec.app, St.upd, esets] using R'

variable {K : St → Prop} {l : List Oper} {xs : List Rec}
theorem DOps.stepCallH (hT : TOk P T) {f : FuncId} {args : List AV} {o : Oper} {rest : List Oper} {σ1 : St} {xs1 : List Rec} {r : AV} {H Hr H' : List Obj} {d : Nat} (hl : l = ops.toList.drop xs.length) (h : ∀ A : Ar, A = Ar.std → runD A T an ops.toList l σ xs = .call f args o rest σ1 xs1)
    (hH : σ1.heap = H ++ Hr) (hr : Hr = [] ∨ H'.length = H.length) (hin : objsInb H.length H = true) (hargs : inbL H.length args = true) (hd : o.dst = some d) (hlt : d < σ1.n) (hb : (σ1.get d).isBox = false) (hfr : args.all AV.free = true) (hc : ACall P f args H r H')
    (k : DOps P m ops rest (xs1 ++ [{ sets := [(d, r)], heap := some (H' ++ Hr), rd := operSlots ops.toList o, hr := true }]) K (σ1.upd [(d, r)] (some (H' ++ Hr)))) : DOps P m ops l xs K σ :=
  DOps.run (an := an) hT l xs σ hl (by
    rw [h _ rfl]
    exact fun hcall hw ho => DOps.cons (LStep.callH ho hw hcall hH hr hin hargs hd hlt hb hfr hc) k)

/-- Over a call that is handed all objects. -/
theorem AOps.stepCallW (hT : TOk P T) {Q : Exit → St → Prop} {f : FuncId} {args : List AV} {o : Oper} {rest : List Oper} {σ1 : St} {H' : List Obj} {r : AV} {d : Nat} (h : ∀ A : Ar, A = Ar.std → runP A T an ops.toList l σ = .call f args o rest σ1)
    (hm : m ≤ σ.heap.length) (hin : objsInb σ1.heap.length σ1.heap = true) (hargs : inbL σ1.heap.length args = true) (hd : o.dst = some d) (hlt : d < σ1.n) (hb : (σ1.get d).isBox = false)
    (hfr : args.all AV.free = true) (hc : ACall P f args σ1.heap r H') (k : AOps P m ops rest Q { σ1 with env := eset σ1.env d r, heap := H' }) : AOps P m ops l Q σ :=
  AOps.stepCall hT (an := an) (Hr := []) h hm (List.append_nil _).symm (.inl rfl) hin hargs hd hlt hb hfr hc (by rw [List.append_nil]; exact k)
end
end Go.Am
