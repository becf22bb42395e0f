/- Composite values, slices that are written out, append. -/
import Derived.Test.YtalfdjihejohoaaAmStore
set_option linter.unusedSimpArgs false
set_option linter.unusedSectionVars false
namespace Go.Am
open Go

theorem fold_set (off : Nat) : ∀ (l : List Value) (k : Nat) (cells : Array Value), off + k + l.length ≤ cells.size →
    ((l.zipIdx k).foldl (fun cs p => cs.setIfInBounds (off + p.2) p.1) cells).size = cells.size ∧
      ∀ j, ((l.zipIdx k).foldl (fun cs p => cs.setIfInBounds (off + p.2) p.1) cells).getD j Go.undef = if off + k ≤ j ∧ j < off + k + l.length then l.getD (j - (off + k)) Go.undef else cells.getD j Go.undef
  | [], k, cells, _ => by refine ⟨rfl, fun j => ?_⟩; simp; omega
  | v :: r, k, cells, h => by
    simp at h
    have hsz : (cells.setIfInBounds (off + k) v).size = cells.size := by simp
    obtain ⟨h1, h2⟩ := fold_set off r (k + 1) (cells.setIfInBounds (off + k) v) (by rw [hsz]; omega)
    simp only [List.zipIdx_cons, List.foldl_cons]
    refine ⟨h1.trans hsz, fun j => ?_⟩
    rw [h2 j, getD_set _ _ _ _ (by omega)]
    simp only [List.length_cons]
    by_cases hj : off + k = j
    · subst hj
      rw [if_neg (by omega), if_pos rfl, if_pos (by omega)]
      simp
    · by_cases hj2 : off + (k + 1) ≤ j ∧ j < off + (k + 1) + r.length
      · rw [if_pos hj2, if_pos (by omega)]
        rw [show j - (off + k) = (j - (off + (k + 1))) + 1 by omega]
        simp [List.getD]
      · rw [if_neg hj2, if_neg hj, if_neg (by omega)]

section
variable {P : Program} {T : Types} (hT : TOk P T) {σ : St} {g : Nat → AV} {o : Oper} {ss : Sets} {h' : Option (List Obj)} {H : List Obj} {an : Ann}
  (hg : Less g σ) (hgd : ∀ d, o.dst = some d → g d = σ.get d) (h : evBase Ar.std T an σ.n g H o = some (ss, h'))
include hT hg hgd h

omit hT hgd h in
theorem fill_ok {G : Gh} {a : Act} {w : World} (R : Rel G σ a w) {t : TypeId} {place : Nat → Option (Nat × Nat)} (hp : ∀ i ft off sz, partOf T t i = some (ft, off, sz) → place i = some (off, sz)) :
    ∀ (parts : List (Nat × Operand)) (cs cs' : List AV) (cells : Array Value), fillIn T g t parts cs = some cs' → cells.size = cs.length →
      (∀ (j : Nat) (hj : j < cs.length) (ℓ : Loc), RepV G w ℓ cs[j] (cells.getD j Go.undef)) → (∀ c ∈ cs, c.isCell = true) →
      ∃ cells', Instr.fill place cells (parts.map fun p => (p.1, a.eval p.2)) = some cells' ∧ cells'.size = cs'.length ∧
        (∀ (j : Nat) (hj : j < cs'.length) (ℓ : Loc), RepV G w ℓ cs'[j] (cells'.getD j Go.undef)) ∧ ∀ c ∈ cs', c.isCell = true
  | [], cs, cs', cells, hf, hs, hr, hc => by simp [fillIn] at hf; subst hf; exact ⟨cells, rfl, hs, hr, hc⟩
  | (i, x) :: r, cs, cs', cells, hf, hs, hr, hc => by
    unfold fillIn at hf
    split at hf
    · rename_i ft off sz hpart
      split at hf
      · rename_i v hv
        split at hf
        · rename_i hcond
          obtain ⟨hlen, hoff, hcell⟩ := hcond
          simp at hcell
          have hv' := fun ℓ => opv_ok hg R hv ℓ
          obtain ⟨e1, e2⟩ := cells_anywhere (fun ℓ => (hv' ℓ).1) (hv' .no).2 hcell
          obtain ⟨f1, f2⟩ := fold_set off (a.eval x).cells.toList 0 cells (by simp; omega)
          have hl : (writeAt cs off v.cells).length = cs.length := write_length _ _ _ (by omega)
          obtain ⟨cells', k1, k2, k3, k4⟩ := fill_ok R hp r _ cs' (((a.eval x).cells.toList.zipIdx 0).foldl (fun cs p => cs.setIfInBounds (off + p.2) p.1) cells) hf (by rw [f1, hl, hs]) (fun j hj ℓ => by
            rw [f2 j]
            have e := write_get cs v.cells off j (by omega)
            have hj' : j < cs.length := by omega
            have e3 : (writeAt cs off v.cells)[j]? = some (writeAt cs off v.cells)[j] := List.getElem?_eq_getElem hj
            rw [show (writeAt cs off v.cells)[j]? = _ from e] at e3
            simp only [Nat.add_zero, Array.length_toList]
            by_cases h1 : j < off
            · rw [if_pos h1, List.getElem?_eq_getElem hj'] at e3
              injection e3 with e3
              rw [← e3, if_neg (by omega)]; exact hr j hj' ℓ
            · rw [if_neg h1] at e3
              by_cases h2 : j < off + v.cells.length
              · rw [if_pos h2, List.getElem?_eq_getElem (by omega)] at e3
                injection e3 with e3
                rw [← e3, if_pos (by omega)]
                have := e2 (j - off) (by omega) ℓ
                simpa [List.getD, Array.getD_eq_getD_getElem?] using this
              · rw [if_neg h2, List.getElem?_eq_getElem hj'] at e3
                injection e3 with e3
                rw [← e3, if_neg (by omega)]; exact hr j hj' ℓ)
            (by
              intro c hcm
              unfold writeAt at hcm
              rcases List.mem_append.1 hcm with hcm | hcm
              · rcases List.mem_append.1 hcm with hcm | hcm
                · exact hc c (List.mem_of_mem_take hcm)
                · exact hcell c hcm
              · exact hc c (List.mem_of_mem_drop hcm))
          refine ⟨cells', ?_, k2, k3, k4⟩
          simp only [List.map_cons, Instr.fill, hp i ft off sz hpart]
          rw [if_neg (by simp; omega)]
          rw [← k1]
          congr 1
          rw [← Array.foldl_toList, Array.toList_zipIdx]
        · simp at hf
      · simp at hf
    · simp at hf

theorem step_build {t : TypeId} {parts : Array (Nat × Operand)} (hop : o.op = .build t parts) : StepOk P σ o ss h' := by
  simp only [evBase, hop] at h
  split at h
  · rename_i td ht
    split at h
    · rename_i hcond
      simp at hcond
      obtain ⟨hagg, hknown⟩ := hcond
      obtain ⟨av, hav, hp⟩ := putO_some h
      simp at hav
      obtain ⟨cs', hfill, rfl⟩ := hav
      have hfree : ∀ l, (mkAgg l).free = true := by intro l; unfold mkAgg; split <;> rfl
      refine stepOk_pure hgd hp (by simp [hop]) (AV.free_place (AV.free_isLocal (hfree _))) ?_
      intro G a w R
      obtain ⟨i, dd, hi, hdd, hsz, _, huok, z, hz, hzs, hzl, hzc⟩ := hT.info ht
      have key : ∀ (place : Nat → Option (Nat × Nat)), (∀ i ft off sz, partOf T t i = some (ft, off, sz) → place i = some (off, sz)) →
          (∀ cells, Instr.fill place z.cells (parts.map fun p => (p.1, a.eval p.2)).toList = some cells → P.built t (parts.map fun p => (p.1, a.eval p.2)).toList = some cells) →
          ∃ val, (execOp a.eval o).run P w = .ok (.value val) w ∧ ∀ d, RepV G w (.s d) (mkAgg cs') val := by
        intro place hpl hb
        obtain ⟨cells', k1, k2, k3, k4⟩ := fill_ok hg R hpl parts.toList td.zero cs' z.cells hfill (by omega) (fun j hj ℓ => (zeroCell_ok (hzc j hj)).1 G w ℓ)
          (fun c hcm => by obtain ⟨j, hj, rfl⟩ := List.mem_iff_getElem.1 hcm; exact (zeroCell_ok (hzc j hj)).2.1)
        have hbuilt := hb cells' (by simpa using k1)
        refine ⟨.agg cells', ?_, fun d => (mkAgg_ok k2 (fun i hi => ⟨.no, k3 i hi .no⟩) k4 _).1⟩
        have := run_build (P := P) w t _ cells' hbuilt
        simp [execOp, hop, this]
      cases td with | mk sz u zero =>
      cases u with
      | array m e =>
        have hu := hT.array ht
        simp [partsKnown] at hknown
        obtain ⟨tde, hte⟩ := Option.isSome_iff_exists.1 hknown
        obtain ⟨ie, _, hie, _, hse, _⟩ := hT.info hte
        refine key (fun i => some (i * ie.size, ie.size)) ?_ (fun cells hc => by simp only [Program.built, hi, hu, hz, hie]; exact hc)
        intro i ft off sz hpart
        simp only [partOf, ht] at hpart
        split at hpart
        · simp [hte] at hpart
          obtain ⟨rfl, rfl, rfl⟩ := hpart
          simp [hse]
        · simp at hpart
      | struct fs =>
        obtain ⟨fields, hu, hmap⟩ := hT.struct ht
        simp [partsKnown] at hknown
        have hplaces : ∃ places, fields.toList.mapM (fun f => (P.info? f.type).map fun i => (f.offset, i.size)) = some places ∧
            ∀ i ft off sz, partOf T t i = some (ft, off, sz) → places[i]? = some (off, sz) := by
          have gen : ∀ (fl : List Field) , (∀ f ∈ fl, ∃ td, T f.type = some td) → ∃ places, fl.mapM (fun f => (P.info? f.type).map fun i => (f.offset, i.size)) = some places ∧
              ∀ (i : Nat) (f : Field) (td : TD), fl[i]? = some f → T f.type = some td → places[i]? = some (f.offset, td.size) := by
            intro fl
            induction fl with
            | nil => intro _; exact ⟨[], rfl, fun i f td h => by simp at h⟩
            | cons f r ih =>
              intro hk
              obtain ⟨pl, h1, h2⟩ := ih (fun f' hf' => hk f' (by simp [hf']))
              obtain ⟨tdf, htf⟩ := hk f (by simp)
              obtain ⟨inf, _, hinf, _, hsf, _⟩ := hT.info htf
              refine ⟨(f.offset, inf.size) :: pl, by simp [List.mapM_cons, hinf, h1], fun i f' td hf' htd => ?_⟩
              cases i with
              | zero => simp at hf'; subst hf'; rw [htf] at htd; injection htd with htd; subst htd; simp [hsf]
              | succ i => simpa using h2 i f' td (by simpa using hf') htd
          obtain ⟨pl, h1, h2⟩ := gen fields.toList (fun f hf => by
            have := hknown f.type f.offset (by rw [← hmap]; exact List.mem_map.2 ⟨f, hf, rfl⟩)
            exact Option.isSome_iff_exists.1 this)
          refine ⟨pl, h1, fun i ft off sz hpart => ?_⟩
          simp only [partOf, ht] at hpart
          split at hpart
          · rename_i ft' off' hfi
            rw [← hmap] at hfi
            simp at hfi
            obtain ⟨f, hf1, hf2, hf3⟩ := hfi
            simp at hpart
            obtain ⟨tdf, htf, rfl, rfl, rfl⟩ := hpart
            subst hf2 hf3
            exact h2 i f tdf (by simpa using hf1) htf
          · simp at hpart
        obtain ⟨places, hp1, hp2⟩ := hplaces
        refine key (places.toArray[·]?) (fun i ft off sz hh => by simpa using hp2 i ft off sz hh) (fun cells hc => by
          simp only [Program.built, hi, hu, hz, hp1]; exact hc)
      | _ => simp [TD.isAgg] at hagg
    · simp at h
  · simp at h

/-! ### Slices that are written out -/
omit hT hgd h in
theorem elems_ok {G : Gh} {a : Act} {w : World} (R : Rel G σ a w) {e : TypeId} {sz : Nat} : ∀ (parts : List (Nat × Operand)) (i : Nat) (l : List D), elemsOf T g e sz parts i = some l →
    l.length = parts.length ∧ uniform sz l ∧ ∀ (j : Nat) (hj : j < parts.length) (hj' : j < l.length), parts[j].1 = i + j ∧ RepD G.K l[j] (a.eval parts[j].2)
  | [], i, l, hl => by simp [elemsOf] at hl; subst hl; exact ⟨rfl, fun x hx => by simp at hx, fun j hj => by simp at hj⟩
  | (q, x) :: r, i, l, hl => by
    unfold elemsOf at hl
    split at hl
    · rename_i v hv
      split at hl
      · rename_i y l' hd hr
        split at hl
        · rename_i hc
          simp at hl; subst hl
          obtain ⟨h1, h2, h3⟩ := elems_ok R r (i + 1) l' hr
          refine ⟨by simp [h1], ?_, fun j hj hj' => ?_⟩
          · intro z hz
            rcases List.mem_cons.1 hz with rfl | hz
            · exact hc.2
            · exact h2 z hz
          · cases j with
            | zero =>
              refine ⟨by simp [hc.1], ?_⟩
              obtain ⟨_, e2⟩ := dataOf_some hd
              simpa using e2 0 (by simp) (by simp) G w .no _ (opv_ok hg R hv .no).1
            | succ j =>
              obtain ⟨e1, e2⟩ := h3 j (by simpa using hj) (by simpa using hj')
              exact ⟨by simp; omega, by simpa using e2⟩
        · simp at hl
      · simp at hl
    · simp at hl

omit hT hg hgd h in
/-- The cells of data. -/
theorem RepD.cells {K : Addr → Option Value} {x : D} {v : Value} (h : RepD K x v) : v.cells.size = x.cells.length ∧ (∀ (i : Nat) (hi : i < x.cells.length), RepD K x.cells[i] (v.cells.getD i Go.undef)) ∧
    ∀ i, i < x.cells.length → (v.cells.getD i Go.undef).oneCell' = true := by
  have one : ∀ {x : D} {v : Value}, RepD K x v → x.cells = [x] → v.cells = #[v] → v.oneCell' = true → v.cells.size = x.cells.length ∧ (∀ (i : Nat) (hi : i < x.cells.length), RepD K x.cells[i] (v.cells.getD i Go.undef)) ∧
      ∀ i, i < x.cells.length → (v.cells.getD i Go.undef).oneCell' = true := by
    intro x v h h1 h2 h3
    refine ⟨by rw [h1, h2]; rfl, fun i hi => ?_, fun i hi => ?_⟩
    · have : i = 0 := by rw [h1] at hi; simpa using hi
      subst this
      simpa [h1, h2] using h
    · have : i = 0 := by rw [h1] at hi; simpa using hi
      subst this
      simpa [h2] using h3
  cases h with
  | agg cs vs hs h h1 =>
    refine ⟨by simpa [Value.cells, D.cells] using hs, fun i hi => h i hi, fun i hi => ?_⟩
    have hi' : i < vs.size := by simp [D.cells] at hi; omega
    simpa [Value.cells, Array.getD, hi'] using h1 vs[i] (Array.getElem_mem hi')
  | bool b => exact one (.bool b) rfl rfl rfl
  | int k n => exact one (.int k n) rfl rfl rfl
  | str s => exact one (.str s) rfl rfl rfl
  | nilIface => exact one .nilIface rfl rfl rfl
  | iface t x v h => exact one (.iface t x v h) rfl rfl rfl
  | nil k => exact one (.nil k) rfl rfl rfl
  | none0 k a => exact one (.none0 k a) rfl rfl rfl
  | list k l b off cap vs hu hc hK h1 h => exact one (.list k l b off cap vs hu hc hK h1 h) rfl rfl rfl
end

/-! ### The cells of a list of values, one behind the other -/
def cellsOf (vs : List Value) : List Value := vs.flatMap fun v => v.cells.toList
theorem cellsOf_length {k : Nat} : ∀ {vs : List Value}, (∀ v ∈ vs, v.cells.size = k) → (cellsOf vs).length = vs.length * k
  | [], _ => by simp [cellsOf]
  | v :: r, h => by
    have ih := cellsOf_length (vs := r) (fun x hx => h x (by simp [hx]))
    have hv := h v (by simp)
    simp only [cellsOf, List.flatMap_cons, List.length_append, Array.length_toList, List.length_cons] at ih ⊢
    rw [ih, hv, Nat.add_mul]; omega
theorem cellsOf_get {k : Nat} : ∀ {vs : List Value}, (∀ v ∈ vs, v.cells.size = k) → ∀ {i : Nat} {v : Value}, vs[i]? = some v → ∀ j, j < k → (cellsOf vs)[i * k + j]? = v.cells[j]?
  | [], _, i, v, h, _, _ => by simp at h
  | x :: r, hu, 0, v, h, j, hj => by
    simp at h; subst h
    have hx : x.cells.size = k := hu _ (by simp)
    simp only [cellsOf, List.flatMap_cons, Nat.zero_mul, Nat.zero_add]
    rw [List.getElem?_append_left (by simp; omega)]
    simp
  | x :: r, hu, i + 1, v, h, j, hj => by
    have hx : x.cells.size = k := hu _ (by simp)
    have ih := cellsOf_get (vs := r) (fun z hz => hu z (by simp [hz])) (i := i) (v := v) (by simpa using h) j hj
    simp only [cellsOf, List.flatMap_cons] at ih ⊢
    rw [List.getElem?_append_right (by simp [Nat.add_mul]; omega), ← ih]
    congr 1
    simp [Nat.add_mul]; omega

/-- Cells that are those of values are those of data. -/
theorem flat_rep {K : Addr → Option Value} {k : Nat} (hk : 0 < k) {l : List D} {vs : List Value} (hlen : l.length = vs.length) (hu : uniform k l)
    (h : ∀ (j : Nat) (hj : j < l.length) (hj' : j < vs.length), RepD K l[j] vs[j]) :
    (cellsOf vs).length = (D.flat l).length ∧ ∀ (q : Nat) (hq : q < (D.flat l).length), RepD K (D.flat l)[q] ((cellsOf vs).getD q Go.undef) ∧ ((cellsOf vs).getD q Go.undef).oneCell' = true := by
  have hvu : ∀ v ∈ vs, v.cells.size = k := by
    intro v hv
    obtain ⟨j, hj, rfl⟩ := List.mem_iff_getElem.1 hv
    have := (h j (by omega) hj).cells.1
    rw [this]; exact hu _ (List.getElem_mem _)
  refine ⟨by rw [cellsOf_length hvu, flat_length hu, hlen], fun q hq => ?_⟩
  rw [flat_length hu] at hq
  have hi : q / k < l.length := Nat.div_lt_of_lt_mul (by rw [Nat.mul_comm]; exact hq)
  have hj : q % k < k := Nat.mod_lt _ hk
  have e := Nat.div_add_mod q k
  have hq' : q / k * k + q % k = q := by rw [Nat.mul_comm]; exact e
  have c1 := flat_get hu (i := q / k) (y := l[q / k]) (List.getElem?_eq_getElem hi) (q % k) hj
  have c2 := cellsOf_get hvu (i := q / k) (v := vs[q / k]'(by omega)) (List.getElem?_eq_getElem (by omega)) (q % k) hj
  rw [hq'] at c1 c2
  obtain ⟨r1, r2, r3⟩ := (h (q / k) hi (by omega)).cells
  have hyk : l[q / k].cells.length = k := hu _ (List.getElem_mem _)
  rw [List.getElem?_eq_getElem (by omega : q % k < l[q / k].cells.length)] at c1
  obtain ⟨c3, c4⟩ := List.getElem?_eq_some_iff.1 c1
  have c5 : (cellsOf vs).getD q Go.undef = (vs[q / k]'(by omega)).cells.getD (q % k) Go.undef := by
    simp only [List.getD_eq_getElem?_getD, c2, Array.getD_eq_getD_getElem?]
  rw [c5, c4]
  exact ⟨r2 _ (by omega), r3 _ (by omega)⟩
end Go.Am
