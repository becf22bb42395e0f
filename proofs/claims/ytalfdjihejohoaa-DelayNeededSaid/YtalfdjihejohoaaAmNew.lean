/- Operations that make memory, and stores. -/
import Derived.Test.YtalfdjihejohoaaAmMem
set_option linter.unusedSimpArgs false
set_option linter.unusedSectionVars false
namespace Go.Am
open Go

/-- A new block of its own for a location. -/
def Gh.own (G : Gh) (b : Nat) (ℓ : Loc) (f : Nat) : Gh := { G with O := fun x => if x = b then some (ℓ, f) else G.O x }
def Gh.at (G : Gh) (r : Root) (b : Nat) : Gh := { G with β := fun x => if x = r then b else G.β x }

theorem heap_alloc_lt {w : World} {o : Go.Obj} {b : Nat} (hb : b < w.heap.size) : (w.alloc o).heap[b]? = w.heap[b]? := by
  show (w.heap.push o)[b]? = _
  rw [Array.getElem?_push, if_neg (Nat.ne_of_lt hb)]
theorem heap_alloc_new {w : World} {o : Go.Obj} : (w.alloc o).heap[w.heap.size]? = some o := by
  show (w.heap.push o)[w.heap.size]? = _
  simp
theorem cell_alloc_old {w : World} {o : Go.Obj} {x : Addr} {v : Value} (h : w.cell? x = some v) : (w.alloc o).cell? x = some v := by
  have := World.block_lt_of_cell? w _ h
  unfold World.cell? at *
  rwa [heap_alloc_lt this]

/-- A world with one block more. -/
theorem frozen?_alloc_new (w : World) (o : Go.Obj) (ho : ∀ c t f, o = .cells c t f → f = (0, 0)) (a : Addr) : (w.alloc o).frozen? a = w.frozen? a := by
  unfold World.frozen?
  by_cases h : a.block < w.heap.size
  · rw [heap_alloc_lt h]
  · rw [show w.heap[a.block]? = none by simp; omega]
    by_cases h2 : a.block = w.heap.size
    · rw [h2, heap_alloc_new]
      cases o with
      | cells c t f => obtain rfl := ho _ _ _ rfl; simp
      | _ => rfl
    · rw [show (w.alloc o).heap[a.block]? = none by simp; omega]

theorem Ext.alloc {m : Nat} {G : Gh} {w : World} {o : Go.Obj} {G' : Gh} (hK : KLe G.K G'.K) (hn : ∀ x v, G'.K x = some v → G.K x = some v ∨ w.heap.size ≤ x.block)
    (hO : ∀ b, b < w.heap.size → G.O b = none → G'.O b = none) (hβ : ∀ i, i < m → G'.β (.o i) = G.β (.o i)) (hf : ∀ a, (w.alloc o).frozen? a = w.frozen? a) : Ext m G w G' (w.alloc o) where
  K := hK
  new x v h := (hn x v h).imp id .inr
  others b hb h := ⟨heap_alloc_lt hb, hO b hb h⟩
  size := by simp
  β := hβ
  io := ⟨rfl, rfl, hf⟩

section
variable {P : Program} {σ : St} {g : Nat → AV} {o : Oper}

theorem step_newLocal {cs : List AV} {d : Nat} (hdst : o.dst = some d) (hlt : d < σ.n) (hun : σ.get d = .undef) (hnd : ∀ c, o.op ≠ .defer c) (hc : ∀ c ∈ cs, c.isCell = true)
    (hrun : ∀ G a w, Rel G σ a w → ∃ (vs : Array Value) (e : TypeId), (execOp a.eval o).run P w = .ok (.value (.pointer (some ⟨w.heap.size, 0, none⟩))) (w.alloc (.cells vs e)) ∧ vs.size = cs.length ∧
      ∀ (j : Nat) (hj : j < cs.length) (ℓ : Loc), RepV G w ℓ cs[j] (vs.getD j Go.undef)) : StepOk P σ o [(d, .lbox cs)] none := by
  intro r n m G a w Q next hm R hn
  obtain ⟨vs, e, hr, hs, hrep⟩ := hrun G a w R
  have hb : w.heap.size = w.heap.size := rfl
  let G' := (G.own w.heap.size (.s d) 0).at (.s d) w.heap.size
  have hOold : ∀ b x f, G.O b = some (x, f) → G'.O b = some (x, f) := by
    intro b x f h
    have := (R.h.disj b x f h).1
    simp [G', Gh.own, Gh.at, Nat.ne_of_lt this, h]
  have hpr : Pres G G' w (w.alloc (.cells vs e)) (fun _ => True) := by
    refine ⟨KLe.refl _, fun b x f _ h => ⟨hOold b x f h, heap_alloc_lt (R.h.disj b x f h).1⟩, fun i _ => by simp [G', Gh.own, Gh.at], Nat.le_refl _⟩
  refine wp_value hnd hr (hn G' _ _ ?_ (Ext.alloc (KLe.refl _) (fun x v h => .inl h) (fun b hb h => by simp [G', Gh.own, Gh.at, Nat.ne_of_lt hb, h]) (fun i _ => by simp [G', Gh.own, Gh.at]) (frozen?_alloc_new _ _ (fun _ _ _ e => by cases e; rfl))))
  rw [hdst]
  have hd' : d < a.tmps.size := by rw [R.size]; exact hlt
  have hnopl : ∀ t off, σ.get t ≠ .place d off := by
    intro t off e
    obtain ⟨cs, h⟩ := R.places t d off e
    rw [hun] at h; cases h
  refine ⟨⟨⟨fun b x f h => ?_⟩, R.h.nh, fun i ob hob => ?_, fun x v h => cell_alloc_old (R.h.kept x v h), fun b x f h => ?_⟩, by simpa [Act.put, St.upd] using R.size, ?_, ?_, ?_⟩
  · simp only [G', Gh.own, Gh.at] at h
    split at h
    · simp at h; rw [← h.1]; simp [Loc.root]
    · exact R.h.sane.no b x f h
  · exact (R.h.objs i ob hob).pres R.h.sane (by rw [← R.h.nh]; exact (List.getElem?_eq_some_iff.1 hob).1) hpr trivial (fun _ => trivial)
  · simp only [G', Gh.own, Gh.at] at h
    split at h
    · rename_i hbe; subst hbe
      simp at h
      refine ⟨by simp, fun j _ => ?_⟩
      cases hK : G.K ⟨w.heap.size, j, none⟩ with
      | none => simpa [G', Gh.own, Gh.at] using hK
      | some v => exact absurd (World.block_lt_of_cell? w _ (R.h.kept _ _ hK)) (by simp)
    · have := R.h.disj b x f h
      exact ⟨by simp; omega, this.2⟩
  · intro t
    simp only [Act.put, getD_set _ _ _ _ hd', St.upd, St.get, esets, List.foldl_cons, List.foldl_nil, eget_eset]
    split
    · rename_i e'; subst e'
      have hβ : G'.β (.s d) = w.heap.size := by simp [G', Gh.at]
      have := RepV.lbox (G := G') (w := w.alloc (.cells vs e)) d cs vs e (by rw [hβ]; simp [G', Gh.own, Gh.at]) (by rw [hβ]; exact heap_alloc_new) hs
        (fun j hj => (hrep j hj (.sc d j)).pres R.h.sane hpr trivial (fun r' off' e => absurd e (AV.not_place (AV.isLocal_of_isCell (hc _ (List.getElem_mem hj))) r' off')) (fun t e => by cases e)) hc
      rwa [hβ] at this
    · rename_i hne
      refine (R.slots t).pres R.h.sane hpr trivial (fun r' off e' => ?_) (fun t' e' hbx => ⟨?_, fun _ => trivial⟩)
      · have : r' ≠ d := by rintro rfl; exact hnopl t off e'
        simp [G', Gh.own, Gh.at, this]
      · simp at e'; subst e'
        simp [G', Gh.own, Gh.at, Ne.symm hne]
  · intro t r'' off' ht
    simp only [St.upd, St.get, esets, List.foldl_cons, List.foldl_nil, eget_eset] at ht ⊢
    split at ht
    · cases ht
    · obtain ⟨cs', hcs'⟩ := R.places t r'' off' ht
      split
      · exact ⟨_, rfl⟩
      · exact ⟨cs', hcs'⟩
  · refine ⟨R.df.1, fun x hx => ?_⟩
    obtain ⟨r0, h1, h2, h3⟩ := R.df.2 x hx
    exact ⟨r0, h1, hOold _ _ _ h2, by rw [heap_alloc_lt (R.h.disj _ _ _ h2).1]; exact h3⟩

theorem step_newObj {cs : List AV} {d : Nat} (hdst : o.dst = some d) (hlt : d < σ.n) (hun : σ.get d = .undef) (hnd : ∀ c, o.op ≠ .defer c) (hc : ∀ c ∈ cs, c.isCell = true)
    (hrun : ∀ G a w, Rel G σ a w → ∃ (vs : Array Value) (e : TypeId), (execOp a.eval o).run P w = .ok (.value (.pointer (some ⟨w.heap.size, 0, none⟩))) (w.alloc (.cells vs e)) ∧ vs.size = cs.length ∧
      ∀ (j : Nat) (hj : j < cs.length) (ℓ : Loc), RepV G w ℓ cs[j] (vs.getD j Go.undef)) : StepOk P σ o [(d, .ptr σ.heap.length 0)] (some (σ.heap ++ [.cells cs])) := by
  intro r n m G a w Q next hm R hn
  obtain ⟨vs, e, hr, hs, hrep⟩ := hrun G a w R
  let G' : Gh := { (G.own w.heap.size (.o G.nh) 0).at (.o G.nh) w.heap.size with nh := G.nh + 1 }
  have hOold : ∀ b x f, G.O b = some (x, f) → G'.O b = some (x, f) := by
    intro b x f h
    have := (R.h.disj b x f h).1
    simp [G', Gh.own, Gh.at, Nat.ne_of_lt this, h]
  have hβold : ∀ i, i < G.nh → G'.β (.o i) = G.β (.o i) := by
    intro i hi
    simp [G', Gh.own, Gh.at, Nat.ne_of_lt hi]
  have hpr : Pres G G' w (w.alloc (.cells vs e)) (fun _ => True) :=
    ⟨KLe.refl _, fun b x f _ h => ⟨hOold b x f h, heap_alloc_lt (R.h.disj b x f h).1⟩, hβold, Nat.le_succ _⟩
  refine wp_value hnd hr (hn G' _ _ ?_ (Ext.alloc (KLe.refl _) (fun x v h => .inl h) (fun b hb h => by simp [G', Gh.own, Gh.at, Nat.ne_of_lt hb, h]) (fun i hi => hβold i (by omega)) (frozen?_alloc_new _ _ (fun _ _ _ e => by cases e; rfl))))
  rw [hdst]
  have hd' : d < a.tmps.size := by rw [R.size]; exact hlt
  have hnopl : ∀ t off, σ.get t ≠ .place d off := by
    intro t off e
    obtain ⟨cs, h⟩ := R.places t d off e
    rw [hun] at h; cases h
  have hβn : G'.β (.o G.nh) = w.heap.size := by simp [G', Gh.at]
  refine ⟨⟨⟨fun b x f h => ?_⟩, ?_, fun i ob hob => ?_, fun x v h => cell_alloc_old (R.h.kept x v h), fun b x f h => ?_⟩, by simpa [Act.put, St.upd] using R.size, ?_, ?_, ?_⟩
  · simp only [G', Gh.own, Gh.at] at h
    split at h
    · simp at h; rw [← h.1]; simp [Loc.root]
    · exact R.h.sane.no b x f h
  · simp [St.upd, G', R.h.nh]
  · simp only [St.upd, Option.getD_some] at hob
    rcases Nat.lt_or_ge i σ.heap.length with hi | hi
    · rw [List.getElem?_append_left hi] at hob
      exact (R.h.objs i ob hob).pres R.h.sane (by rw [← R.h.nh]; exact hi) hpr trivial (fun _ => trivial)
    · have hi' : i = σ.heap.length := by
        have := (List.getElem?_eq_some_iff.1 hob).1
        simp at this; omega
      subst hi'
      simp at hob
      subst hob
      rw [R.h.nh]
      exact ⟨vs, e, by rw [hβn]; simp [G', Gh.own, Gh.at], by rw [hβn]; exact heap_alloc_new, hs,
        fun j hj => (hrep j hj _).pres R.h.sane hpr trivial (fun r' off' e => absurd e (AV.not_place (AV.isLocal_of_isCell (hc _ (List.getElem_mem hj))) r' off')) (fun t e => by cases e), hc⟩
  · simp only [G', Gh.own, Gh.at] at h
    split at h
    · rename_i hbe; subst hbe
      simp at h
      refine ⟨by simp, fun j _ => ?_⟩
      cases hK : G.K ⟨w.heap.size, j, none⟩ with
      | none => simpa [G', Gh.own, Gh.at] using hK
      | some v => exact absurd (World.block_lt_of_cell? w _ (R.h.kept _ _ hK)) (by simp)
    · have := R.h.disj b x f h
      exact ⟨by simp; omega, this.2⟩
  · intro t
    simp only [Act.put, getD_set _ _ _ _ hd', St.upd, St.get, esets, List.foldl_cons, List.foldl_nil, eget_eset]
    split
    · rename_i e'; subst e'
      have := RepV.ptr (G := G') (w := w.alloc (.cells vs e)) (.s d) G.nh 0 (by simp [G'])
      rw [hβn] at this
      rw [R.h.nh]; exact this
    · refine (R.slots t).pres R.h.sane hpr trivial (fun r' off e' => by simp [G', Gh.own, Gh.at]) (fun t' e' hbx => ⟨by simp [G', Gh.own, Gh.at], fun _ => trivial⟩)
  · intro t r'' off' ht
    simp only [St.upd, St.get, esets, List.foldl_cons, List.foldl_nil, eget_eset] at ht ⊢
    split at ht
    · cases ht
    · obtain ⟨cs', hcs'⟩ := R.places t r'' off' ht
      split
      · rename_i e; subst e; exact absurd ht (hnopl t off')
      · exact ⟨cs', hcs'⟩
  · refine ⟨R.df.1, fun x hx => ?_⟩
    obtain ⟨r0, h1, h2, h3⟩ := R.df.2 x hx
    exact ⟨r0, h1, hOold _ _ _ h2, by rw [heap_alloc_lt (R.h.disj _ _ _ h2).1]; exact h3⟩
end

theorem AV.undef_of {c : AV} (h : c.isUndef = true) : c = .undef := by cases c <;> first | rfl | (simp [AV.isUndef] at h)

/-- The cells of a value that is the same everywhere. -/
theorem cells_anywhere {G : Gh} {w : World} {c : AV} {v : Value} (h : ∀ ℓ, RepV G w ℓ c v) (hl : c.isLocal = false) (hc : ∀ x ∈ c.cells, x.isCell = true) :
    v.cells.size = c.cells.length ∧ ∀ (i : Nat) (hi : i < c.cells.length) (ℓ : Loc), RepV G w ℓ c.cells[i] (v.cells.getD i Go.undef) := by
  by_cases hf : c.free = true
  · refine (h .no).cells hf ?_ ?_
    · rintro rfl; simp [AV.cells, AV.isCell] at hc
    · rintro l rfl; simp [AV.cells, AV.isCell] at hc
  · cases c <;> first | (simp [AV.free] at hf; done) | (simp [AV.isLocal] at hl; done) | skip
    all_goals
    rename_i k l
    have hv : v.cells = #[v] := by
      have := h .no
      cases this
      rename_i hr
      cases hr <;> rfl
    refine ⟨by rw [hv]; rfl, fun i hi ℓ => ?_⟩
    have : i = 0 := by simpa [AV.cells] using hi
    subst this
    simpa [AV.cells, hv] using h ℓ

section
variable {P : Program} {T : Types} (hT : TOk P T) {σ : St} {g : Nat → AV} {o : Oper} {ss : Sets} {h' : Option (List Obj)} {H : List Obj} {an : Ann}
  (hg : Less g σ) (hgd : ∀ d, o.dst = some d → g d = σ.get d) (hHe : heapy an g o = true → H = σ.heap) (h : evBase Ar.std T an σ.n g H o = some (ss, h'))
include hT hg hgd hHe h

theorem step_alloc {t : TypeId} (hop : o.op = .alloc t) : StepOk P σ o ss h' := by
  simp only [evBase, hop] at h
  split at h
  · rename_i td d ht hd
    split at h
    · rename_i hc
      simp at hc
      have hun : σ.get d = .undef := by rw [← hgd d hd]; exact AV.undef_of hc.2
      obtain ⟨i, dd, hi, hdd, hsz, _, huok, z, hz, hzs, hzl, hzc⟩ := hT.info ht
      have hcell : ∀ c ∈ td.zero, c.isCell = true := by
        intro c hcm
        obtain ⟨j, hj, rfl⟩ := List.mem_iff_getElem.1 hcm
        exact (zeroCell_ok (hzc j hj)).2.1
      have hrun : ∀ G a w, Rel G σ a w → ∃ (vs : Array Value) (e : TypeId), (execOp a.eval o).run P w = .ok (.value (.pointer (some ⟨w.heap.size, 0, none⟩))) (w.alloc (.cells vs e)) ∧ vs.size = td.zero.length ∧
          ∀ (j : Nat) (hj : j < td.zero.length) (ℓ : Loc), RepV G w ℓ td.zero[j] (vs.getD j Go.undef) := by
        intro G a w R
        refine ⟨z.cells, t, ?_, by omega, fun j hj ℓ => (zeroCell_ok (hzc j hj)).1 G w ℓ⟩
        simp [execOp, hop, Instr.alloc, zeroValue, typeInfo, hi, hz, newVar, newRow]
      split at h
      · rename_i hesc
        have hHσ : H = σ.heap := hHe (by simp [heapy, hop, hd]; simpa using hesc)
        simp at h
        obtain ⟨rfl, rfl⟩ := h
        rw [hHσ]
        exact step_newObj hd hc.1 hun (by simp [hop]) hcell hrun
      · simp at h
        obtain ⟨rfl, rfl⟩ := h
        exact step_newLocal hd hc.1 hun (by simp [hop]) hcell hrun
    · simp at h
  · simp at h

theorem step_box {t : TypeId} {x : Operand} (hop : o.op = .box t x) : StepOk P σ o ss h' := by
  simp only [evBase, hop] at h
  split at h
  · rename_i td v d ht hv hd
    split at h
    · rename_i hc
      simp at hc
      obtain ⟨⟨⟨hlt, hu⟩, hlen⟩, hcell⟩ := hc
      have hun : σ.get d = .undef := by rw [← hgd d hd]; exact AV.undef_of hu
      have hrun : ∀ G a w, Rel G σ a w → ∃ (vs : Array Value) (e : TypeId), (execOp a.eval o).run P w = .ok (.value (.pointer (some ⟨w.heap.size, 0, none⟩))) (w.alloc (.cells vs e)) ∧ vs.size = v.cells.length ∧
          ∀ (j : Nat) (hj : j < v.cells.length) (ℓ : Loc), RepV G w ℓ v.cells[j] (vs.getD j Go.undef) := by
        intro G a w R
        have hv' := fun ℓ => opv_ok hg R hv ℓ
        obtain ⟨h1, h2⟩ := cells_anywhere (fun ℓ => (hv' ℓ).1) (hv' .no).2 hcell
        exact ⟨(a.eval x).cells, t, by simp [execOp, hop, Instr.box, newVar, newRow], h1, h2⟩
      split at h
      · rename_i hesc
        have hHσ : H = σ.heap := hHe (by simp [heapy, hop, hd]; simpa using hesc)
        simp at h
        obtain ⟨rfl, rfl⟩ := h
        rw [hHσ]
        exact step_newObj hd hlt hun (by simp [hop]) hcell hrun
      · simp at h
        obtain ⟨rfl, rfl⟩ := h
        exact step_newLocal hd hlt hun (by simp [hop]) hcell hrun
    · simp at h
  · simp at h
end
end Go.Am
