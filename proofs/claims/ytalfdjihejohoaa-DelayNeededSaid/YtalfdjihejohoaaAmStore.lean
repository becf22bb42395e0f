/- Stores. -/
import Derived.Test.YtalfdjihejohoaaAmNew
set_option linter.unusedSimpArgs false
set_option linter.unusedSectionVars false
namespace Go.Am
open Go

theorem write_get {α : Type} (l nv : List α) (off j : Nat) (h : off + nv.length ≤ l.length) :
    (l.take off ++ nv ++ l.drop (off + nv.length))[j]? = if j < off then l[j]? else if j < off + nv.length then nv[j - off]? else l[j]? := by
  have h1 : (l.take off).length = off := by simp; omega
  by_cases hj : j < off
  · rw [if_pos hj, List.append_assoc, List.getElem?_append_left (by omega), List.getElem?_take_of_lt hj]
  · rw [if_neg hj]
    by_cases hj2 : j < off + nv.length
    · rw [if_pos hj2, List.append_assoc, List.getElem?_append_right (by omega), h1, List.getElem?_append_left (by omega)]
    · rw [if_neg hj2, List.getElem?_append_right (by simp; omega), List.getElem?_drop]
      congr 1
      simp; omega
theorem write_length {α : Type} (l nv : List α) (off : Nat) (h : off + nv.length ≤ l.length) : (l.take off ++ nv ++ l.drop (off + nv.length)).length = l.length := by
  simp; omega

/-- The row that a block is left with. -/
def rowOf (cur : Array Value) (off : Nat) (vs : List Value) : Array Value := (cur.toList.take off ++ vs ++ cur.toList.drop (off + vs.length)).toArray
theorem rowOf_size {cur : Array Value} {off : Nat} {vs : List Value} (h : off + vs.length ≤ cur.size) : (rowOf cur off vs).size = cur.size := by
  simp [rowOf]; omega
theorem rowOf_get {cur : Array Value} {off : Nat} {vs : List Value} (h : off + vs.length ≤ cur.size) (j : Nat) :
    (rowOf cur off vs).getD j Go.undef = if j < off then cur.getD j Go.undef else if j < off + vs.length then vs.getD (j - off) Go.undef else cur.getD j Go.undef := by
  have := write_get cur.toList vs off j (by simpa using h)
  simp only [rowOf, Array.getD_eq_getD_getElem?, List.getElem?_toArray, this]
  split
  · simp
  · split
    · simp [List.getD]
    · simp

/-- Which cells a write leaves, and which ones it writes. -/
theorem written {G' : Gh} {w' : World} {cs nv : List AV} {cur : Array Value} {vs : List Value} {off : Nat} {L : Nat → Loc} (hs : cur.size = cs.length) (hoff : off + nv.length ≤ cs.length) (hlen : vs.length = nv.length)
    (hold : ∀ (j : Nat) (hj : j < cs.length), RepV G' w' (L j) cs[j] (cur.getD j Go.undef)) (hnew : ∀ (j : Nat) (hj : j < nv.length), RepV G' w' (L (off + j)) nv[j] (vs.getD j Go.undef))
    (hc : ∀ c ∈ cs, c.isCell = true) (hcn : ∀ c ∈ nv, c.isCell = true) :
    (rowOf cur off vs).size = (writeAt cs off nv).length ∧ (∀ (j : Nat) (hj : j < (writeAt cs off nv).length), RepV G' w' (L j) (writeAt cs off nv)[j] ((rowOf cur off vs).getD j Go.undef)) ∧ ∀ c ∈ writeAt cs off nv, c.isCell = true := by
  have hl : (writeAt cs off nv).length = cs.length := write_length _ _ _ hoff
  refine ⟨by rw [rowOf_size (by omega), hl, hs], fun j hj => ?_, ?_⟩
  · rw [rowOf_get (by omega)]
    have e := write_get cs nv off j hoff
    have hj' : j < cs.length := by omega
    have e2 : (writeAt cs off nv)[j]? = some (writeAt cs off nv)[j] := List.getElem?_eq_getElem hj
    rw [show (writeAt cs off nv)[j]? = _ from e] at e2
    split
    · rename_i h1
      rw [if_pos h1, List.getElem?_eq_getElem hj'] at e2
      injection e2 with e2
      rw [← e2]; exact hold j hj'
    · rename_i h1
      rw [if_neg h1] at e2
      split
      · rename_i h2
        rw [if_pos (by omega), List.getElem?_eq_getElem (by omega)] at e2
        injection e2 with e2
        rw [← e2]
        have := hnew (j - off) (by omega)
        rwa [show off + (j - off) = j by omega] at this
      · rename_i h2
        rw [if_neg (by omega), List.getElem?_eq_getElem hj'] at e2
        injection e2 with e2
        rw [← e2]; exact hold j hj'
  · intro c hcm
    unfold writeAt at hcm
    rcases List.mem_append.1 hcm with hcm | hcm
    · rcases List.mem_append.1 hcm with hcm | hcm
      · exact hc c (List.mem_of_mem_take hcm)
      · exact hcn c hcm
    · exact hc c (List.mem_of_mem_drop hcm)

theorem setRow_pres {G : Gh} {w : World} {b : Nat} {ℓ : Loc} (hO : G.O b = some (ℓ, 0)) (row : Array Value) : Pres G G w (w.setRow b row) (fun x => x ≠ ℓ) :=
  ⟨KLe.refl _, fun b' x f hx h => ⟨h, setRow_other _ _ _ _ (by rintro rfl; rw [hO] at h; simp at h; exact hx h.1.symm)⟩, fun _ _ => rfl, Nat.le_refl _⟩
theorem frozen?_setRow' (w : World) (b : Nat) (row : Array Value) (a : Addr) : (w.setRow b row).frozen? a = w.frozen? a := by
  unfold World.frozen?
  by_cases h : a.block = b
  · subst h
    cases hw : w.heap[a.block]? with
    | none => simp [World.setRow, Array.getElem?_modify, hw]
    | some o => cases o <;> simp [World.setRow, Array.getElem?_modify, hw]
  · rw [setRow_other _ _ _ _ h]
theorem Ext.setRow {m : Nat} {G : Gh} {w : World} {b : Nat} {p : Loc × Nat} (hO : G.O b = some p) (row : Array Value) : Ext m G w G (w.setRow b row) where
  K := KLe.refl _
  new x v h := .inl h
  others b' _ h := ⟨setRow_other _ _ _ _ (by rintro rfl; rw [hO] at h; cases h), h⟩
  size := by simp
  β _ _ := rfl
  io := ⟨rfl, rfl, frozen?_setRow' _ _ _⟩
/-- What stays, stays under a write into an owned block. -/
theorem kept_setRow {G : Gh} {w : World} {b : Nat} {ℓ : Loc} (hk : ∀ x v, G.K x = some v → w.cell? x = some v) (hd : ∀ j, G.K ⟨b, j, none⟩ = none) (hO : G.O b = some (ℓ, 0)) (row : Array Value) :
    ∀ x v, G.K x = some v → (w.setRow b row).cell? x = some v := by
  intro x v h
  have hx := hk x v h
  have hne : x.block ≠ b := by
    rintro rfl
    have hspot : x.spot = none := by
      unfold World.cell? at hx
      split at hx
      · split at hx
        · cases hx
        · rename_i hsp; simpa using hsp
      · cases hx
    obtain ⟨b, j, s⟩ := x
    simp at hspot; subst hspot
    rw [hd j] at h; cases h
  rw [cell_setRow_other _ _ _ _ hne]; exact hx

theorem storeSlot_core {G : Gh} {σ : St} {a : Act} {w : World} (R : Rel G σ a w) {r off : Nat} {cs nv : List AV} {cur : Array Value} {vs : List Value} {e : TypeId} (hr : σ.get r = .lbox cs)
    (hw : w.heap[G.β (.s r)]? = some (.cells cur e (0, 0))) (hoff : off + nv.length ≤ cs.length) (hlen : vs.length = nv.length)
    (hnew : ∀ (j : Nat) (hj : j < nv.length), RepV G w (.sc r (off + j)) nv[j] (vs.getD j Go.undef)) (hcn : ∀ c ∈ nv, c.isCell = true) :
    Rel G (σ.upd [(r, .lbox (writeAt cs off nv))] none) a (w.setRow (G.β (.s r)) (rowOf cur off vs)) := by
  obtain ⟨vs0, e0, hO, hw0, hs, hh, hc, hat⟩ := box_rep R hr
  rw [hw] at hw0
  injection hw0 with hw0; injection hw0 with h1 h2 h3; subst h1 h2
  have hpr := setRow_pres (w := w) hO (rowOf cur off vs)
  have hnp : ∀ {c : AV}, c.isCell = true → ∀ r' off', c = .place r' off' → G.β (.s r') = G.β (.s r') := fun _ _ _ _ => rfl
  obtain ⟨k1, k2, k3⟩ := written (L := fun j => .sc r j) hs hoff hlen
    (fun j hj => (hh j hj).pres R.h.sane hpr (by simp) (fun _ _ _ => rfl) (fun t e => by cases e))
    (fun j hj => (hnew j hj).pres R.h.sane hpr (by simp) (fun _ _ _ => rfl) (fun t e => by cases e)) hc hcn
  refine ⟨⟨R.h.sane, R.h.nh, fun i ob hob => ?_, kept_setRow R.h.kept (fun j => (R.h.disj _ _ _ hO).2 j (Nat.zero_le _)) hO _, fun b ℓ f h => ?_⟩, by simpa [St.upd] using R.size, ?_, ?_, ?_⟩
  · exact (R.h.objs i ob hob).pres R.h.sane (by rw [← R.h.nh]; exact (List.getElem?_eq_some_iff.1 hob).1) hpr (by simp) (by simp)
  · have := R.h.disj b ℓ f h; exact ⟨by simpa using this.1, this.2⟩
  · intro t
    simp only [St.upd, St.get, esets, List.foldl_cons, List.foldl_nil, eget_eset]
    split
    · rename_i e'; subst e'
      rw [hat]
      exact .lbox r _ _ e hO (setRow_heap _ _ _ _ _ _ hw) k1 k2 k3
    · rename_i hne
      exact (R.slots t).pres R.h.sane hpr (by simp; exact fun e => hne e.symm) (fun _ _ _ => rfl) (fun t' e' _ => ⟨rfl, fun j => by simp⟩)
  · intro t r'' off' ht
    simp only [St.upd, St.get, esets, List.foldl_cons, List.foldl_nil, eget_eset] at ht ⊢
    split at ht
    · cases ht
    · obtain ⟨cs', hcs'⟩ := R.places t r'' off' ht
      split
      · exact ⟨_, rfl⟩
      · exact ⟨cs', hcs'⟩
  · refine ⟨R.df.1, fun x hx => ?_⟩
    obtain ⟨r0, h1, h2, h3⟩ := R.df.2 x hx
    exact ⟨r0, h1, h2, by rw [setRow_other _ _ _ _ (by rintro rfl; rw [hO] at h2; cases h2)]; exact h3⟩

theorem storeObj_core {G : Gh} {σ : St} {a : Act} {w : World} (R : Rel G σ a w) {i off : Nat} {cs nv : List AV} {cur : Array Value} {vs : List Value} {e : TypeId} (hi : σ.heap[i]? = some (.cells cs))
    (hw : w.heap[G.β (.o i)]? = some (.cells cur e (0, 0))) (hoff : off + nv.length ≤ cs.length) (hlen : vs.length = nv.length)
    (hnew : ∀ (j : Nat) (hj : j < nv.length), RepV G w (.oc i (off + j)) nv[j] (vs.getD j Go.undef)) (hcn : ∀ c ∈ nv, c.isCell = true) :
    Rel G (σ.upd [] (some (σ.heap.set i (.cells (writeAt cs off nv))))) a (w.setRow (G.β (.o i)) (rowOf cur off vs)) := by
  obtain ⟨vs0, e0, hO, hw0, hs, hh, hc⟩ := R.h.objs i _ hi
  rw [hw] at hw0
  injection hw0 with hw0; injection hw0 with h1 h2 h3; subst h1 h2
  have hpr := setRow_pres (w := w) hO (rowOf cur off vs)
  obtain ⟨k1, k2, k3⟩ := written (L := fun j => .oc i j) hs hoff hlen
    (fun j hj => (hh j hj).pres R.h.sane hpr (by simp) (fun _ _ _ => rfl) (fun t e => by cases e))
    (fun j hj => (hnew j hj).pres R.h.sane hpr (by simp) (fun _ _ _ => rfl) (fun t e => by cases e)) hc hcn
  have hil : i < σ.heap.length := (List.getElem?_eq_some_iff.1 hi).1
  refine ⟨⟨R.h.sane, by simpa [St.upd] using R.h.nh, fun i' ob hob => ?_, kept_setRow R.h.kept (fun j => (R.h.disj _ _ _ hO).2 j (Nat.zero_le _)) hO _, fun b ℓ f h => ?_⟩, by simpa [St.upd] using R.size, ?_, ?_, ?_⟩
  · simp only [St.upd, Option.getD_some] at hob
    by_cases hii : i = i'
    · subst hii
      rw [List.getElem?_set_self hil] at hob
      injection hob with hob; subst hob
      exact ⟨_, e, hO, setRow_heap _ _ _ _ _ _ hw, k1, k2, k3⟩
    · rw [List.getElem?_set_ne hii] at hob
      exact (R.h.objs i' ob hob).pres R.h.sane (by rw [← R.h.nh]; exact (List.getElem?_eq_some_iff.1 hob).1) hpr (by simp; exact fun e => hii e.symm) (by simp)
  · have := R.h.disj b ℓ f h; exact ⟨by simpa using this.1, this.2⟩
  · intro t
    exact (R.slots t).pres R.h.sane hpr (by simp) (fun _ _ _ => rfl) (fun t' e' _ => ⟨rfl, fun j => by simp⟩)
  · intro t r'' off' ht
    exact R.places t r'' off' ht
  · refine ⟨R.df.1, fun x hx => ?_⟩
    obtain ⟨r0, h1, h2, h3⟩ := R.df.2 x hx
    exact ⟨r0, h1, h2, by rw [setRow_other _ _ _ _ (by rintro rfl; rw [hO] at h2; cases h2)]; exact h3⟩

/-- A slot gives its right away; the list stays to be read. -/
theorem Rel.give {G : Gh} {σ : St} {a : Act} {w : World} (R : Rel G σ a w) {s k : Nat} {l : List D} (hs : σ.get s = .own k l) (ℓ' : Loc) (h0 : ℓ'.root ≠ .no) :
    Rel (G.move (.s s) ℓ') (σ.upd [(s, .d (.list k l))] none) a w ∧ RepV (G.move (.s s) ℓ') w ℓ' (.own k l) (a.tmps.getD s Go.undef) := by
  have hrep := R.slots s
  rw [hs] at hrep
  generalize hv : a.tmps.getD s Go.undef = v at hrep
  cases hrep with | own _ _ _ _ hr ht =>
  have hpr := G.move_pres w (.s s) ℓ'
  refine ⟨⟨R.h.move _ _ h0 ?_, by simpa [St.upd] using R.size, ?_, ?_, R.df.move (by simp)⟩, .own _ _ _ _ hr ht.move⟩
  · intro i ob hob
    exact (R.h.objs i ob hob).pres R.h.sane (by rw [← R.h.nh]; exact (List.getElem?_eq_some_iff.1 hob).1) hpr (by simp) (by simp)
  · intro t
    simp only [St.upd, St.get, esets, List.foldl_cons, List.foldl_nil, eget_eset]
    split
    · rename_i e; subst e; rw [hv]; exact .d _ _ _ hr
    · rename_i e2
      exact (R.slots t).pres R.h.sane hpr (by simp; exact fun e => e2 e.symm) (fun _ _ _ => rfl) (fun _ _ _ => ⟨rfl, by simp⟩)
  · intro t r' off ht
    simp only [St.upd, St.get, esets, List.foldl_cons, List.foldl_nil, eget_eset] at ht ⊢
    split at ht
    · cases ht
    · obtain ⟨cs, hcs⟩ := R.places t r' off ht
      refine ⟨cs, ?_⟩
      split
      · rename_i e; subst e; rw [hcs] at hs; cases hs
      · exact hcs

theorem upd_upd (σ : St) (s t : Sets) : (σ.upd s none).upd t none = σ.upd (s ++ t) none := by simp [St.upd, esets]
theorem upd_upd' (σ : St) (s t : Sets) (h : List Obj) : (σ.upd s none).upd t (some h) = σ.upd (s ++ t) (some h) := by simp [St.upd, esets]

section
variable {P : Program} {T : Types} (hT : TOk P T) {σ : St} {g : Nat → AV} {o : Oper} {ss : Sets} {h' : Option (List Obj)} {H : List Obj} {an : Ann}
  (hg : Less g σ) (hHe : heapy an g o = true → H = σ.heap) (h : evBase Ar.std T an σ.n g H o = some (ss, h'))
include hT hg hHe h

omit hg hHe h in
theorem storeVar_run {t : TypeId} {td : TD} (ht : T t = some td) {w : World} {b off : Nat} {cur : Array Value} {e : TypeId} {v : Value} (hw : w.heap[b]? = some (.cells cur e (0, 0))) (hs : v.cells.size = td.size)
    (hoff : off + td.size ≤ cur.size) (h1 : ∀ x ∈ v.cells.toList, x.oneCell' = true) : (storeVar t ⟨b, off, none⟩ v).run P w = .ok () (w.setRow b (rowOf cur off v.cells.toList)) := by
  have := run_storeCells_at P b off e v.cells.toList 0 cur w hw (by simp; omega) h1
  simp only [Nat.add_zero] at this
  simp [storeVar, hT.size ht, hs, this, rowOf]

theorem step_store {t : TypeId} {x y : Operand} (hop : o.op = .store t x y) : StepOk P σ o ss h' := by
  have hnd : ∀ c, o.op ≠ .defer c := by simp [hop]
  simp only [evBase, hop] at h
  split at h
  · rename_i td r off cs v ss0 ht hA hv
    split at h
    · rename_i hc
      obtain ⟨hlen, hoff, hcell, hdst⟩ := hc
      simp at h
      obtain ⟨rfl, rfl⟩ := h
      simp at hcell
      intro r' n m G a w Q next hm R hn
      obtain ⟨hr, hpt⟩ := adr_ok hg R hA
      rcases taken_some hv with ⟨rfl, hl, hrep⟩ | ⟨s, k, l, rfl, hgs, rfl, rfl⟩
      · obtain ⟨e1, e2⟩ := cells_anywhere (fun ℓ => hrep hg R ℓ) hl hcell
        obtain ⟨cur, e, hO, hw, hs, hh, hcc, hat⟩ := box_rep R hr
        have hcore := storeSlot_core R (off := off) (nv := v.cells) (vs := (a.eval y).cells.toList) hr hw (by omega) (by simpa using e1)
          (fun j hj => by have := e2 j hj (.sc r (off + j)); simpa [List.getD, Array.getD_eq_getD_getElem?] using this) hcell
        have hone : ∀ x ∈ (a.eval y).cells.toList, x.oneCell' = true := by
          intro x hx
          obtain ⟨j, hj, rfl⟩ := List.mem_iff_getElem.1 hx
          have hj1 : j < (a.eval y).cells.size := by simpa using hj
          have := (e2 j (by omega) .no).oneCell (hcell _ (List.getElem_mem _))
          simpa [Array.getD, hj1] using this
        have hrun := storeVar_run hT ht hw (off := off) (v := a.eval y) (by omega) (by omega) hone
        refine wp_skip' hnd (w' := w.setRow (G.β (.s r)) (rowOf cur off (a.eval y).cells.toList)) (by simp [execOp, hop, hpt, Instr.storeAt, Instr.sureAddr, hrun]) (hn G _ _ ?_ (Ext.setRow hO _))
        rw [hdst]
        simpa [Act.put] using hcore
      · have hsg := hg.eq hgs (by simp)
        have hrs : r ≠ s := by rintro rfl; rw [hr] at hsg; cases hsg
        obtain ⟨R1, hrep1⟩ := R.give hsg (.sc r off) (by simp [Loc.root])
        have hr1 : (σ.upd [(s, .d (.list k l))] none).get r = .lbox cs := by
          simp only [St.upd, St.get, esets, List.foldl_cons, List.foldl_nil, eget_eset, if_neg (Ne.symm hrs)]; exact hr
        obtain ⟨cur, e, hO, hw, hs, hh, hcc, hat⟩ := box_rep R1 hr1
        have hval : a.eval (.tmp s) = a.tmps.getD s Go.undef := rfl
        generalize hvv : a.tmps.getD s Go.undef = vv at hrep1
        have hcells : vv.cells = #[vv] := by cases hrep1 with | own _ _ _ _ hr _ => cases hr <;> rfl
        have hsz : td.size = 1 := by rw [← hlen]; rfl
        have hcore := storeSlot_core R1 (off := off) (nv := [.own k l]) (vs := [vv]) hr1 hw (by simp; omega) rfl
          (fun j hj => by simp at hj; subst hj; simpa using hrep1) (by simp [AV.isCell])
        have hone : ∀ x ∈ vv.cells.toList, x.oneCell' = true := by
          rw [hcells]; simp; exact hrep1.oneCell rfl
        have hrun := storeVar_run hT ht hw (off := off) (v := vv) (by rw [hcells]; simp [hsz]) (by omega) hone
        have hβ : (G.move (.s s) (.sc r off)).β = G.β := rfl
        rw [hβ] at hrun hcore hO
        refine wp_skip' hnd (w' := w.setRow (G.β (.s r)) (rowOf cur off vv.cells.toList)) (by simp [execOp, hop, hpt, Instr.storeAt, Instr.sureAddr, hval, hvv, hrun]) (hn _ _ _ ?_ ((Ext.move m G w _ _).trans (Ext.setRow hO _)))
        rw [hdst, hcells]
        rw [upd_upd] at hcore
        simpa [Act.put, AV.cells] using hcore
    · simp at h
  · rename_i td i off v ss0 ht hA hv
    cases hHi : H[i]? with
    | none => simp [hHi] at h
    | some ob =>
      simp only [hHi] at h
      split at h
      · rename_i hc
        obtain ⟨hlen, hcell, hdst⟩ := hc
        simp at hcell
        have hHσ : H = σ.heap := by
          obtain ⟨j, rfl, hgj⟩ := adr_obj hA
          exact hHe (by simp [heapy, hop, hgj])
        subst hHσ
        simp only [Option.map_eq_some_iff] at h
        obtain ⟨ob', hob', he⟩ := h
        simp at he
        obtain ⟨rfl, rfl⟩ := he
        cases ob with
        | cells cs =>
          simp only [writeObj] at hob'
          split at hob'
          · rename_i hoff
            simp at hob'; subst hob'
            intro r' n m G a w Q next hm R hn
            obtain ⟨hi, hpt⟩ := adr_ok hg R hA
            rcases taken_some hv with ⟨rfl, hl, hrep⟩ | ⟨s, k, l, rfl, hgs, rfl, rfl⟩
            · obtain ⟨e1, e2⟩ := cells_anywhere (fun ℓ => hrep hg R ℓ) hl hcell
              obtain ⟨cur, e, hO, hw, hs, hh, hcc⟩ := R.h.objs i _ hHi
              have hcore := storeObj_core R (off := off) (nv := v.cells) (vs := (a.eval y).cells.toList) hHi hw (by omega) (by simpa using e1)
                (fun j hj => by have := e2 j hj (.oc i (off + j)); simpa [List.getD, Array.getD_eq_getD_getElem?] using this) hcell
              have hone : ∀ x ∈ (a.eval y).cells.toList, x.oneCell' = true := by
                intro x hx
                obtain ⟨j, hj, rfl⟩ := List.mem_iff_getElem.1 hx
                have hj1 : j < (a.eval y).cells.size := by simpa using hj
                have := (e2 j (by omega) .no).oneCell (hcell _ (List.getElem_mem _))
                simpa [Array.getD, hj1] using this
              have hrun := storeVar_run hT ht hw (off := off) (v := a.eval y) (by omega) (by omega) hone
              refine wp_skip' hnd (w' := w.setRow (G.β (.o i)) (rowOf cur off (a.eval y).cells.toList)) (by simp [execOp, hop, hpt, Instr.storeAt, Instr.sureAddr, hrun]) (hn G _ _ ?_ (Ext.setRow hO _))
              rw [hdst]
              simpa [Act.put] using hcore
            · have hsg := hg.eq hgs (by simp)
              obtain ⟨R1, hrep1⟩ := R.give hsg (.oc i off) (by simp [Loc.root])
              obtain ⟨cur, e, hO, hw, hs, hh, hcc⟩ := R1.h.objs i _ hHi
              have hval : a.eval (.tmp s) = a.tmps.getD s Go.undef := rfl
              generalize hvv : a.tmps.getD s Go.undef = vv at hrep1
              have hcells : vv.cells = #[vv] := by cases hrep1 with | own _ _ _ _ hr _ => cases hr <;> rfl
              have hsz : td.size = 1 := by rw [← hlen]; rfl
              have hcore := storeObj_core R1 (off := off) (nv := [.own k l]) (vs := [vv]) hHi hw (by simpa [AV.cells] using hoff) rfl
                (fun j hj => by simp at hj; subst hj; simpa using hrep1) (by simp [AV.isCell])
              have hone : ∀ x ∈ vv.cells.toList, x.oneCell' = true := by
                rw [hcells]; simp; exact hrep1.oneCell rfl
              have hrun := storeVar_run hT ht hw (off := off) (v := vv) (by rw [hcells]; simp [hsz]) (by simp [AV.cells] at hoff; omega) hone
              have hβ : (G.move (.s s) (.oc i off)).β = G.β := rfl
              rw [hβ] at hrun hcore hO
              refine wp_skip' hnd (w' := w.setRow (G.β (.o i)) (rowOf cur off vv.cells.toList)) (by simp [execOp, hop, hpt, Instr.storeAt, Instr.sureAddr, hval, hvv, hrun]) (hn _ _ _ ?_ ((Ext.move m G w _ _).trans (Ext.setRow hO _)))
              rw [hdst, hcells]
              have hcore' := hcore
              simp only [show (σ.upd [(s, AV.d (D.list k l))] none).heap = σ.heap from rfl] at hcore'
              rw [upd_upd'] at hcore'
              simpa [Act.put, AV.cells] using hcore'
          · simp at hob'
        | arr k l => simp [writeObj] at hob'
        | loop L => simp [writeObj] at hob'
        | map ag ks es => simp [writeObj] at hob'
        | dead => simp [writeObj] at hob'
      · simp at h
  · simp at h
end
end Go.Am
