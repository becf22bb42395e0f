/- Operations that read or write memory. -/
import Derived.Test.YtalfdjihejohoaaAmOps
set_option linter.unusedSimpArgs false
set_option linter.unusedSectionVars false
namespace Go.Am
open Go

/-! ### The right to append goes from one place to another -/
def Gh.move (G : Gh) (ℓ ℓ' : Loc) : Gh :=
  { G with O := fun b => match G.O b with
      | some (x, f) => some (if x = ℓ then ℓ' else x, f)
      | none => none }

theorem move_O {G : Gh} {ℓ ℓ' : Loc} {b : Nat} {x : Loc} {f : Nat} (h : (G.move ℓ ℓ').O b = some (x, f)) : ∃ y, G.O b = some (y, f) ∧ x = if y = ℓ then ℓ' else y := by
  simp only [Gh.move] at h
  split at h
  · rename_i y f' hO
    simp at h
    obtain ⟨h1, h2⟩ := h
    exact ⟨y, by rw [hO, h2], h1.symm⟩
  · simp at h

theorem Gh.move_pres (G : Gh) (w : World) (ℓ ℓ' : Loc) : Pres G (G.move ℓ ℓ') w w (fun x => x ≠ ℓ) where
  K := KLe.refl _
  O b x f hx hO := by simp [Gh.move, hO, hx]
  β _ _ := rfl
  nh := Nat.le_refl _
theorem Tail.move {G : Gh} {w : World} {ℓ ℓ' : Loc} {k : Nat} {v : Value} (h : Tail G w ℓ k v) : Tail (G.move ℓ ℓ') w ℓ' k v := by
  intro a n cap hv hn
  obtain ⟨f, c, e, h1, h2, h3, h4⟩ := h a n cap hv hn
  exact ⟨f, c, e, by simp [Gh.move, h1], h2, h3, h4⟩
theorem Sane.move {G : Gh} (h : Sane G) {ℓ ℓ' : Loc} (h0 : ℓ'.root ≠ .no) : Sane (G.move ℓ ℓ') := ⟨fun b x f hO => by
  obtain ⟨y, hy, rfl⟩ := move_O hO
  split
  · exact h0
  · exact h.no b y f hy⟩
theorem RelH.move {G : Gh} {H : List Obj} {w : World} (R : RelH G H w) (ℓ ℓ' : Loc) (h0 : ℓ'.root ≠ .no)
    (ho : ∀ (i : Nat) (ob : Obj), H[i]? = some ob → RepObj (G.move ℓ ℓ') w i ob) : RelH (G.move ℓ ℓ') H w where
  sane := R.sane.move h0
  nh := R.nh
  objs := ho
  kept := R.kept
  disj b x f hO := by
    obtain ⟨y, hy, rfl⟩ := move_O hO
    exact R.disj b y f hy
theorem Ext.move (m : Nat) (G : Gh) (w : World) (ℓ ℓ' : Loc) : Ext m G w (G.move ℓ ℓ') w where
  K := KLe.refl _
  new x v h := .inl h
  others b _ hO := ⟨rfl, by simp [Gh.move, hO]⟩
  size := Nat.le_refl _
  β _ _ := rfl
  io := ⟨rfl, rfl, fun _ => rfl⟩
theorem RelF.move {G : Gh} {ds : List Deferred} {w : World} (h : RelF G ds w) {ℓ ℓ' : Loc} (hl : ℓ ≠ .df) : RelF (G.move ℓ ℓ') ds w :=
  ⟨h.1, fun d hd => by
    obtain ⟨r, h1, h2, h3⟩ := h.2 d hd
    exact ⟨r, h1, by simp [Gh.move, h2, Ne.symm hl], h3⟩⟩

/-! ### Copies, and takings -/
theorem taken_some {T : Types} {an : Ann} {g : Nat → AV} {t : TypeId} {x : Operand} {v : AV} {ss : Sets} (h : taken T an g t x = some (v, ss)) :
    (ss = [] ∧ v.isLocal = false ∧ ∀ {σ G a w}, Less g σ → Rel G σ a w → ∀ ℓ, RepV G w ℓ v (a.eval x)) ∨
    ∃ s k l, x = .tmp s ∧ g s = .own k l ∧ v = .own k l ∧ ss = [(s, .d (.list k l))] := by
  unfold taken at h
  split at h
  · rename_i s
    split at h
    · split at h
      · rename_i k l hgs
        simp at h
        exact .inr ⟨s, k, l, rfl, hgs, h.1.symm, h.2.symm⟩
      · simp at h
        obtain ⟨rfl, rfl⟩ := h
        exact .inl ⟨rfl, AV.copy_isLocal _, fun hg R ℓ => (hg.rep R s).copy ℓ⟩
    · simp at h
      obtain ⟨rfl, rfl⟩ := h
      exact .inl ⟨rfl, AV.copy_isLocal _, fun hg R ℓ => (hg.rep R s).copy ℓ⟩
  · simp at h
    obtain ⟨y, hy, rfl, rfl⟩ := h
    refine .inl ⟨rfl, ?_, fun hg R ℓ => (opv_ok hg R hy ℓ).1⟩
    cases x with
    | tmp i => rename_i hx; exact absurd rfl (hx i)
    | const v => exact (constAV_ok hy ⟨fun _ => none, fun _ => none, fun _ => 0, 0⟩ default .no).2
    | func f => simp [opv] at hy; subst hy; rfl
    | global k => simp [opv] at hy

section
variable {P : Program} {T : Types} {σ : St} {g : Nat → AV} {o : Oper} {ss : Sets} {h' : Option (List Obj)} {H : List Obj} {an : Ann}
  (hg : Less g σ) (hgd : ∀ d, o.dst = some d → g d = σ.get d) (h : evBase Ar.std T an σ.n g H o = some (ss, h'))
include hg hgd h

theorem step_move {x : Operand} (hop : o.op = .move x ∨ o.op = .assign x) : StepOk P σ o ss h' := by
  have hrun : ∀ (a : Act) (w : World), (execOp a.eval o).run P w = .ok (.value (a.eval x)) w := by
    intro a w
    rcases hop with hop | hop <;> simp [execOp, hop]
  have hnd : ∀ c, o.op ≠ .defer c := by rcases hop with hop | hop <;> simp [hop]
  have h : (match taken T an g o.type x, o.dst with
    | some (v, ss), some d => if (decide (d < σ.n) && !(g d).isBox && !(slotOf x).contains d) = true then some (ss ++ [(d, v)], none) else none
    | _, _ => none) = some (ss, h') := by
    rcases hop with hop | hop <;> (simp only [evBase, hop] at h; exact h)
  split at h
  · rename_i v ss0 d hv hd
    split at h
    · rename_i hc
      simp at hc
      obtain ⟨⟨hlt, hbox⟩, hne⟩ := hc
      simp at h
      obtain ⟨rfl, rfl⟩ := h
      rcases taken_some hv with ⟨rfl, hl, hrep⟩ | ⟨s, k, l, rfl, hgs, rfl, rfl⟩
      · refine stepOk_pure (v := v) hgd (by simp [Am.put, hd, hlt, hbox]) hnd (AV.free_place hl) ?_
        intro G a w R
        exact ⟨_, hrun a w, fun d => hrep hg R _⟩
      · intro r n m G a w Q next hm R hn
        have hs : σ.get s = .own k l := hg.eq hgs (by simp)
        have hsd : s ≠ d := by simpa [slotOf, eq_comm] using hne
        have hrep := R.slots s
        rw [hs] at hrep
        cases hrep with | own _ _ _ _ hr ht =>
        refine wp_value hnd (hrun a w) (hn (G.move (.s s) (.s d)) _ _ ?_ (Ext.move m G w _ _))
        rw [hd]
        have hd' : d < a.tmps.size := by rw [R.size]; exact hlt
        have hdb : (σ.get d).isBox = false := by rw [← hgd d hd]; exact hbox
        have hpr := G.move_pres w (.s s) (.s d)
        refine ⟨R.h.move _ _ (by simp [Loc.root]) ?_, by simpa [Act.put, St.upd] using R.size, ?_, ?_, R.df.move (by simp)⟩
        · intro i ob hob
          exact (R.h.objs i ob hob).pres R.h.sane (by rw [← R.h.nh]; exact (List.getElem?_eq_some_iff.1 hob).1) hpr (by simp) (by simp)
        · intro t
          simp only [Act.put, getD_set _ _ _ _ hd', St.upd, St.get, esets, List.cons_append, List.nil_append, List.foldl_cons, List.foldl_nil, eget_eset]
          split
          · rename_i e; subst e
            exact .own _ _ _ _ hr ht.move
          · split
            · rename_i e; subst e; exact .d _ _ _ hr
            · rename_i e1 e2
              exact (R.slots t).pres R.h.sane hpr (by simp; exact fun e => e2 e.symm) (fun _ _ _ => rfl) (fun _ _ _ => ⟨rfl, by simp⟩)
        · intro t r' off ht
          simp only [St.upd, St.get, esets, List.cons_append, List.nil_append, List.foldl_cons, List.foldl_nil, eget_eset] at ht ⊢
          split at ht
          · cases ht
          · split at ht
            · cases ht
            · obtain ⟨cs, hcs⟩ := R.places t r' off ht
              refine ⟨cs, ?_⟩
              split
              · rename_i e; subst e; rw [hcs] at hdb; simp [AV.isBox] at hdb
              · split
                · rename_i e; subst e; rw [hcs] at hs; cases hs
                · exact hcs
    · simp at h
  · simp at h
end

/-! ### Loads -/
section
variable {P : Program} {T : Types} (hT : TOk P T) {σ : St} {g : Nat → AV} {o : Oper} {ss : Sets} {h' : Option (List Obj)} {H : List Obj} {an : Ann}
  (hg : Less g σ) (hgd : ∀ d, o.dst = some d → g d = σ.get d) (hH : ∀ (i : Nat) (ob : Obj), H[i]? = some ob → σ.heap[i]? = some ob) (h : evBase Ar.std T an σ.n g H o = some (ss, h'))

theorem cell_block {w : World} {b : Nat} {vs : Array Value} {e : TypeId} (hb : w.heap[b]? = some (.cells vs e (0, 0))) (j : Nat) : w.cell? ⟨b, j, none⟩ = vs[j]? := by
  simp [World.cell?, hb]
theorem cell_at {w : World} {b : Nat} {vs : Array Value} {e : TypeId} (hb : w.heap[b]? = some (.cells vs e (0, 0))) {j : Nat} (hj : j < vs.size) : w.cell? ⟨b, j, none⟩ = some (vs.getD j Go.undef) := by
  rw [cell_block hb]; simp [Array.getD, hj]

theorem box_rep {G : Gh} {a : Act} {w : World} (R : Rel G σ a w) {r : Nat} {cs : List AV} (hr : σ.get r = .lbox cs) :
    ∃ (vs : Array Value) (e : TypeId), G.O (G.β (.s r)) = some (.s r, 0) ∧ w.heap[G.β (.s r)]? = some (.cells vs e (0, 0)) ∧ vs.size = cs.length ∧
      (∀ (j : Nat) (hj : j < cs.length), RepV G w (.sc r j) cs[j] (vs.getD j Go.undef)) ∧ (∀ c ∈ cs, c.isCell = true) ∧ a.tmps.getD r Go.undef = .pointer (some ⟨G.β (.s r), 0, none⟩) := by
  have := R.slots r
  rw [hr] at this
  generalize hv : a.tmps.getD r Go.undef = v at this
  cases this with | lbox _ _ vs e hO hw hs hh hc => exact ⟨vs, e, hO, hw, hs, hh, hc, rfl⟩

def ReadsAs (σ : St) (td : TD) (A : Adr) (av : AV) : Prop :=
  match A with
  | .slot _ off cs => readAt td cs off = some av
  | .obj a off => ∃ ob cs, σ.heap[a]? = some ob ∧ objCells ob = some cs ∧ readAt td cs off = some av
  | .cells cs => readAt td (cs.map .d) 0 = some av

include hT in
theorem load_run {t : TypeId} {td : TD} (ht : T t = some td) {A : Adr} {G : Gh} {a : Act} {w : World} (R : Rel G σ a w) {b off : Nat} (hA : AdrRep G σ A (.pointer (some ⟨b, off, none⟩))) {av : AV} (hav : ReadsAs σ td A av) :
    ∃ v, (loadVar t ⟨b, off, none⟩).run P w = .ok v w ∧ av.free = true ∧ ∀ ℓ, RepV G w ℓ av v := by
  cases A with
  | slot r off' cs =>
    obtain ⟨hr, e⟩ := hA
    simp at e; obtain ⟨rfl, rfl⟩ := e
    obtain ⟨vs, e, hO, hw, hs, hh, hc, _⟩ := box_rep R hr
    have := loadVar_ok hT ht (G := G) (w := w) (b := G.β (.s r)) (o := 0) (off := off) (cs := cs) (vs := fun j => vs.getD j Go.undef)
      (fun j hj => by rw [Nat.zero_add]; exact cell_at hw (by omega)) (fun j hj => ⟨_, hh j hj⟩) hc hav
    simpa using this
  | obj i off' =>
    obtain ⟨hi, e⟩ := hA
    simp at e; obtain ⟨rfl, rfl⟩ := e
    obtain ⟨ob, cs, hob, hcs, hav⟩ := hav
    have hobj := R.h.objs i ob hob
    cases ob with
    | cells cs' =>
      simp [objCells] at hcs; subst hcs
      obtain ⟨vs, e, hO, hw, hs, hh, hc⟩ := hobj
      have := loadVar_ok hT ht (G := G) (w := w) (b := G.β (.o i)) (o := 0) (off := off) (cs := cs') (vs := fun j => vs.getD j Go.undef)
        (fun j hj => by rw [Nat.zero_add]; exact cell_at hw (by omega)) (fun j hj => ⟨_, hh j hj⟩) hc hav
      simpa using this
    | arr k l =>
      simp [objCells] at hcs; subst hcs
      obtain ⟨vs, e, hO, hw, hu, hs, h1, hh⟩ := hobj
      have hcell : ∀ c ∈ (D.flat l).map AV.d, c.isCell = true := isCell_of_rep h1 hh
      have := loadVar_ok hT ht (G := G) (w := w) (b := G.β (.o i)) (o := 0) (off := off) (cs := (D.flat l).map .d) (vs := fun j => vs.getD j Go.undef)
        (fun j hj => by rw [Nat.zero_add]; simp at hj; exact cell_at hw (by omega)) (fun j hj => ⟨.no, by have := RepV.d (G := G) (w := w) .no _ _ (hh j (by simpa using hj)); simpa using this⟩) hcell hav
      simpa using this
    | map ag ks es => simp [objCells] at hcs
    | dead => simp [objCells] at hcs
    | loop L => simp [objCells] at hcs
  | cells cs =>
    obtain ⟨b', off', vs, e, hK, h1, hh⟩ := hA
    simp at e; obtain ⟨rfl, rfl⟩ := e
    have hcell : ∀ c ∈ cs.map AV.d, c.isCell = true := isCell_of_rep h1 hh
    have := loadVar_ok hT ht (G := G) (w := w) (b := b) (o := off) (off := 0) (cs := cs.map .d) (vs := vs)
      (fun j hj => R.h.kept _ _ (hK j (by simpa using hj))) (fun j hj => ⟨.no, by have := RepV.d (G := G) (w := w) .no _ _ (hh j (by simpa using hj)); simpa using this⟩) hcell hav
    simpa using this

theorem readAt_one {td : TD} {cs : List AV} {off : Nat} {c : AV} (hs : td.size = 1) (hc : cs[off]? = some c) (ha : td.isAgg = false) : readAt td cs off = some c.copy := by
  obtain ⟨h1, rfl⟩ := List.getElem?_eq_some_iff.1 hc
  unfold readAt cut
  rw [hs, if_pos (by omega)]
  simp [ha, List.head?_take, hc]

theorem adr_obj {x : Operand} {i off : Nat} (h : adr g x = some (.obj i off)) : ∃ j, x = .tmp j ∧ g j = .ptr i off := by
  unfold adr at h
  split at h
  · rename_i j
    split at h
    · simp at h
    · split at h <;> simp at h
    · rename_i a b hg; simp at h; obtain ⟨rfl, rfl⟩ := h; exact ⟨j, rfl, hg⟩
    · simp at h
    · simp at h
  · simp at h

include hT hg hgd hH h

theorem step_load {t : TypeId} {x : Operand} (hop : o.op = .load t x) (hHe : heapy an g o = true → H = σ.heap) : StepOk P σ o ss h' := by
  have hnd : ∀ c, o.op ≠ .defer c := by simp [hop]
  -- what a load yields
  have plain : ∀ (td : TD) (A : Adr) (av : AV), T t = some td → adr g x = some A → Am.put σ.n g o.dst av = some (ss, h') →
      ReadsAs σ td A av → StepOk P σ o ss h' := by
    intro td A av ht hA hp hav r n m G a w Q next hm R hn
    have hAr := adr_ok hg R hA
    obtain ⟨b, off, hpt⟩ := hAr.pointer
    rw [hpt] at hAr
    obtain ⟨v, _, hfree, _⟩ := load_run hT ht R hAr hav
    refine stepOk_pure hgd hp hnd (AV.free_place (AV.free_isLocal hfree)) ?_ r n m G a w Q next hm R hn
    intro G a w R
    have hAr := adr_ok hg R hA
    obtain ⟨b, off, hpt⟩ := hAr.pointer
    rw [hpt] at hAr
    obtain ⟨v, hv, hfree, hrep⟩ := load_run hT ht R hAr hav
    exact ⟨v, by simp [execOp, hop, hpt, Instr.loadAt, Instr.sureAddr, hv], fun d => hrep _⟩
  simp only [evBase, hop] at h
  split at h
  · rename_i td r off cs ht hA
    have ordinary : putO σ.n g o.dst (readAt td cs off) = some (ss, h') → StepOk P σ o ss h' := by
      intro h
      obtain ⟨av, hav, hp⟩ := putO_some h
      exact plain td _ av ht hA hp hav
    split at h
    · rename_i d k l hd hcs
      split at h
      · rename_i htk
        simp at htk
        simp only [Option.map_eq_some_iff] at h
        obtain ⟨⟨ss1, h1⟩, hp, he⟩ := h
        simp at he
        obtain ⟨rfl, rfl⟩ := he
        obtain ⟨rfl, hcase⟩ := put_some hp
        rcases hcase with ⟨hdn, _⟩ | ⟨d', hd', rfl, hlt, hbox⟩
        · rw [hd] at hdn; cases hdn
        obtain rfl : d = d' := by rw [hd] at hd'; injection hd'
        intro r' n m G a w Q next hm R hn
        have hAr := adr_ok hg R hA
        obtain ⟨hr, hpt⟩ := hAr
        obtain ⟨vs, e, hO, hw, hs, hh, hc, hat⟩ := box_rep R hr
        obtain ⟨hoff, hcsoff⟩ := List.getElem?_eq_some_iff.1 hcs
        have hcell := hh off hoff
        rw [hcsoff] at hcell
        generalize hv : vs.getD off Go.undef = v at hcell
        cases hcell with | own _ _ _ _ hrl htail =>
        have hdb : (σ.get d).isBox = false := by rw [← hgd d hd]; exact hbox
        have hrd : r ≠ d := by rintro rfl; rw [hr] at hdb; simp [AV.isBox] at hdb
        have hrun : (execOp a.eval o).run P w = .ok (.value v) w := by
          have : w.cell? ⟨G.β (.s r), off, none⟩ = some v := by rw [← hv]; exact cell_at hw (by omega)
          simp [execOp, hop, hpt, Instr.loadAt, Instr.sureAddr, loadVar, hT.isAgg ht, htk.2, this]
        refine wp_value hnd hrun (hn (G.move (.sc r off) (.s d)) _ _ ?_ (Ext.move m G w _ _))
        rw [hd]
        have hd' : d < a.tmps.size := by rw [R.size]; exact hlt
        have hpr := G.move_pres w (.sc r off) (.s d)
        refine ⟨R.h.move _ _ (by simp [Loc.root]) ?_, by simpa [Act.put, St.upd] using R.size, ?_, ?_, R.df.move (by simp)⟩
        · intro i ob hob
          exact (R.h.objs i ob hob).pres R.h.sane (by rw [← R.h.nh]; exact (List.getElem?_eq_some_iff.1 hob).1) hpr (by simp) (by simp)
        · intro t
          simp only [Act.put, getD_set _ _ _ _ hd', St.upd, St.get, esets, List.cons_append, List.nil_append, List.foldl_cons, List.foldl_nil, eget_eset]
          split
          · rename_i e; subst e
            exact .own _ _ _ _ hrl htail.move
          · split
            · rename_i e; subst e
              rw [hat]
              refine .lbox _ _ vs e ?_ hw (by simpa using hs) (fun j hj => ?_) ?_
              · simp only [Gh.move, hO]; simp
              · simp at hj
                by_cases hjo : off = j
                · subst hjo; simp only [List.getElem_set_self]; rw [hv]; exact .d _ _ _ hrl
                · rw [List.getElem_set_ne hjo]
                  exact (hh j hj).pres R.h.sane hpr (by simp; exact fun e => hjo e.symm) (fun r' off' e => absurd e (AV.not_place (AV.isLocal_of_isCell (hc _ (List.getElem_mem hj))) r' off')) (fun t e => by cases e)
              · intro c hcm
                rcases List.mem_or_eq_of_mem_set hcm with hcm | rfl
                · exact hc c hcm
                · rfl
            · exact (R.slots t).pres R.h.sane hpr (by simp) (fun _ _ _ => rfl) (fun t' e hb => ⟨rfl, by intro j; simp; rintro rfl; rename_i e1 e2; simp at e; exact absurd e.symm e2⟩)
        · intro t r'' off' ht
          simp only [St.upd, St.get, esets, List.cons_append, List.nil_append, List.foldl_cons, List.foldl_nil, eget_eset] at ht ⊢
          split at ht
          · cases ht
          · split at ht
            · cases ht
            · obtain ⟨cs', hcs'⟩ := R.places t r'' off' ht
              split
              · rename_i e; subst e; rw [hcs'] at hdb; simp [AV.isBox] at hdb
              · split
                · exact ⟨_, rfl⟩
                · exact ⟨cs', hcs'⟩
      · exact ordinary h
    · exact ordinary h
  · rename_i td i off ht hA
    cases hHi : H[i]? with
    | none => simp [hHi] at h
    | some ob =>
      have hob := hH i ob hHi
      have ordinary : putO σ.n g o.dst ((objCells ob).bind (readAt td · off)) = some (ss, h') → StepOk P σ o ss h' := by
        intro h
        obtain ⟨av, hav, hp⟩ := putO_some h
        obtain ⟨cs, hcs, hav⟩ := Option.bind_eq_some_iff.1 hav
        exact plain td _ av ht hA hp ⟨ob, cs, hob, hcs, hav⟩
      simp only [hHi] at h
      split at h
      · rename_i cs heq
        injection heq with heq
        subst heq
        have ordinary : putO σ.n g o.dst (readAt td cs off) = some (ss, h') → StepOk P σ o ss h' := by
          intro h; exact ordinary (by simpa [objCells] using h)
        split at h
        · rename_i d k l hd hcs
          split at h
          · rename_i htk
            simp at htk
            simp only [Option.map_eq_some_iff] at h
            obtain ⟨⟨ss1, h1⟩, hp, he⟩ := h
            simp at he
            obtain ⟨rfl, rfl⟩ := he
            obtain ⟨rfl, hcase⟩ := put_some hp
            rcases hcase with ⟨hdn, _⟩ | ⟨d', hd', rfl, hlt, hbox⟩
            · rw [hd] at hdn; cases hdn
            obtain rfl : d = d' := by rw [hd] at hd'; injection hd'
            have hHσ : H = σ.heap := by
              obtain ⟨j, rfl, hgj⟩ := adr_obj hA
              exact hHe (by simp [heapy, hop, hgj])
            intro r' n m G a w Q next hm R hn
            have hAr := adr_ok hg R hA
            obtain ⟨hi, hpt⟩ := hAr
            obtain ⟨vs, e, hO, hw, hs, hh, hc⟩ := R.h.objs i _ hob
            obtain ⟨hoff, hcsoff⟩ := List.getElem?_eq_some_iff.1 hcs
            have hcell := hh off hoff
            rw [hcsoff] at hcell
            generalize hv : vs.getD off Go.undef = v at hcell
            cases hcell with | own _ _ _ _ hrl htail =>
            have hdb : (σ.get d).isBox = false := by rw [← hgd d hd]; exact hbox
            have hrun : (execOp a.eval o).run P w = .ok (.value v) w := by
              have : w.cell? ⟨G.β (.o i), off, none⟩ = some v := by rw [← hv]; exact cell_at hw (by omega)
              simp [execOp, hop, hpt, Instr.loadAt, Instr.sureAddr, loadVar, hT.isAgg ht, htk.2, this]
            refine wp_value hnd hrun (hn (G.move (.oc i off) (.s d)) _ _ ?_ (Ext.move m G w _ _))
            rw [hd]
            have hd' : d < a.tmps.size := by rw [R.size]; exact hlt
            have hpr := G.move_pres w (.oc i off) (.s d)
            refine ⟨?_, by simpa [Act.put, St.upd] using R.size, ?_, ?_, R.df.move (by simp)⟩
            · have hmove : RelH (G.move (.oc i off) (.s d)) (σ.heap.set i (.cells (cs.set off (.d (.list k l))))) w := by
                have key := R.h
                refine { sane := key.sane.move (by simp [Loc.root]), nh := by rw [List.length_set]; exact key.nh, objs := ?_, kept := key.kept, disj := ?_ }
                · intro j ob hj
                  by_cases hij : i = j
                  · subst hij
                    rw [List.getElem?_set_self (by exact (List.getElem?_eq_some_iff.1 hob).1)] at hj
                    injection hj with hj; subst hj
                    refine ⟨vs, e, by simp only [Gh.move, hO]; simp, hw, by simpa using hs, fun j hj => ?_, ?_⟩
                    · simp at hj
                      by_cases hjo : off = j
                      · subst hjo; simp only [List.getElem_set_self]; rw [hv]; exact .d _ _ _ hrl
                      · rw [List.getElem_set_ne hjo]
                        exact (hh j hj).pres R.h.sane hpr (by simp; exact fun e => hjo e.symm) (fun r' off' e => absurd e (AV.not_place (AV.isLocal_of_isCell (hc _ (List.getElem_mem hj))) r' off')) (fun t e => by cases e)
                    · intro c hcm
                      rcases List.mem_or_eq_of_mem_set hcm with hcm | rfl
                      · exact hc c hcm
                      · rfl
                  · rw [List.getElem?_set_ne hij] at hj
                    exact (key.objs j ob hj).pres key.sane (by rw [← key.nh]; exact (List.getElem?_eq_some_iff.1 hj).1) hpr (by simp) (by intro j'; simp; rintro rfl; exact absurd rfl hij)
                · intro b x f hO
                  obtain ⟨y, hy, rfl⟩ := move_O hO
                  exact key.disj b y f hy
              simpa [St.upd, hHσ] using hmove
            · intro t
              simp only [Act.put, getD_set _ _ _ _ hd', St.upd, St.get, esets, List.foldl_cons, List.foldl_nil, eget_eset]
              split
              · rename_i e; subst e
                exact .own _ _ _ _ hrl htail.move
              · exact (R.slots t).pres R.h.sane hpr (by simp) (fun _ _ _ => rfl) (fun t' e hb => ⟨rfl, by simp⟩)
            · intro t r'' off' ht
              simp only [St.upd, St.get, esets, List.foldl_cons, List.foldl_nil, eget_eset] at ht ⊢
              split at ht
              · cases ht
              · obtain ⟨cs', hcs'⟩ := R.places t r'' off' ht
                split
                · rename_i e; subst e; rw [hcs'] at hdb; simp [AV.isBox] at hdb
                · exact ⟨cs', hcs'⟩
          · exact ordinary h
        · exact ordinary h
      · rename_i ob' hnc heq
        injection heq with heq
        subst heq
        exact ordinary h
      · rename_i heq; cases heq
  · rename_i td cs ht hA
    obtain ⟨av, hav, hp⟩ := putO_some h
    exact plain td _ av ht hA hp hav
  · simp at h
end
end Go.Am
