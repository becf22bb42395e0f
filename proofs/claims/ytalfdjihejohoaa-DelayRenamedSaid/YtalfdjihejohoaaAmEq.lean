/- Own text: AmEq. -/
import Derived.Test.YtalfdjihejohoaaAmOps
import Derived.Laws.StructEq
import Derived.ChangeKeysEq
import Derived.DeepKeys3
import Derived.MapKept
set_option linter.unusedSimpArgs false
set_option linter.unusedSectionVars false
namespace Go.Am
open Go
def Gh.move (G : Gh) (ℓ ℓ' : Loc) : Gh :=
  { G with O := fun b => match G.O b with
      | some (x, f) => some (if x = ℓ then ℓ' else x, f)
      | none => none }
theorem move_O {G : Gh} {ℓ ℓ' : Loc} {b : Nat} {x : Loc} {f : Nat} (h : (G.move ℓ ℓ').O b = some (x, f)) : ∃ y, G.O b = some (y, f) ∧ x = if y = ℓ then ℓ' else y := by
  simp only [Gh.move] at h
  split at h
  · rename_i y f' hO
    simp at h
    obtain ⟨h1, h2⟩ := h
    exact ⟨y, by rw [hO, h2], h1.symm⟩
  · simp at h
theorem Gh.move_pres (G : Gh) (w : World) (ℓ ℓ' : Loc) : Pres G (G.move ℓ ℓ') w w (fun x => x ≠ ℓ) where
  K := KLe.refl _
  O b x f hx hO := by simp [Gh.move, hO, hx]
  β _ _ := rfl
  nh := Nat.le_refl _
theorem Tail.move {G : Gh} {w : World} {ℓ ℓ' : Loc} {k : Nat} {v : Value} (h : Tail G w ℓ k v) : Tail (G.move ℓ ℓ') w ℓ' k v := by
  intro a n cap hv hn
  obtain ⟨f, c, e, h1, h2, h3, h4⟩ := h a n cap hv hn
  exact ⟨f, c, e, by simp [Gh.move, h1], h2, h3, h4⟩
theorem Sane.move {G : Gh} (h : Sane G) {ℓ ℓ' : Loc} (h0 : ℓ'.root ≠ .no) : Sane (G.move ℓ ℓ') := ⟨fun b x f hO => by
  obtain ⟨y, hy, rfl⟩ := move_O hO
  split
  · exact h0
  · exact h.no b y f hy⟩
theorem RelH.move {G : Gh} {H : List Obj} {w : World} (R : RelH G H w) (ℓ ℓ' : Loc) (h0 : ℓ'.root ≠ .no)
    (ho : ∀ (i : Nat) (ob : Obj), H[i]? = some ob → RepObj (G.move ℓ ℓ') w i ob) : RelH (G.move ℓ ℓ') H w where
  sane := R.sane.move h0
  nh := R.nh
  objs := ho
  kept := R.kept
  disj b x f hO := by
    obtain ⟨y, hy, rfl⟩ := move_O hO
    exact R.disj b y f hy
theorem Ext.move (m : Nat) (G : Gh) (w : World) (ℓ ℓ' : Loc) : Ext m G w (G.move ℓ ℓ') w where
  K := KLe.refl _
  new x v h := .inl h
  others b _ hO := ⟨rfl, by simp [Gh.move, hO]⟩
  size := Nat.le_refl _
  β _ _ := rfl
  io := ⟨rfl, rfl, fun _ => rfl⟩
theorem RelF.move {G : Gh} {ds : List Deferred} {w : World} (h : RelF G ds w) {ℓ ℓ' : Loc} (hl : ℓ ≠ .df) : RelF (G.move ℓ ℓ') ds w :=
  ⟨h.1, fun d hd => by
    obtain ⟨r, h1, h2, h3⟩ := h.2 d hd
    exact ⟨r, h1, by simp [Gh.move, h2, Ne.symm hl], h3⟩⟩
theorem taken_some {T : Types} {an : Ann} {g : Nat → AV} {t : TypeId} {x : Operand} {v : AV} {ss : Sets} (h : taken T an g t x = some (v, ss)) :
    (ss = [] ∧ v.isLocal = false ∧ ∀ {σ G a w}, Less g σ → Rel G σ a w → ∀ ℓ, RepV G w ℓ v (a.eval x)) ∨
    ∃ s k l, x = .tmp s ∧ g s = .own k l ∧ v = .own k l ∧ ss = [(s, .d (.list k l))] := by
  unfold taken at h
  split at h
  · rename_i s
    split at h
    · split at h
      · rename_i k l hgs
        simp at h
        exact .inr ⟨s, k, l, rfl, hgs, h.1.symm, h.2.symm⟩
      · simp at h
        obtain ⟨rfl, rfl⟩ := h
        exact .inl ⟨rfl, AV.copy_isLocal _, fun hg R ℓ => (hg.rep R s).copy ℓ⟩
    · simp at h
      obtain ⟨rfl, rfl⟩ := h
      exact .inl ⟨rfl, AV.copy_isLocal _, fun hg R ℓ => (hg.rep R s).copy ℓ⟩
  · simp at h
    obtain ⟨y, hy, rfl, rfl⟩ := h
    refine .inl ⟨rfl, ?_, fun hg R ℓ => (opv_ok hg R hy ℓ).1⟩
    cases x with
    | tmp i => rename_i hx; exact absurd rfl (hx i)
    | const v => exact (constAV_ok hy ⟨fun _ => none, fun _ => none, fun _ => 0, 0⟩ default .no).2
    | func f => simp [opv] at hy; subst hy; rfl
    | global k => simp [opv] at hy
section
variable {P : Program} {T : Types} {σ : St} {g : Nat → AV} {o : Oper} {ss : Sets} {h' : Option (List Obj)} {H : List Obj} {an : Ann}
  (hg : Less g σ) (hgd : ∀ d, o.dst = some d → g d = σ.get d) (h : evBase Ar.std T an σ.n g H o = some (ss, h'))
include hg hgd h
theorem step_move {x : Operand} (hop : o.op = .move x ∨ o.op = .assign x) : StepOk P σ o ss h' := by
  have hrun : ∀ (a : Act) (w : World), (execOp a.eval o).run P w = .ok (.value (a.eval x)) w := by
    intro a w
    rcases hop with hop | hop <;> simp [execOp, hop]
  have hnd : ∀ c, o.op ≠ .defer c := by rcases hop with hop | hop <;> simp [hop]
  have h : (match taken T an g o.type x, o.dst with
    | some (v, ss), some d => if (decide (d < σ.n) && !(g d).isBox && !(slotOf x).contains d) = true then some (ss ++ [(d, v)], none) else none
    | _, _ => none) = some (ss, h') := by
    rcases hop with hop | hop <;> (simp only [evBase, hop] at h; exact h)
  split at h
  · rename_i v ss0 d hv hd
    split at h
    · rename_i hc
      simp at hc
      obtain ⟨⟨hlt, hbox⟩, hne⟩ := hc
      simp at h
      obtain ⟨rfl, rfl⟩ := h
      rcases taken_some hv with ⟨rfl, hl, hrep⟩ | ⟨s, k, l, rfl, hgs, rfl, rfl⟩
      · refine stepOk_pure (v := v) hgd (by simp [Am.put, hd, hlt, hbox]) hnd (AV.free_place hl) ?_
        intro G a w R
        exact ⟨_, hrun a w, fun d => hrep hg R _⟩
      · intro r n m G a w Q next hm R hn
        have hs : σ.get s = .own k l := hg.eq hgs (by simp)
        have hsd : s ≠ d := by simpa [slotOf, eq_comm] using hne
        have hrep := R.slots s
        rw [hs] at hrep
        cases hrep with | own _ _ _ _ hr ht =>
        refine wp_value hnd (hrun a w) (hn (G.move (.s s) (.s d)) _ _ ?_ (Ext.move m G w _ _))
        rw [hd]
        have hd' : d < a.tmps.size := by rw [R.size]; exact hlt
        have hdb : (σ.get d).isBox = false := by rw [← hgd d hd]; exact hbox
        have hpr := G.move_pres w (.s s) (.s d)
        refine ⟨R.h.move _ _ (by simp [Loc.root]) ?_, by simpa [Act.put, St.upd] using R.size, ?_, ?_, R.df.move (by simp)⟩
        · intro i ob hob
          exact (R.h.objs i ob hob).pres R.h.sane (by rw [← R.h.nh]; exact (List.getElem?_eq_some_iff.1 hob).1) hpr (by simp) (by simp)
        · intro t
          simp only [Act.put, getD_set _ _ _ _ hd', St.upd, St.get, esets, List.cons_append, List.nil_append, List.foldl_cons, List.foldl_nil, eget_eset]
          split
          · rename_i e; subst e
            exact .own _ _ _ _ hr ht.move
          · split
            · rename_i e; subst e; exact .d _ _ _ hr
            · rename_i e1 e2
              exact (R.slots t).pres R.h.sane hpr (by simp; exact fun e => e2 e.symm) (fun _ _ _ => rfl) (fun _ _ _ => ⟨rfl, by simp⟩)
        · intro t r' off ht
          simp only [St.upd, St.get, esets, List.cons_append, List.nil_append, List.foldl_cons, List.foldl_nil, eget_eset] at ht ⊢
          split at ht
          · cases ht
          · split at ht
            · cases ht
            · obtain ⟨cs, hcs⟩ := R.places t r' off ht
              refine ⟨cs, ?_⟩
              split
              · rename_i e; subst e; rw [hcs] at hdb; simp [AV.isBox] at hdb
              · split
                · rename_i e; subst e; rw [hcs] at hs; cases hs
                · exact hcs
    · simp at h
  · simp at h
end
section
variable {P : Program} {T : Types} (hT : TOk P T) {σ : St} {g : Nat → AV} {o : Oper} {ss : Sets} {h' : Option (List Obj)} {H : List Obj} {an : Ann}
  (hg : Less g σ) (hgd : ∀ d, o.dst = some d → g d = σ.get d) (hH : ∀ (i : Nat) (ob : Obj), H[i]? = some ob → σ.heap[i]? = some ob) (h : evBase Ar.std T an σ.n g H o = some (ss, h'))
theorem cell_block {w : World} {b : Nat} {vs : Array Value} {e : TypeId} (hb : w.heap[b]? = some (.cells vs e (0, 0))) (j : Nat) : w.cell? ⟨b, j, none⟩ = vs[j]? := by
  simp [World.cell?, hb]
theorem cell_at {w : World} {b : Nat} {vs : Array Value} {e : TypeId} (hb : w.heap[b]? = some (.cells vs e (0, 0))) {j : Nat} (hj : j < vs.size) : w.cell? ⟨b, j, none⟩ = some (vs.getD j Go.undef) := by
  rw [cell_block hb]; simp [Array.getD, hj]
theorem box_rep {G : Gh} {a : Act} {w : World} (R : Rel G σ a w) {r : Nat} {cs : List AV} (hr : σ.get r = .lbox cs) :
    ∃ (vs : Array Value) (e : TypeId), G.O (G.β (.s r)) = some (.s r, 0) ∧ w.heap[G.β (.s r)]? = some (.cells vs e (0, 0)) ∧ vs.size = cs.length ∧
      (∀ (j : Nat) (hj : j < cs.length), RepV G w (.sc r j) cs[j] (vs.getD j Go.undef)) ∧ (∀ c ∈ cs, c.isCell = true) ∧ a.tmps.getD r Go.undef = .pointer (some ⟨G.β (.s r), 0, none⟩) := by
  have := R.slots r
  rw [hr] at this
  generalize hv : a.tmps.getD r Go.undef = v at this
  cases this with | lbox _ _ vs e hO hw hs hh hc => exact ⟨vs, e, hO, hw, hs, hh, hc, rfl⟩
def ReadsAs (σ : St) (td : TD) (A : Adr) (av : AV) : Prop :=
  match A with
  | .slot _ off cs => readAt td cs off = some av
  | .obj a off => ∃ ob cs, σ.heap[a]? = some ob ∧ objCells ob = some cs ∧ readAt td cs off = some av
  | .cells cs => readAt td (cs.map .d) 0 = some av
include hT in
theorem load_run {t : TypeId} {td : TD} (ht : T t = some td) {A : Adr} {G : Gh} {a : Act} {w : World} (R : Rel G σ a w) {b off : Nat} (hA : AdrRep G σ A (.pointer (some ⟨b, off, none⟩))) {av : AV} (hav : ReadsAs σ td A av) :
    ∃ v, (loadVar t ⟨b, off, none⟩).run P w = .ok v w ∧ av.free = true ∧ ∀ ℓ, RepV G w ℓ av v := by
  cases A with
  | slot r off' cs =>
    obtain ⟨hr, e⟩ := hA
    simp at e; obtain ⟨rfl, rfl⟩ := e
    obtain ⟨vs, e, hO, hw, hs, hh, hc, _⟩ := box_rep R hr
    have := loadVar_ok hT ht (G := G) (w := w) (b := G.β (.s r)) (o := 0) (off := off) (cs := cs) (vs := fun j => vs.getD j Go.undef)
      (fun j hj => by rw [Nat.zero_add]; exact cell_at hw (by omega)) (fun j hj => ⟨_, hh j hj⟩) hc hav
    simpa using this
  | obj i off' =>
    obtain ⟨hi, e⟩ := hA
    simp at e; obtain ⟨rfl, rfl⟩ := e
    obtain ⟨ob, cs, hob, hcs, hav⟩ := hav
    have hobj := R.h.objs i ob hob
    cases ob with
    | cells cs' =>
      simp [objCells] at hcs; subst hcs
      obtain ⟨vs, e, hO, hw, hs, hh, hc⟩ := hobj
      have := loadVar_ok hT ht (G := G) (w := w) (b := G.β (.o i)) (o := 0) (off := off) (cs := cs') (vs := fun j => vs.getD j Go.undef)
        (fun j hj => by rw [Nat.zero_add]; exact cell_at hw (by omega)) (fun j hj => ⟨_, hh j hj⟩) hc hav
      simpa using this
    | arr k l =>
      simp [objCells] at hcs; subst hcs
      obtain ⟨vs, e, hO, hw, hu, hs, h1, hh⟩ := hobj
      have hcell : ∀ c ∈ (D.flat l).map AV.d, c.isCell = true := isCell_of_rep h1 hh
      have := loadVar_ok hT ht (G := G) (w := w) (b := G.β (.o i)) (o := 0) (off := off) (cs := (D.flat l).map .d) (vs := fun j => vs.getD j Go.undef)
        (fun j hj => by rw [Nat.zero_add]; simp at hj; exact cell_at hw (by omega)) (fun j hj => ⟨.no, by have := RepV.d (G := G) (w := w) .no _ _ (hh j (by simpa using hj)); simpa using this⟩) hcell hav
      simpa using this
    | map ag ks es => simp [objCells] at hcs
    | dead => simp [objCells] at hcs
    | loop L => simp [objCells] at hcs
  | cells cs =>
    obtain ⟨b', off', vs, e, hK, h1, hh⟩ := hA
    simp at e; obtain ⟨rfl, rfl⟩ := e
    have hcell : ∀ c ∈ cs.map AV.d, c.isCell = true := isCell_of_rep h1 hh
    have := loadVar_ok hT ht (G := G) (w := w) (b := b) (o := off) (off := 0) (cs := cs.map .d) (vs := vs)
      (fun j hj => R.h.kept _ _ (hK j (by simpa using hj))) (fun j hj => ⟨.no, by have := RepV.d (G := G) (w := w) .no _ _ (hh j (by simpa using hj)); simpa using this⟩) hcell hav
    simpa using this
theorem adr_obj {x : Operand} {i off : Nat} (h : adr g x = some (.obj i off)) : ∃ j, x = .tmp j ∧ g j = .ptr i off := by
  unfold adr at h
  split at h
  · rename_i j
    split at h
    · simp at h
    · split at h <;> simp at h
    · rename_i a b hg; simp at h; obtain ⟨rfl, rfl⟩ := h; exact ⟨j, rfl, hg⟩
    · simp at h
    · simp at h
  · simp at h
include hT hg hgd hH h
theorem step_load {t : TypeId} {x : Operand} (hop : o.op = .load t x) (hHe : heapy an g o = true → H = σ.heap) : StepOk P σ o ss h' := by
  have hnd : ∀ c, o.op ≠ .defer c := by simp [hop]
  
  have plain : ∀ (td : TD) (A : Adr) (av : AV), T t = some td → adr g x = some A → Am.put σ.n g o.dst av = some (ss, h') →
      ReadsAs σ td A av → StepOk P σ o ss h' := by
    intro td A av ht hA hp hav r n m G a w Q next hm R hn
    have hAr := adr_ok hg R hA
    obtain ⟨b, off, hpt⟩ := hAr.pointer
    rw [hpt] at hAr
    obtain ⟨v, _, hfree, _⟩ := load_run hT ht R hAr hav
    refine stepOk_pure hgd hp hnd (AV.free_place (AV.free_isLocal hfree)) ?_ r n m G a w Q next hm R hn
    intro G a w R
    have hAr := adr_ok hg R hA
    obtain ⟨b, off, hpt⟩ := hAr.pointer
    rw [hpt] at hAr
    obtain ⟨v, hv, hfree, hrep⟩ := load_run hT ht R hAr hav
    exact ⟨v, by simp [execOp, hop, hpt, Instr.loadAt, Instr.sureAddr, hv], fun d => hrep _⟩
  simp only [evBase, hop] at h
  split at h
  · rename_i td r off cs ht hA
    have ordinary : putO σ.n g o.dst (readAt td cs off) = some (ss, h') → StepOk P σ o ss h' := by
      intro h
      obtain ⟨av, hav, hp⟩ := putO_some h
      exact plain td _ av ht hA hp hav
    split at h
    · rename_i d k l hd hcs
      split at h
      · rename_i htk
        simp at htk
        simp only [Option.map_eq_some_iff] at h
        obtain ⟨⟨ss1, h1⟩, hp, he⟩ := h
        simp at he
        obtain ⟨rfl, rfl⟩ := he
        obtain ⟨rfl, hcase⟩ := put_some hp
        rcases hcase with ⟨hdn, _⟩ | ⟨d', hd', rfl, hlt, hbox⟩
        · rw [hd] at hdn; cases hdn
        obtain rfl : d = d' := by rw [hd] at hd'; injection hd'
        intro r' n m G a w Q next hm R hn
        have hAr := adr_ok hg R hA
        obtain ⟨hr, hpt⟩ := hAr
        obtain ⟨vs, e, hO, hw, hs, hh, hc, hat⟩ := box_rep R hr
        obtain ⟨hoff, hcsoff⟩ := List.getElem?_eq_some_iff.1 hcs
        have hcell := hh off hoff
        rw [hcsoff] at hcell
        generalize hv : vs.getD off Go.undef = v at hcell
        cases hcell with | own _ _ _ _ hrl htail =>
        have hdb : (σ.get d).isBox = false := by rw [← hgd d hd]; exact hbox
        have hrd : r ≠ d := by rintro rfl; rw [hr] at hdb; simp [AV.isBox] at hdb
        have hrun : (execOp a.eval o).run P w = .ok (.value v) w := by
          have : w.cell? ⟨G.β (.s r), off, none⟩ = some v := by rw [← hv]; exact cell_at hw (by omega)
          simp [execOp, hop, hpt, Instr.loadAt, Instr.sureAddr, loadVar, hT.isAgg ht, htk.2, this]
        refine wp_value hnd hrun (hn (G.move (.sc r off) (.s d)) _ _ ?_ (Ext.move m G w _ _))
        rw [hd]
        have hd' : d < a.tmps.size := by rw [R.size]; exact hlt
        have hpr := G.move_pres w (.sc r off) (.s d)
        refine ⟨R.h.move _ _ (by simp [Loc.root]) ?_, by simpa [Act.put, St.upd] using R.size, ?_, ?_, R.df.move (by simp)⟩
        · intro i ob hob
          exact (R.h.objs i ob hob).pres R.h.sane (by rw [← R.h.nh]; exact (List.getElem?_eq_some_iff.1 hob).1) hpr (by simp) (by simp)
        · intro t
          simp only [Act.put, getD_set _ _ _ _ hd', St.upd, St.get, esets, List.cons_append, List.nil_append, List.foldl_cons, List.foldl_nil, eget_eset]
          split
          · rename_i e; subst e
            exact .own _ _ _ _ hrl htail.move
          · split
            · rename_i e; subst e
              rw [hat]
              refine .lbox _ _ vs e ?_ hw (by simpa using hs) (fun j hj => ?_) ?_
              · simp only [Gh.move, hO]; simp
              · simp at hj
                by_cases hjo : off = j
                · subst hjo; simp only [List.getElem_set_self]; rw [hv]; exact .d _ _ _ hrl
                · rw [List.getElem_set_ne hjo]
                  exact (hh j hj).pres R.h.sane hpr (by simp; exact fun e => hjo e.symm) (fun r' off' e => absurd e (AV.not_place (AV.isLocal_of_isCell (hc _ (List.getElem_mem hj))) r' off')) (fun t e => by cases e)
              · intro c hcm
                rcases List.mem_or_eq_of_mem_set hcm with hcm | rfl
                · exact hc c hcm
                · rfl
            · exact (R.slots t).pres R.h.sane hpr (by simp) (fun _ _ _ => rfl) (fun t' e hb => ⟨rfl, by intro j; simp; rintro rfl; rename_i e1 e2; simp at e; exact absurd e.symm e2⟩)
        · intro t r'' off' ht
          simp only [St.upd, St.get, esets, List.cons_append, List.nil_append, List.foldl_cons, List.foldl_nil, eget_eset] at ht ⊢
          split at ht
          · cases ht
          · split at ht
            · cases ht
            · obtain ⟨cs', hcs'⟩ := R.places t r'' off' ht
              split
              · rename_i e; subst e; rw [hcs'] at hdb; simp [AV.isBox] at hdb
              · split
                · exact ⟨_, rfl⟩
                · exact ⟨cs', hcs'⟩
      · exact ordinary h
    · exact ordinary h
  · rename_i td i off ht hA
    cases hHi : H[i]? with
    | none => simp [hHi] at h
    | some ob =>
      have hob := hH i ob hHi
      have ordinary : putO σ.n g o.dst ((objCells ob).bind (readAt td · off)) = some (ss, h') → StepOk P σ o ss h' := by
        intro h
        obtain ⟨av, hav, hp⟩ := putO_some h
        obtain ⟨cs, hcs, hav⟩ := Option.bind_eq_some_iff.1 hav
        exact plain td _ av ht hA hp ⟨ob, cs, hob, hcs, hav⟩
      simp only [hHi] at h
      split at h
      · rename_i cs heq
        injection heq with heq
        subst heq
        have ordinary : putO σ.n g o.dst (readAt td cs off) = some (ss, h') → StepOk P σ o ss h' := by
          intro h; exact ordinary (by simpa [objCells] using h)
        split at h
        · rename_i d k l hd hcs
          split at h
          · rename_i htk
            simp at htk
            simp only [Option.map_eq_some_iff] at h
            obtain ⟨⟨ss1, h1⟩, hp, he⟩ := h
            simp at he
            obtain ⟨rfl, rfl⟩ := he
            obtain ⟨rfl, hcase⟩ := put_some hp
            rcases hcase with ⟨hdn, _⟩ | ⟨d', hd', rfl, hlt, hbox⟩
            · rw [hd] at hdn; cases hdn
            obtain rfl : d = d' := by rw [hd] at hd'; injection hd'
            have hHσ : H = σ.heap := by
              obtain ⟨j, rfl, hgj⟩ := adr_obj hA
              exact hHe (by simp [heapy, hop, hgj])
            intro r' n m G a w Q next hm R hn
            have hAr := adr_ok hg R hA
            obtain ⟨hi, hpt⟩ := hAr
            obtain ⟨vs, e, hO, hw, hs, hh, hc⟩ := R.h.objs i _ hob
            obtain ⟨hoff, hcsoff⟩ := List.getElem?_eq_some_iff.1 hcs
            have hcell := hh off hoff
            rw [hcsoff] at hcell
            generalize hv : vs.getD off Go.undef = v at hcell
            cases hcell with | own _ _ _ _ hrl htail =>
            have hdb : (σ.get d).isBox = false := by rw [← hgd d hd]; exact hbox
            have hrun : (execOp a.eval o).run P w = .ok (.value v) w := by
              have : w.cell? ⟨G.β (.o i), off, none⟩ = some v := by rw [← hv]; exact cell_at hw (by omega)
              simp [execOp, hop, hpt, Instr.loadAt, Instr.sureAddr, loadVar, hT.isAgg ht, htk.2, this]
            refine wp_value hnd hrun (hn (G.move (.oc i off) (.s d)) _ _ ?_ (Ext.move m G w _ _))
            rw [hd]
            have hd' : d < a.tmps.size := by rw [R.size]; exact hlt
            have hpr := G.move_pres w (.oc i off) (.s d)
            refine ⟨?_, by simpa [Act.put, St.upd] using R.size, ?_, ?_, R.df.move (by simp)⟩
            · have hmove : RelH (G.move (.oc i off) (.s d)) (σ.heap.set i (.cells (cs.set off (.d (.list k l))))) w := by
                have key := R.h
                refine { sane := key.sane.move (by simp [Loc.root]), nh := by rw [List.length_set]; exact key.nh, objs := ?_, kept := key.kept, disj := ?_ }
                · intro j ob hj
                  by_cases hij : i = j
                  · subst hij
                    rw [List.getElem?_set_self (by exact (List.getElem?_eq_some_iff.1 hob).1)] at hj
                    injection hj with hj; subst hj
                    refine ⟨vs, e, by simp only [Gh.move, hO]; simp, hw, by simpa using hs, fun j hj => ?_, ?_⟩
                    · simp at hj
                      by_cases hjo : off = j
                      · subst hjo; simp only [List.getElem_set_self]; rw [hv]; exact .d _ _ _ hrl
                      · rw [List.getElem_set_ne hjo]
                        exact (hh j hj).pres R.h.sane hpr (by simp; exact fun e => hjo e.symm) (fun r' off' e => absurd e (AV.not_place (AV.isLocal_of_isCell (hc _ (List.getElem_mem hj))) r' off')) (fun t e => by cases e)
                    · intro c hcm
                      rcases List.mem_or_eq_of_mem_set hcm with hcm | rfl
                      · exact hc c hcm
                      · rfl
                  · rw [List.getElem?_set_ne hij] at hj
                    exact (key.objs j ob hj).pres key.sane (by rw [← key.nh]; exact (List.getElem?_eq_some_iff.1 hj).1) hpr (by simp) (by intro j'; simp; rintro rfl; exact absurd rfl hij)
                · intro b x f hO
                  obtain ⟨y, hy, rfl⟩ := move_O hO
                  exact key.disj b y f hy
              simpa [St.upd, hHσ] using hmove
            · intro t
              simp only [Act.put, getD_set _ _ _ _ hd', St.upd, St.get, esets, List.foldl_cons, List.foldl_nil, eget_eset]
              split
              · rename_i e; subst e
                exact .own _ _ _ _ hrl htail.move
              · exact (R.slots t).pres R.h.sane hpr (by simp) (fun _ _ _ => rfl) (fun t' e hb => ⟨rfl, by simp⟩)
            · intro t r'' off' ht
              simp only [St.upd, St.get, esets, List.foldl_cons, List.foldl_nil, eget_eset] at ht ⊢
              split at ht
              · cases ht
              · obtain ⟨cs', hcs'⟩ := R.places t r'' off' ht
                split
                · rename_i e; subst e; rw [hcs'] at hdb; simp [AV.isBox] at hdb
                · exact ⟨cs', hcs'⟩
          · exact ordinary h
        · exact ordinary h
      · rename_i ob' hnc heq
        injection heq with heq
        subst heq
        exact ordinary h
      · rename_i heq; cases heq
  · rename_i td cs ht hA
    obtain ⟨av, hav, hp⟩ := putO_some h
    exact plain td _ av ht hA hp hav
  · simp at h
end
end Go.Am

set_option linter.unusedSimpArgs false
set_option linter.unusedSectionVars false
namespace Go.Am
open Go
def Gh.own (G : Gh) (b : Nat) (ℓ : Loc) (f : Nat) : Gh := { G with O := fun x => if x = b then some (ℓ, f) else G.O x }
def Gh.at (G : Gh) (r : Root) (b : Nat) : Gh := { G with β := fun x => if x = r then b else G.β x }
theorem heap_alloc_lt {w : World} {o : Go.Obj} {b : Nat} (hb : b < w.heap.size) : (w.alloc o).heap[b]? = w.heap[b]? := by
  show (w.heap.push o)[b]? = _
  rw [Array.getElem?_push, if_neg (Nat.ne_of_lt hb)]
theorem heap_alloc_new {w : World} {o : Go.Obj} : (w.alloc o).heap[w.heap.size]? = some o := by
  show (w.heap.push o)[w.heap.size]? = _
  simp
theorem cell_alloc_old {w : World} {o : Go.Obj} {x : Addr} {v : Value} (h : w.cell? x = some v) : (w.alloc o).cell? x = some v := by
  have := World.block_lt_of_cell? w _ h
  unfold World.cell? at *
  rwa [heap_alloc_lt this]
theorem frozen?_alloc_new (w : World) (o : Go.Obj) (ho : ∀ c t f, o = .cells c t f → f = (0, 0)) (a : Addr) : (w.alloc o).frozen? a = w.frozen? a := by
  unfold World.frozen?
  by_cases h : a.block < w.heap.size
  · rw [heap_alloc_lt h]
  · rw [show w.heap[a.block]? = none by simp; omega]
    by_cases h2 : a.block = w.heap.size
    · rw [h2, heap_alloc_new]
      cases o with
      | cells c t f => obtain rfl := ho _ _ _ rfl; simp
      | _ => rfl
    · rw [show (w.alloc o).heap[a.block]? = none by simp; omega]
theorem Ext.alloc {m : Nat} {G : Gh} {w : World} {o : Go.Obj} {G' : Gh} (hK : KLe G.K G'.K) (hn : ∀ x v, G'.K x = some v → G.K x = some v ∨ w.heap.size ≤ x.block)
    (hO : ∀ b, b < w.heap.size → G.O b = none → G'.O b = none) (hβ : ∀ i, i < m → G'.β (.o i) = G.β (.o i)) (hf : ∀ a, (w.alloc o).frozen? a = w.frozen? a) : Ext m G w G' (w.alloc o) where
  K := hK
  new x v h := (hn x v h).imp id .inr
  others b hb h := ⟨heap_alloc_lt hb, hO b hb h⟩
  size := by simp
  β := hβ
  io := ⟨rfl, rfl, hf⟩
section
variable {P : Program} {σ : St} {g : Nat → AV} {o : Oper}
theorem step_newLocal {cs : List AV} {d : Nat} (hdst : o.dst = some d) (hlt : d < σ.n) (hun : σ.get d = .undef) (hnd : ∀ c, o.op ≠ .defer c) (hc : ∀ c ∈ cs, c.isCell = true)
    (hrun : ∀ G a w, Rel G σ a w → ∃ (vs : Array Value) (e : TypeId), (execOp a.eval o).run P w = .ok (.value (.pointer (some ⟨w.heap.size, 0, none⟩))) (w.alloc (.cells vs e)) ∧ vs.size = cs.length ∧
      ∀ (j : Nat) (hj : j < cs.length) (ℓ : Loc), RepV G w ℓ cs[j] (vs.getD j Go.undef)) : StepOk P σ o [(d, .lbox cs)] none := by
  intro r n m G a w Q next hm R hn
  obtain ⟨vs, e, hr, hs, hrep⟩ := hrun G a w R
  have hb : w.heap.size = w.heap.size := rfl
  let G' := (G.own w.heap.size (.s d) 0).at (.s d) w.heap.size
  have hOold : ∀ b x f, G.O b = some (x, f) → G'.O b = some (x, f) := by
    intro b x f h
    have := (R.h.disj b x f h).1
    simp [G', Gh.own, Gh.at, Nat.ne_of_lt this, h]
  have hpr : Pres G G' w (w.alloc (.cells vs e)) (fun _ => True) := by
    refine ⟨KLe.refl _, fun b x f _ h => ⟨hOold b x f h, heap_alloc_lt (R.h.disj b x f h).1⟩, fun i _ => by simp [G', Gh.own, Gh.at], Nat.le_refl _⟩
  refine wp_value hnd hr (hn G' _ _ ?_ (Ext.alloc (KLe.refl _) (fun x v h => .inl h) (fun b hb h => by simp [G', Gh.own, Gh.at, Nat.ne_of_lt hb, h]) (fun i _ => by simp [G', Gh.own, Gh.at]) (frozen?_alloc_new _ _ (fun _ _ _ e => by cases e; rfl))))
  rw [hdst]
  have hd' : d < a.tmps.size := by rw [R.size]; exact hlt
  have hnopl : ∀ t off, σ.get t ≠ .place d off := by
    intro t off e
    obtain ⟨cs, h⟩ := R.places t d off e
    rw [hun] at h; cases h
  refine ⟨⟨⟨fun b x f h => ?_⟩, R.h.nh, fun i ob hob => ?_, fun x v h => cell_alloc_old (R.h.kept x v h), fun b x f h => ?_⟩, by simpa [Act.put, St.upd] using R.size, ?_, ?_, ?_⟩
  · simp only [G', Gh.own, Gh.at] at h
    split at h
    · simp at h; rw [← h.1]; simp [Loc.root]
    · exact R.h.sane.no b x f h
  · exact (R.h.objs i ob hob).pres R.h.sane (by rw [← R.h.nh]; exact (List.getElem?_eq_some_iff.1 hob).1) hpr trivial (fun _ => trivial)
  · simp only [G', Gh.own, Gh.at] at h
    split at h
    · rename_i hbe; subst hbe
      simp at h
      refine ⟨by simp, fun j _ => ?_⟩
      cases hK : G.K ⟨w.heap.size, j, none⟩ with
      | none => simpa [G', Gh.own, Gh.at] using hK
      | some v => exact absurd (World.block_lt_of_cell? w _ (R.h.kept _ _ hK)) (by simp)
    · have := R.h.disj b x f h
      exact ⟨by simp; omega, this.2⟩
  · intro t
    simp only [Act.put, getD_set _ _ _ _ hd', St.upd, St.get, esets, List.foldl_cons, List.foldl_nil, eget_eset]
    split
    · rename_i e'; subst e'
      have hβ : G'.β (.s d) = w.heap.size := by simp [G', Gh.at]
      have := RepV.lbox (G := G') (w := w.alloc (.cells vs e)) d cs vs e (by rw [hβ]; simp [G', Gh.own, Gh.at]) (by rw [hβ]; exact heap_alloc_new) hs
        (fun j hj => (hrep j hj (.sc d j)).pres R.h.sane hpr trivial (fun r' off' e => absurd e (AV.not_place (AV.isLocal_of_isCell (hc _ (List.getElem_mem hj))) r' off')) (fun t e => by cases e)) hc
      rwa [hβ] at this
    · rename_i hne
      refine (R.slots t).pres R.h.sane hpr trivial (fun r' off e' => ?_) (fun t' e' hbx => ⟨?_, fun _ => trivial⟩)
      · have : r' ≠ d := by rintro rfl; exact hnopl t off e'
        simp [G', Gh.own, Gh.at, this]
      · simp at e'; subst e'
        simp [G', Gh.own, Gh.at, Ne.symm hne]
  · intro t r'' off' ht
    simp only [St.upd, St.get, esets, List.foldl_cons, List.foldl_nil, eget_eset] at ht ⊢
    split at ht
    · cases ht
    · obtain ⟨cs', hcs'⟩ := R.places t r'' off' ht
      split
      · exact ⟨_, rfl⟩
      · exact ⟨cs', hcs'⟩
  · refine ⟨R.df.1, fun x hx => ?_⟩
    obtain ⟨r0, h1, h2, h3⟩ := R.df.2 x hx
    exact ⟨r0, h1, hOold _ _ _ h2, by rw [heap_alloc_lt (R.h.disj _ _ _ h2).1]; exact h3⟩
theorem step_newObj {cs : List AV} {d : Nat} (hdst : o.dst = some d) (hlt : d < σ.n) (hun : σ.get d = .undef) (hnd : ∀ c, o.op ≠ .defer c) (hc : ∀ c ∈ cs, c.isCell = true)
    (hrun : ∀ G a w, Rel G σ a w → ∃ (vs : Array Value) (e : TypeId), (execOp a.eval o).run P w = .ok (.value (.pointer (some ⟨w.heap.size, 0, none⟩))) (w.alloc (.cells vs e)) ∧ vs.size = cs.length ∧
      ∀ (j : Nat) (hj : j < cs.length) (ℓ : Loc), RepV G w ℓ cs[j] (vs.getD j Go.undef)) : StepOk P σ o [(d, .ptr σ.heap.length 0)] (some (σ.heap ++ [.cells cs])) := by
  intro r n m G a w Q next hm R hn
  obtain ⟨vs, e, hr, hs, hrep⟩ := hrun G a w R
  let G' : Gh := { (G.own w.heap.size (.o G.nh) 0).at (.o G.nh) w.heap.size with nh := G.nh + 1 }
  have hOold : ∀ b x f, G.O b = some (x, f) → G'.O b = some (x, f) := by
    intro b x f h
    have := (R.h.disj b x f h).1
    simp [G', Gh.own, Gh.at, Nat.ne_of_lt this, h]
  have hβold : ∀ i, i < G.nh → G'.β (.o i) = G.β (.o i) := by
    intro i hi
    simp [G', Gh.own, Gh.at, Nat.ne_of_lt hi]
  have hpr : Pres G G' w (w.alloc (.cells vs e)) (fun _ => True) :=
    ⟨KLe.refl _, fun b x f _ h => ⟨hOold b x f h, heap_alloc_lt (R.h.disj b x f h).1⟩, hβold, Nat.le_succ _⟩
  refine wp_value hnd hr (hn G' _ _ ?_ (Ext.alloc (KLe.refl _) (fun x v h => .inl h) (fun b hb h => by simp [G', Gh.own, Gh.at, Nat.ne_of_lt hb, h]) (fun i hi => hβold i (by omega)) (frozen?_alloc_new _ _ (fun _ _ _ e => by cases e; rfl))))
  rw [hdst]
  have hd' : d < a.tmps.size := by rw [R.size]; exact hlt
  have hnopl : ∀ t off, σ.get t ≠ .place d off := by
    intro t off e
    obtain ⟨cs, h⟩ := R.places t d off e
    rw [hun] at h; cases h
  have hβn : G'.β (.o G.nh) = w.heap.size := by simp [G', Gh.at]
  refine ⟨⟨⟨fun b x f h => ?_⟩, ?_, fun i ob hob => ?_, fun x v h => cell_alloc_old (R.h.kept x v h), fun b x f h => ?_⟩, by simpa [Act.put, St.upd] using R.size, ?_, ?_, ?_⟩
  · simp only [G', Gh.own, Gh.at] at h
    split at h
    · simp at h; rw [← h.1]; simp [Loc.root]
    · exact R.h.sane.no b x f h
  · simp [St.upd, G', R.h.nh]
  · simp only [St.upd, Option.getD_some] at hob
    rcases Nat.lt_or_ge i σ.heap.length with hi | hi
    · rw [List.getElem?_append_left hi] at hob
      exact (R.h.objs i ob hob).pres R.h.sane (by rw [← R.h.nh]; exact hi) hpr trivial (fun _ => trivial)
    · have hi' : i = σ.heap.length := by
        have := (List.getElem?_eq_some_iff.1 hob).1
        simp at this; omega
      subst hi'
      simp at hob
      subst hob
      rw [R.h.nh]
      exact ⟨vs, e, by rw [hβn]; simp [G', Gh.own, Gh.at], by rw [hβn]; exact heap_alloc_new, hs,
        fun j hj => (hrep j hj _).pres R.h.sane hpr trivial (fun r' off' e => absurd e (AV.not_place (AV.isLocal_of_isCell (hc _ (List.getElem_mem hj))) r' off')) (fun t e => by cases e), hc⟩
  · simp only [G', Gh.own, Gh.at] at h
    split at h
    · rename_i hbe; subst hbe
      simp at h
      refine ⟨by simp, fun j _ => ?_⟩
      cases hK : G.K ⟨w.heap.size, j, none⟩ with
      | none => simpa [G', Gh.own, Gh.at] using hK
      | some v => exact absurd (World.block_lt_of_cell? w _ (R.h.kept _ _ hK)) (by simp)
    · have := R.h.disj b x f h
      exact ⟨by simp; omega, this.2⟩
  · intro t
    simp only [Act.put, getD_set _ _ _ _ hd', St.upd, St.get, esets, List.foldl_cons, List.foldl_nil, eget_eset]
    split
    · rename_i e'; subst e'
      have := RepV.ptr (G := G') (w := w.alloc (.cells vs e)) (.s d) G.nh 0 (by simp [G'])
      rw [hβn] at this
      rw [R.h.nh]; exact this
    · refine (R.slots t).pres R.h.sane hpr trivial (fun r' off e' => by simp [G', Gh.own, Gh.at]) (fun t' e' hbx => ⟨by simp [G', Gh.own, Gh.at], fun _ => trivial⟩)
  · intro t r'' off' ht
    simp only [St.upd, St.get, esets, List.foldl_cons, List.foldl_nil, eget_eset] at ht ⊢
    split at ht
    · cases ht
    · obtain ⟨cs', hcs'⟩ := R.places t r'' off' ht
      split
      · rename_i e; subst e; exact absurd ht (hnopl t off')
      · exact ⟨cs', hcs'⟩
  · refine ⟨R.df.1, fun x hx => ?_⟩
    obtain ⟨r0, h1, h2, h3⟩ := R.df.2 x hx
    exact ⟨r0, h1, hOold _ _ _ h2, by rw [heap_alloc_lt (R.h.disj _ _ _ h2).1]; exact h3⟩
end
theorem AV.undef_of {c : AV} (h : c.isUndef = true) : c = .undef := by cases c <;> first | rfl | (simp [AV.isUndef] at h)
theorem cells_anywhere {G : Gh} {w : World} {c : AV} {v : Value} (h : ∀ ℓ, RepV G w ℓ c v) (hl : c.isLocal = false) (hc : ∀ x ∈ c.cells, x.isCell = true) :
    v.cells.size = c.cells.length ∧ ∀ (i : Nat) (hi : i < c.cells.length) (ℓ : Loc), RepV G w ℓ c.cells[i] (v.cells.getD i Go.undef) := by
  by_cases hf : c.free = true
  · refine (h .no).cells hf ?_ ?_
    · rintro rfl; simp [AV.cells, AV.isCell] at hc
    · rintro l rfl; simp [AV.cells, AV.isCell] at hc
  · cases c <;> first | (simp [AV.free] at hf; done) | (simp [AV.isLocal] at hl; done) | skip
    all_goals
    rename_i k l
    have hv : v.cells = #[v] := by
      have := h .no
      cases this
      rename_i hr
      cases hr <;> rfl
    refine ⟨by rw [hv]; rfl, fun i hi ℓ => ?_⟩
    have : i = 0 := by simpa [AV.cells] using hi
    subst this
    simpa [AV.cells, hv] using h ℓ
section
variable {P : Program} {T : Types} (hT : TOk P T) {σ : St} {g : Nat → AV} {o : Oper} {ss : Sets} {h' : Option (List Obj)} {H : List Obj} {an : Ann}
  (hg : Less g σ) (hgd : ∀ d, o.dst = some d → g d = σ.get d) (hHe : heapy an g o = true → H = σ.heap) (h : evBase Ar.std T an σ.n g H o = some (ss, h'))
include hT hg hgd hHe h
theorem step_alloc {t : TypeId} (hop : o.op = .alloc t) : StepOk P σ o ss h' := by
  simp only [evBase, hop] at h
  split at h
  · rename_i td d ht hd
    split at h
    · rename_i hc
      simp at hc
      have hun : σ.get d = .undef := by rw [← hgd d hd]; exact AV.undef_of hc.2
      obtain ⟨i, dd, hi, hdd, hsz, _, huok, z, hz, hzs, hzl, hzc⟩ := hT.info ht
      have hcell : ∀ c ∈ td.zero, c.isCell = true := by
        intro c hcm
        obtain ⟨j, hj, rfl⟩ := List.mem_iff_getElem.1 hcm
        exact (zeroCell_ok (hzc j hj)).2.1
      have hrun : ∀ G a w, Rel G σ a w → ∃ (vs : Array Value) (e : TypeId), (execOp a.eval o).run P w = .ok (.value (.pointer (some ⟨w.heap.size, 0, none⟩))) (w.alloc (.cells vs e)) ∧ vs.size = td.zero.length ∧
          ∀ (j : Nat) (hj : j < td.zero.length) (ℓ : Loc), RepV G w ℓ td.zero[j] (vs.getD j Go.undef) := by
        intro G a w R
        refine ⟨z.cells, t, ?_, by omega, fun j hj ℓ => (zeroCell_ok (hzc j hj)).1 G w ℓ⟩
        simp [execOp, hop, Instr.alloc, zeroValue, typeInfo, hi, hz, newVar, newRow]
      split at h
      · rename_i hesc
        have hHσ : H = σ.heap := hHe (by simp [heapy, hop, hd]; left; simpa using hesc)
        simp at h
        obtain ⟨rfl, rfl⟩ := h
        rw [hHσ]
        exact step_newObj hd hc.1 hun (by simp [hop]) hcell hrun
      · simp at h
        obtain ⟨rfl, rfl⟩ := h
        exact step_newLocal hd hc.1 hun (by simp [hop]) hcell hrun
    · simp at h
  · simp at h
theorem step_box {t : TypeId} {x : Operand} (hop : o.op = .box t x) : StepOk P σ o ss h' := by
  simp only [evBase, hop] at h
  split at h
  · rename_i td v d ht hv hd
    split at h
    · rename_i hc
      simp at hc
      obtain ⟨⟨⟨hlt, hu⟩, hlen⟩, hcell⟩ := hc
      have hun : σ.get d = .undef := by rw [← hgd d hd]; exact AV.undef_of hu
      have hrun : ∀ G a w, Rel G σ a w → ∃ (vs : Array Value) (e : TypeId), (execOp a.eval o).run P w = .ok (.value (.pointer (some ⟨w.heap.size, 0, none⟩))) (w.alloc (.cells vs e)) ∧ vs.size = v.cells.length ∧
          ∀ (j : Nat) (hj : j < v.cells.length) (ℓ : Loc), RepV G w ℓ v.cells[j] (vs.getD j Go.undef) := by
        intro G a w R
        have hv' := fun ℓ => opv_ok hg R hv ℓ
        obtain ⟨h1, h2⟩ := cells_anywhere (fun ℓ => (hv' ℓ).1) (hv' .no).2 hcell
        exact ⟨(a.eval x).cells, t, by simp [execOp, hop, Instr.box, newVar, newRow], h1, h2⟩
      split at h
      · rename_i hesc
        have hHσ : H = σ.heap := hHe (by simp [heapy, hop, hd]; left; simpa using hesc)
        simp at h
        obtain ⟨rfl, rfl⟩ := h
        rw [hHσ]
        exact step_newObj hd hlt hun (by simp [hop]) hcell hrun
      · simp at h
        obtain ⟨rfl, rfl⟩ := h
        exact step_newLocal hd hlt hun (by simp [hop]) hcell hrun
    · simp at h
  · simp at h
end
end Go.Am

set_option linter.unusedSimpArgs false
set_option linter.unusedSectionVars false
namespace Go.Am
open Go
theorem write_get {α : Type} (l nv : List α) (off j : Nat) (h : off + nv.length ≤ l.length) :
    (l.take off ++ nv ++ l.drop (off + nv.length))[j]? = if j < off then l[j]? else if j < off + nv.length then nv[j - off]? else l[j]? := by
  have h1 : (l.take off).length = off := by simp; omega
  by_cases hj : j < off
  · rw [if_pos hj, List.append_assoc, List.getElem?_append_left (by omega), List.getElem?_take_of_lt hj]
  · rw [if_neg hj]
    by_cases hj2 : j < off + nv.length
    · rw [if_pos hj2, List.append_assoc, List.getElem?_append_right (by omega), h1, List.getElem?_append_left (by omega)]
    · rw [if_neg hj2, List.getElem?_append_right (by simp; omega), List.getElem?_drop]
      congr 1
      simp; omega
theorem write_length {α : Type} (l nv : List α) (off : Nat) (h : off + nv.length ≤ l.length) : (l.take off ++ nv ++ l.drop (off + nv.length)).length = l.length := by
  simp; omega
def rowOf (cur : Array Value) (off : Nat) (vs : List Value) : Array Value := (cur.toList.take off ++ vs ++ cur.toList.drop (off + vs.length)).toArray
theorem rowOf_size {cur : Array Value} {off : Nat} {vs : List Value} (h : off + vs.length ≤ cur.size) : (rowOf cur off vs).size = cur.size := by
  simp [rowOf]; omega
theorem rowOf_get {cur : Array Value} {off : Nat} {vs : List Value} (h : off + vs.length ≤ cur.size) (j : Nat) :
    (rowOf cur off vs).getD j Go.undef = if j < off then cur.getD j Go.undef else if j < off + vs.length then vs.getD (j - off) Go.undef else cur.getD j Go.undef := by
  have := write_get cur.toList vs off j (by simpa using h)
  simp only [rowOf, Array.getD_eq_getD_getElem?, List.getElem?_toArray, this]
  split
  · simp
  · split
    · simp [List.getD]
    · simp
theorem written {G' : Gh} {w' : World} {cs nv : List AV} {cur : Array Value} {vs : List Value} {off : Nat} {L : Nat → Loc} (hs : cur.size = cs.length) (hoff : off + nv.length ≤ cs.length) (hlen : vs.length = nv.length)
    (hold : ∀ (j : Nat) (hj : j < cs.length), RepV G' w' (L j) cs[j] (cur.getD j Go.undef)) (hnew : ∀ (j : Nat) (hj : j < nv.length), RepV G' w' (L (off + j)) nv[j] (vs.getD j Go.undef))
    (hc : ∀ c ∈ cs, c.isCell = true) (hcn : ∀ c ∈ nv, c.isCell = true) :
    (rowOf cur off vs).size = (writeAt cs off nv).length ∧ (∀ (j : Nat) (hj : j < (writeAt cs off nv).length), RepV G' w' (L j) (writeAt cs off nv)[j] ((rowOf cur off vs).getD j Go.undef)) ∧ ∀ c ∈ writeAt cs off nv, c.isCell = true := by
  have hl : (writeAt cs off nv).length = cs.length := write_length _ _ _ hoff
  refine ⟨by rw [rowOf_size (by omega), hl, hs], fun j hj => ?_, ?_⟩
  · rw [rowOf_get (by omega)]
    have e := write_get cs nv off j hoff
    have hj' : j < cs.length := by omega
    have e2 : (writeAt cs off nv)[j]? = some (writeAt cs off nv)[j] := List.getElem?_eq_getElem hj
    rw [show (writeAt cs off nv)[j]? = _ from e] at e2
    split
    · rename_i h1
      rw [if_pos h1, List.getElem?_eq_getElem hj'] at e2
      injection e2 with e2
      rw [← e2]; exact hold j hj'
    · rename_i h1
      rw [if_neg h1] at e2
      split
      · rename_i h2
        rw [if_pos (by omega), List.getElem?_eq_getElem (by omega)] at e2
        injection e2 with e2
        rw [← e2]
        have := hnew (j - off) (by omega)
        rwa [show off + (j - off) = j by omega] at this
      · rename_i h2
        rw [if_neg (by omega), List.getElem?_eq_getElem hj'] at e2
        injection e2 with e2
        rw [← e2]; exact hold j hj'
  · intro c hcm
    unfold writeAt at hcm
    rcases List.mem_append.1 hcm with hcm | hcm
    · rcases List.mem_append.1 hcm with hcm | hcm
      · exact hc c (List.mem_of_mem_take hcm)
      · exact hcn c hcm
    · exact hc c (List.mem_of_mem_drop hcm)
theorem setRow_pres {G : Gh} {w : World} {b : Nat} {ℓ : Loc} (hO : G.O b = some (ℓ, 0)) (row : Array Value) : Pres G G w (w.setRow b row) (fun x => x ≠ ℓ) :=
  ⟨KLe.refl _, fun b' x f hx h => ⟨h, setRow_other _ _ _ _ (by rintro rfl; rw [hO] at h; simp at h; exact hx h.1.symm)⟩, fun _ _ => rfl, Nat.le_refl _⟩
theorem frozen?_setRow' (w : World) (b : Nat) (row : Array Value) (a : Addr) : (w.setRow b row).frozen? a = w.frozen? a := by
  unfold World.frozen?
  by_cases h : a.block = b
  · subst h
    cases hw : w.heap[a.block]? with
    | none => simp [World.setRow, Array.getElem?_modify, hw]
    | some o => cases o <;> simp [World.setRow, Array.getElem?_modify, hw]
  · rw [setRow_other _ _ _ _ h]
theorem Ext.setRow {m : Nat} {G : Gh} {w : World} {b : Nat} {p : Loc × Nat} (hO : G.O b = some p) (row : Array Value) : Ext m G w G (w.setRow b row) where
  K := KLe.refl _
  new x v h := .inl h
  others b' _ h := ⟨setRow_other _ _ _ _ (by rintro rfl; rw [hO] at h; cases h), h⟩
  size := by simp
  β _ _ := rfl
  io := ⟨rfl, rfl, frozen?_setRow' _ _ _⟩
theorem kept_setRow {G : Gh} {w : World} {b : Nat} {ℓ : Loc} (hk : ∀ x v, G.K x = some v → w.cell? x = some v) (hd : ∀ j, G.K ⟨b, j, none⟩ = none) (hO : G.O b = some (ℓ, 0)) (row : Array Value) :
    ∀ x v, G.K x = some v → (w.setRow b row).cell? x = some v := by
  intro x v h
  have hx := hk x v h
  have hne : x.block ≠ b := by
    rintro rfl
    have hspot : x.spot = none := by
      unfold World.cell? at hx
      split at hx
      · split at hx
        · cases hx
        · rename_i hsp; simpa using hsp
      · cases hx
    obtain ⟨b, j, s⟩ := x
    simp at hspot; subst hspot
    rw [hd j] at h; cases h
  rw [cell_setRow_other _ _ _ _ hne]; exact hx
theorem storeSlot_core {G : Gh} {σ : St} {a : Act} {w : World} (R : Rel G σ a w) {r off : Nat} {cs nv : List AV} {cur : Array Value} {vs : List Value} {e : TypeId} (hr : σ.get r = .lbox cs)
    (hw : w.heap[G.β (.s r)]? = some (.cells cur e (0, 0))) (hoff : off + nv.length ≤ cs.length) (hlen : vs.length = nv.length)
    (hnew : ∀ (j : Nat) (hj : j < nv.length), RepV G w (.sc r (off + j)) nv[j] (vs.getD j Go.undef)) (hcn : ∀ c ∈ nv, c.isCell = true) :
    Rel G (σ.upd [(r, .lbox (writeAt cs off nv))] none) a (w.setRow (G.β (.s r)) (rowOf cur off vs)) := by
  obtain ⟨vs0, e0, hO, hw0, hs, hh, hc, hat⟩ := box_rep R hr
  rw [hw] at hw0
  injection hw0 with hw0; injection hw0 with h1 h2 h3; subst h1 h2
  have hpr := setRow_pres (w := w) hO (rowOf cur off vs)
  have hnp : ∀ {c : AV}, c.isCell = true → ∀ r' off', c = .place r' off' → G.β (.s r') = G.β (.s r') := fun _ _ _ _ => rfl
  obtain ⟨k1, k2, k3⟩ := written (L := fun j => .sc r j) hs hoff hlen
    (fun j hj => (hh j hj).pres R.h.sane hpr (by simp) (fun _ _ _ => rfl) (fun t e => by cases e))
    (fun j hj => (hnew j hj).pres R.h.sane hpr (by simp) (fun _ _ _ => rfl) (fun t e => by cases e)) hc hcn
  refine ⟨⟨R.h.sane, R.h.nh, fun i ob hob => ?_, kept_setRow R.h.kept (fun j => (R.h.disj _ _ _ hO).2 j (Nat.zero_le _)) hO _, fun b ℓ f h => ?_⟩, by simpa [St.upd] using R.size, ?_, ?_, ?_⟩
  · exact (R.h.objs i ob hob).pres R.h.sane (by rw [← R.h.nh]; exact (List.getElem?_eq_some_iff.1 hob).1) hpr (by simp) (by simp)
  · have := R.h.disj b ℓ f h; exact ⟨by simpa using this.1, this.2⟩
  · intro t
    simp only [St.upd, St.get, esets, List.foldl_cons, List.foldl_nil, eget_eset]
    split
    · rename_i e'; subst e'
      rw [hat]
      exact .lbox r _ _ e hO (setRow_heap _ _ _ _ _ _ hw) k1 k2 k3
    · rename_i hne
      exact (R.slots t).pres R.h.sane hpr (by simp; exact fun e => hne e.symm) (fun _ _ _ => rfl) (fun t' e' _ => ⟨rfl, fun j => by simp⟩)
  · intro t r'' off' ht
    simp only [St.upd, St.get, esets, List.foldl_cons, List.foldl_nil, eget_eset] at ht ⊢
    split at ht
    · cases ht
    · obtain ⟨cs', hcs'⟩ := R.places t r'' off' ht
      split
      · exact ⟨_, rfl⟩
      · exact ⟨cs', hcs'⟩
  · refine ⟨R.df.1, fun x hx => ?_⟩
    obtain ⟨r0, h1, h2, h3⟩ := R.df.2 x hx
    exact ⟨r0, h1, h2, by rw [setRow_other _ _ _ _ (by rintro rfl; rw [hO] at h2; cases h2)]; exact h3⟩
theorem storeObj_core {G : Gh} {σ : St} {a : Act} {w : World} (R : Rel G σ a w) {i off : Nat} {cs nv : List AV} {cur : Array Value} {vs : List Value} {e : TypeId} (hi : σ.heap[i]? = some (.cells cs))
    (hw : w.heap[G.β (.o i)]? = some (.cells cur e (0, 0))) (hoff : off + nv.length ≤ cs.length) (hlen : vs.length = nv.length)
    (hnew : ∀ (j : Nat) (hj : j < nv.length), RepV G w (.oc i (off + j)) nv[j] (vs.getD j Go.undef)) (hcn : ∀ c ∈ nv, c.isCell = true) :
    Rel G (σ.upd [] (some (σ.heap.set i (.cells (writeAt cs off nv))))) a (w.setRow (G.β (.o i)) (rowOf cur off vs)) := by
  obtain ⟨vs0, e0, hO, hw0, hs, hh, hc⟩ := R.h.objs i _ hi
  rw [hw] at hw0
  injection hw0 with hw0; injection hw0 with h1 h2 h3; subst h1 h2
  have hpr := setRow_pres (w := w) hO (rowOf cur off vs)
  obtain ⟨k1, k2, k3⟩ := written (L := fun j => .oc i j) hs hoff hlen
    (fun j hj => (hh j hj).pres R.h.sane hpr (by simp) (fun _ _ _ => rfl) (fun t e => by cases e))
    (fun j hj => (hnew j hj).pres R.h.sane hpr (by simp) (fun _ _ _ => rfl) (fun t e => by cases e)) hc hcn
  have hil : i < σ.heap.length := (List.getElem?_eq_some_iff.1 hi).1
  refine ⟨⟨R.h.sane, by simpa [St.upd] using R.h.nh, fun i' ob hob => ?_, kept_setRow R.h.kept (fun j => (R.h.disj _ _ _ hO).2 j (Nat.zero_le _)) hO _, fun b ℓ f h => ?_⟩, by simpa [St.upd] using R.size, ?_, ?_, ?_⟩
  · simp only [St.upd, Option.getD_some] at hob
    by_cases hii : i = i'
    · subst hii
      rw [List.getElem?_set_self hil] at hob
      injection hob with hob; subst hob
      exact ⟨_, e, hO, setRow_heap _ _ _ _ _ _ hw, k1, k2, k3⟩
    · rw [List.getElem?_set_ne hii] at hob
      exact (R.h.objs i' ob hob).pres R.h.sane (by rw [← R.h.nh]; exact (List.getElem?_eq_some_iff.1 hob).1) hpr (by simp; exact fun e => hii e.symm) (by simp)
  · have := R.h.disj b ℓ f h; exact ⟨by simpa using this.1, this.2⟩
  · intro t
    exact (R.slots t).pres R.h.sane hpr (by simp) (fun _ _ _ => rfl) (fun t' e' _ => ⟨rfl, fun j => by simp⟩)
  · intro t r'' off' ht
    exact R.places t r'' off' ht
  · refine ⟨R.df.1, fun x hx => ?_⟩
    obtain ⟨r0, h1, h2, h3⟩ := R.df.2 x hx
    exact ⟨r0, h1, h2, by rw [setRow_other _ _ _ _ (by rintro rfl; rw [hO] at h2; cases h2)]; exact h3⟩
theorem Rel.give {G : Gh} {σ : St} {a : Act} {w : World} (R : Rel G σ a w) {s k : Nat} {l : List D} (hs : σ.get s = .own k l) (ℓ' : Loc) (h0 : ℓ'.root ≠ .no) :
    Rel (G.move (.s s) ℓ') (σ.upd [(s, .d (.list k l))] none) a w ∧ RepV (G.move (.s s) ℓ') w ℓ' (.own k l) (a.tmps.getD s Go.undef) := by
  have hrep := R.slots s
  rw [hs] at hrep
  generalize hv : a.tmps.getD s Go.undef = v at hrep
  cases hrep with | own _ _ _ _ hr ht =>
  have hpr := G.move_pres w (.s s) ℓ'
  refine ⟨⟨R.h.move _ _ h0 ?_, by simpa [St.upd] using R.size, ?_, ?_, R.df.move (by simp)⟩, .own _ _ _ _ hr ht.move⟩
  · intro i ob hob
    exact (R.h.objs i ob hob).pres R.h.sane (by rw [← R.h.nh]; exact (List.getElem?_eq_some_iff.1 hob).1) hpr (by simp) (by simp)
  · intro t
    simp only [St.upd, St.get, esets, List.foldl_cons, List.foldl_nil, eget_eset]
    split
    · rename_i e; subst e; rw [hv]; exact .d _ _ _ hr
    · rename_i e2
      exact (R.slots t).pres R.h.sane hpr (by simp; exact fun e => e2 e.symm) (fun _ _ _ => rfl) (fun _ _ _ => ⟨rfl, by simp⟩)
  · intro t r' off ht
    simp only [St.upd, St.get, esets, List.foldl_cons, List.foldl_nil, eget_eset] at ht ⊢
    split at ht
    · cases ht
    · obtain ⟨cs, hcs⟩ := R.places t r' off ht
      refine ⟨cs, ?_⟩
      split
      · rename_i e; subst e; rw [hcs] at hs; cases hs
      · exact hcs
theorem upd_upd (σ : St) (s t : Sets) : (σ.upd s none).upd t none = σ.upd (s ++ t) none := by simp [St.upd, esets]
theorem upd_upd' (σ : St) (s t : Sets) (h : List Obj) : (σ.upd s none).upd t (some h) = σ.upd (s ++ t) (some h) := by simp [St.upd, esets]
section
variable {P : Program} {T : Types} (hT : TOk P T) {σ : St} {g : Nat → AV} {o : Oper} {ss : Sets} {h' : Option (List Obj)} {H : List Obj} {an : Ann}
  (hg : Less g σ) (hHe : heapy an g o = true → H = σ.heap) (h : evBase Ar.std T an σ.n g H o = some (ss, h'))
include hT hg hHe h
omit hg hHe h in
theorem storeVar_run {t : TypeId} {td : TD} (ht : T t = some td) {w : World} {b off : Nat} {cur : Array Value} {e : TypeId} {v : Value} (hw : w.heap[b]? = some (.cells cur e (0, 0))) (hs : v.cells.size = td.size)
    (hoff : off + td.size ≤ cur.size) (h1 : ∀ x ∈ v.cells.toList, x.oneCell' = true) : (storeVar t ⟨b, off, none⟩ v).run P w = .ok () (w.setRow b (rowOf cur off v.cells.toList)) := by
  have := run_storeCells_at P b off e v.cells.toList 0 cur w hw (by simp; omega) h1
  simp only [Nat.add_zero] at this
  simp [storeVar, hT.size ht, hs, this, rowOf]
theorem step_store {t : TypeId} {x y : Operand} (hop : o.op = .store t x y) : StepOk P σ o ss h' := by
  have hnd : ∀ c, o.op ≠ .defer c := by simp [hop]
  simp only [evBase, hop] at h
  split at h
  · rename_i td r off cs v ss0 ht hA hv
    split at h
    · rename_i hc
      obtain ⟨hlen, hoff, hcell, hdst⟩ := hc
      simp at h
      obtain ⟨rfl, rfl⟩ := h
      simp at hcell
      intro r' n m G a w Q next hm R hn
      obtain ⟨hr, hpt⟩ := adr_ok hg R hA
      rcases taken_some hv with ⟨rfl, hl, hrep⟩ | ⟨s, k, l, rfl, hgs, rfl, rfl⟩
      · obtain ⟨e1, e2⟩ := cells_anywhere (fun ℓ => hrep hg R ℓ) hl hcell
        obtain ⟨cur, e, hO, hw, hs, hh, hcc, hat⟩ := box_rep R hr
        have hcore := storeSlot_core R (off := off) (nv := v.cells) (vs := (a.eval y).cells.toList) hr hw (by omega) (by simpa using e1)
          (fun j hj => by have := e2 j hj (.sc r (off + j)); simpa [List.getD, Array.getD_eq_getD_getElem?] using this) hcell
        have hone : ∀ x ∈ (a.eval y).cells.toList, x.oneCell' = true := by
          intro x hx
          obtain ⟨j, hj, rfl⟩ := List.mem_iff_getElem.1 hx
          have hj1 : j < (a.eval y).cells.size := by simpa using hj
          have := (e2 j (by omega) .no).oneCell (hcell _ (List.getElem_mem _))
          simpa [Array.getD, hj1] using this
        have hrun := storeVar_run hT ht hw (off := off) (v := a.eval y) (by omega) (by omega) hone
        refine wp_skip' hnd (w' := w.setRow (G.β (.s r)) (rowOf cur off (a.eval y).cells.toList)) (by simp [execOp, hop, hpt, Instr.storeAt, Instr.sureAddr, hrun]) (hn G _ _ ?_ (Ext.setRow hO _))
        rw [hdst]
        simpa [Act.put] using hcore
      · have hsg := hg.eq hgs (by simp)
        have hrs : r ≠ s := by rintro rfl; rw [hr] at hsg; cases hsg
        obtain ⟨R1, hrep1⟩ := R.give hsg (.sc r off) (by simp [Loc.root])
        have hr1 : (σ.upd [(s, .d (.list k l))] none).get r = .lbox cs := by
          simp only [St.upd, St.get, esets, List.foldl_cons, List.foldl_nil, eget_eset, if_neg (Ne.symm hrs)]; exact hr
        obtain ⟨cur, e, hO, hw, hs, hh, hcc, hat⟩ := box_rep R1 hr1
        have hval : a.eval (.tmp s) = a.tmps.getD s Go.undef := rfl
        generalize hvv : a.tmps.getD s Go.undef = vv at hrep1
        have hcells : vv.cells = #[vv] := by cases hrep1 with | own _ _ _ _ hr _ => cases hr <;> rfl
        have hsz : td.size = 1 := by rw [← hlen]; rfl
        have hcore := storeSlot_core R1 (off := off) (nv := [.own k l]) (vs := [vv]) hr1 hw (by simp; omega) rfl
          (fun j hj => by simp at hj; subst hj; simpa using hrep1) (by simp [AV.isCell])
        have hone : ∀ x ∈ vv.cells.toList, x.oneCell' = true := by
          rw [hcells]; simp; exact hrep1.oneCell rfl
        have hrun := storeVar_run hT ht hw (off := off) (v := vv) (by rw [hcells]; simp [hsz]) (by omega) hone
        have hβ : (G.move (.s s) (.sc r off)).β = G.β := rfl
        rw [hβ] at hrun hcore hO
        refine wp_skip' hnd (w' := w.setRow (G.β (.s r)) (rowOf cur off vv.cells.toList)) (by simp [execOp, hop, hpt, Instr.storeAt, Instr.sureAddr, hval, hvv, hrun]) (hn _ _ _ ?_ ((Ext.move m G w _ _).trans (Ext.setRow hO _)))
        rw [hdst, hcells]
        rw [upd_upd] at hcore
        simpa [Act.put, AV.cells] using hcore
    · simp at h
  · rename_i td i off v ss0 ht hA hv
    cases hHi : H[i]? with
    | none => simp [hHi] at h
    | some ob =>
      simp only [hHi] at h
      split at h
      · rename_i hc
        obtain ⟨hlen, hcell, hdst⟩ := hc
        simp at hcell
        have hHσ : H = σ.heap := by
          obtain ⟨j, rfl, hgj⟩ := adr_obj hA
          exact hHe (by simp [heapy, hop, hgj])
        subst hHσ
        simp only [Option.map_eq_some_iff] at h
        obtain ⟨ob', hob', he⟩ := h
        simp at he
        obtain ⟨rfl, rfl⟩ := he
        cases ob with
        | cells cs =>
          simp only [writeObj] at hob'
          split at hob'
          · rename_i hoff
            simp at hob'; subst hob'
            intro r' n m G a w Q next hm R hn
            obtain ⟨hi, hpt⟩ := adr_ok hg R hA
            rcases taken_some hv with ⟨rfl, hl, hrep⟩ | ⟨s, k, l, rfl, hgs, rfl, rfl⟩
            · obtain ⟨e1, e2⟩ := cells_anywhere (fun ℓ => hrep hg R ℓ) hl hcell
              obtain ⟨cur, e, hO, hw, hs, hh, hcc⟩ := R.h.objs i _ hHi
              have hcore := storeObj_core R (off := off) (nv := v.cells) (vs := (a.eval y).cells.toList) hHi hw (by omega) (by simpa using e1)
                (fun j hj => by have := e2 j hj (.oc i (off + j)); simpa [List.getD, Array.getD_eq_getD_getElem?] using this) hcell
              have hone : ∀ x ∈ (a.eval y).cells.toList, x.oneCell' = true := by
                intro x hx
                obtain ⟨j, hj, rfl⟩ := List.mem_iff_getElem.1 hx
                have hj1 : j < (a.eval y).cells.size := by simpa using hj
                have := (e2 j (by omega) .no).oneCell (hcell _ (List.getElem_mem _))
                simpa [Array.getD, hj1] using this
              have hrun := storeVar_run hT ht hw (off := off) (v := a.eval y) (by omega) (by omega) hone
              refine wp_skip' hnd (w' := w.setRow (G.β (.o i)) (rowOf cur off (a.eval y).cells.toList)) (by simp [execOp, hop, hpt, Instr.storeAt, Instr.sureAddr, hrun]) (hn G _ _ ?_ (Ext.setRow hO _))
              rw [hdst]
              simpa [Act.put] using hcore
            · have hsg := hg.eq hgs (by simp)
              obtain ⟨R1, hrep1⟩ := R.give hsg (.oc i off) (by simp [Loc.root])
              obtain ⟨cur, e, hO, hw, hs, hh, hcc⟩ := R1.h.objs i _ hHi
              have hval : a.eval (.tmp s) = a.tmps.getD s Go.undef := rfl
              generalize hvv : a.tmps.getD s Go.undef = vv at hrep1
              have hcells : vv.cells = #[vv] := by cases hrep1 with | own _ _ _ _ hr _ => cases hr <;> rfl
              have hsz : td.size = 1 := by rw [← hlen]; rfl
              have hcore := storeObj_core R1 (off := off) (nv := [.own k l]) (vs := [vv]) hHi hw (by simpa [AV.cells] using hoff) rfl
                (fun j hj => by simp at hj; subst hj; simpa using hrep1) (by simp [AV.isCell])
              have hone : ∀ x ∈ vv.cells.toList, x.oneCell' = true := by
                rw [hcells]; simp; exact hrep1.oneCell rfl
              have hrun := storeVar_run hT ht hw (off := off) (v := vv) (by rw [hcells]; simp [hsz]) (by simp [AV.cells] at hoff; omega) hone
              have hβ : (G.move (.s s) (.oc i off)).β = G.β := rfl
              rw [hβ] at hrun hcore hO
              refine wp_skip' hnd (w' := w.setRow (G.β (.o i)) (rowOf cur off vv.cells.toList)) (by simp [execOp, hop, hpt, Instr.storeAt, Instr.sureAddr, hval, hvv, hrun]) (hn _ _ _ ?_ ((Ext.move m G w _ _).trans (Ext.setRow hO _)))
              rw [hdst, hcells]
              have hcore' := hcore
              simp only [show (σ.upd [(s, AV.d (D.list k l))] none).heap = σ.heap from rfl] at hcore'
              rw [upd_upd'] at hcore'
              simpa [Act.put, AV.cells] using hcore'
          · simp at hob'
        | arr k l => simp [writeObj] at hob'
        | loop L => simp [writeObj] at hob'
        | map ag ks es => simp [writeObj] at hob'
        | dead => simp [writeObj] at hob'
      · simp at h
  · simp at h
end
end Go.Am

set_option linter.unusedSimpArgs false
set_option linter.unusedSectionVars false
namespace Go.Am
open Go
theorem fold_set (off : Nat) : ∀ (l : List Value) (k : Nat) (cells : Array Value), off + k + l.length ≤ cells.size →
    ((l.zipIdx k).foldl (fun cs p => cs.setIfInBounds (off + p.2) p.1) cells).size = cells.size ∧
      ∀ j, ((l.zipIdx k).foldl (fun cs p => cs.setIfInBounds (off + p.2) p.1) cells).getD j Go.undef = if off + k ≤ j ∧ j < off + k + l.length then l.getD (j - (off + k)) Go.undef else cells.getD j Go.undef
  | [], k, cells, _ => by refine ⟨rfl, fun j => ?_⟩; simp; omega
  | v :: r, k, cells, h => by
    simp at h
    have hsz : (cells.setIfInBounds (off + k) v).size = cells.size := by simp
    obtain ⟨h1, h2⟩ := fold_set off r (k + 1) (cells.setIfInBounds (off + k) v) (by rw [hsz]; omega)
    simp only [List.zipIdx_cons, List.foldl_cons]
    refine ⟨h1.trans hsz, fun j => ?_⟩
    rw [h2 j, getD_set _ _ _ _ (by omega)]
    simp only [List.length_cons]
    by_cases hj : off + k = j
    · subst hj
      rw [if_neg (by omega), if_pos rfl, if_pos (by omega)]
      simp
    · by_cases hj2 : off + (k + 1) ≤ j ∧ j < off + (k + 1) + r.length
      · rw [if_pos hj2, if_pos (by omega)]
        rw [show j - (off + k) = (j - (off + (k + 1))) + 1 by omega]
        simp [List.getD]
      · rw [if_neg hj2, if_neg hj, if_neg (by omega)]
section
variable {P : Program} {T : Types} (hT : TOk P T) {σ : St} {g : Nat → AV} {o : Oper} {ss : Sets} {h' : Option (List Obj)} {H : List Obj} {an : Ann}
  (hg : Less g σ) (hgd : ∀ d, o.dst = some d → g d = σ.get d) (h : evBase Ar.std T an σ.n g H o = some (ss, h'))
include hT hg hgd h
omit hT hgd h in
theorem fill_ok {G : Gh} {a : Act} {w : World} (R : Rel G σ a w) {t : TypeId} {place : Nat → Option (Nat × Nat)} (hp : ∀ i ft off sz, partOf T t i = some (ft, off, sz) → place i = some (off, sz)) :
    ∀ (parts : List (Nat × Operand)) (cs cs' : List AV) (cells : Array Value), fillIn T g t parts cs = some cs' → cells.size = cs.length →
      (∀ (j : Nat) (hj : j < cs.length) (ℓ : Loc), RepV G w ℓ cs[j] (cells.getD j Go.undef)) → (∀ c ∈ cs, c.isCell = true) →
      ∃ cells', Instr.fill place cells (parts.map fun p => (p.1, a.eval p.2)) = some cells' ∧ cells'.size = cs'.length ∧
        (∀ (j : Nat) (hj : j < cs'.length) (ℓ : Loc), RepV G w ℓ cs'[j] (cells'.getD j Go.undef)) ∧ ∀ c ∈ cs', c.isCell = true
  | [], cs, cs', cells, hf, hs, hr, hc => by simp [fillIn] at hf; subst hf; exact ⟨cells, rfl, hs, hr, hc⟩
  | (i, x) :: r, cs, cs', cells, hf, hs, hr, hc => by
    unfold fillIn at hf
    split at hf
    · rename_i ft off sz hpart
      split at hf
      · rename_i v hv
        split at hf
        · rename_i hcond
          obtain ⟨hlen, hoff, hcell⟩ := hcond
          simp at hcell
          have hv' := fun ℓ => opv_ok hg R hv ℓ
          obtain ⟨e1, e2⟩ := cells_anywhere (fun ℓ => (hv' ℓ).1) (hv' .no).2 hcell
          obtain ⟨f1, f2⟩ := fold_set off (a.eval x).cells.toList 0 cells (by simp; omega)
          have hl : (writeAt cs off v.cells).length = cs.length := write_length _ _ _ (by omega)
          obtain ⟨cells', k1, k2, k3, k4⟩ := fill_ok R hp r _ cs' (((a.eval x).cells.toList.zipIdx 0).foldl (fun cs p => cs.setIfInBounds (off + p.2) p.1) cells) hf (by rw [f1, hl, hs]) (fun j hj ℓ => by
            rw [f2 j]
            have e := write_get cs v.cells off j (by omega)
            have hj' : j < cs.length := by omega
            have e3 : (writeAt cs off v.cells)[j]? = some (writeAt cs off v.cells)[j] := List.getElem?_eq_getElem hj
            rw [show (writeAt cs off v.cells)[j]? = _ from e] at e3
            simp only [Nat.add_zero, Array.length_toList]
            by_cases h1 : j < off
            · rw [if_pos h1, List.getElem?_eq_getElem hj'] at e3
              injection e3 with e3
              rw [← e3, if_neg (by omega)]; exact hr j hj' ℓ
            · rw [if_neg h1] at e3
              by_cases h2 : j < off + v.cells.length
              · rw [if_pos h2, List.getElem?_eq_getElem (by omega)] at e3
                injection e3 with e3
                rw [← e3, if_pos (by omega)]
                have := e2 (j - off) (by omega) ℓ
                simpa [List.getD, Array.getD_eq_getD_getElem?] using this
              · rw [if_neg h2, List.getElem?_eq_getElem hj'] at e3
                injection e3 with e3
                rw [← e3, if_neg (by omega)]; exact hr j hj' ℓ)
            (by
              intro c hcm
              unfold writeAt at hcm
              rcases List.mem_append.1 hcm with hcm | hcm
              · rcases List.mem_append.1 hcm with hcm | hcm
                · exact hc c (List.mem_of_mem_take hcm)
                · exact hcell c hcm
              · exact hc c (List.mem_of_mem_drop hcm))
          refine ⟨cells', ?_, k2, k3, k4⟩
          simp only [List.map_cons, Instr.fill, hp i ft off sz hpart]
          rw [if_neg (by simp; omega)]
          rw [← k1]
          congr 1
          rw [← Array.foldl_toList, Array.toList_zipIdx]
        · simp at hf
      · simp at hf
    · simp at hf
theorem step_build {t : TypeId} {parts : Array (Nat × Operand)} (hop : o.op = .build t parts) : StepOk P σ o ss h' := by
  simp only [evBase, hop] at h
  split at h
  · rename_i td ht
    split at h
    · rename_i hcond
      simp at hcond
      obtain ⟨hagg, hknown⟩ := hcond
      obtain ⟨av, hav, hp⟩ := putO_some h
      simp at hav
      obtain ⟨cs', hfill, rfl⟩ := hav
      have hfree : ∀ l, (mkAgg l).free = true := by intro l; unfold mkAgg; split <;> rfl
      refine stepOk_pure hgd hp (by simp [hop]) (AV.free_place (AV.free_isLocal (hfree _))) ?_
      intro G a w R
      obtain ⟨i, dd, hi, hdd, hsz, _, huok, z, hz, hzs, hzl, hzc⟩ := hT.info ht
      have key : ∀ (place : Nat → Option (Nat × Nat)), (∀ i ft off sz, partOf T t i = some (ft, off, sz) → place i = some (off, sz)) →
          (∀ cells, Instr.fill place z.cells (parts.map fun p => (p.1, a.eval p.2)).toList = some cells → P.built t (parts.map fun p => (p.1, a.eval p.2)).toList = some cells) →
          ∃ val, (execOp a.eval o).run P w = .ok (.value val) w ∧ ∀ d, RepV G w (.s d) (mkAgg cs') val := by
        intro place hpl hb
        obtain ⟨cells', k1, k2, k3, k4⟩ := fill_ok hg R hpl parts.toList td.zero cs' z.cells hfill (by omega) (fun j hj ℓ => (zeroCell_ok (hzc j hj)).1 G w ℓ)
          (fun c hcm => by obtain ⟨j, hj, rfl⟩ := List.mem_iff_getElem.1 hcm; exact (zeroCell_ok (hzc j hj)).2.1)
        have hbuilt := hb cells' (by simpa using k1)
        refine ⟨.agg cells', ?_, fun d => (mkAgg_ok k2 (fun i hi => ⟨.no, k3 i hi .no⟩) k4 _).1⟩
        have := run_build (P := P) w t _ cells' hbuilt
        simp [execOp, hop, this]
      cases td with | mk sz u zero =>
      cases u with
      | array m e =>
        have hu := hT.array ht
        simp [partsKnown] at hknown
        obtain ⟨tde, hte⟩ := Option.isSome_iff_exists.1 hknown
        obtain ⟨ie, _, hie, _, hse, _⟩ := hT.info hte
        refine key (fun i => some (i * ie.size, ie.size)) ?_ (fun cells hc => by simp only [Program.built, hi, hu, hz, hie]; exact hc)
        intro i ft off sz hpart
        simp only [partOf, ht] at hpart
        split at hpart
        · simp [hte] at hpart
          obtain ⟨rfl, rfl, rfl⟩ := hpart
          simp [hse]
        · simp at hpart
      | struct fs =>
        obtain ⟨fields, hu, hmap⟩ := hT.struct ht
        simp [partsKnown] at hknown
        have hplaces : ∃ places, fields.toList.mapM (fun f => (P.info? f.type).map fun i => (f.offset, i.size)) = some places ∧
            ∀ i ft off sz, partOf T t i = some (ft, off, sz) → places[i]? = some (off, sz) := by
          have gen : ∀ (fl : List Field) , (∀ f ∈ fl, ∃ td, T f.type = some td) → ∃ places, fl.mapM (fun f => (P.info? f.type).map fun i => (f.offset, i.size)) = some places ∧
              ∀ (i : Nat) (f : Field) (td : TD), fl[i]? = some f → T f.type = some td → places[i]? = some (f.offset, td.size) := by
            intro fl
            induction fl with
            | nil => intro _; exact ⟨[], rfl, fun i f td h => by simp at h⟩
            | cons f r ih =>
              intro hk
              obtain ⟨pl, h1, h2⟩ := ih (fun f' hf' => hk f' (by simp [hf']))
              obtain ⟨tdf, htf⟩ := hk f (by simp)
              obtain ⟨inf, _, hinf, _, hsf, _⟩ := hT.info htf
              refine ⟨(f.offset, inf.size) :: pl, by simp [List.mapM_cons, hinf, h1], fun i f' td hf' htd => ?_⟩
              cases i with
              | zero => simp at hf'; subst hf'; rw [htf] at htd; injection htd with htd; subst htd; simp [hsf]
              | succ i => simpa using h2 i f' td (by simpa using hf') htd
          obtain ⟨pl, h1, h2⟩ := gen fields.toList (fun f hf => by
            have := hknown f.type f.offset (by rw [← hmap]; exact List.mem_map.2 ⟨f, hf, rfl⟩)
            exact Option.isSome_iff_exists.1 this)
          refine ⟨pl, h1, fun i ft off sz hpart => ?_⟩
          simp only [partOf, ht] at hpart
          split at hpart
          · rename_i ft' off' hfi
            rw [← hmap] at hfi
            simp at hfi
            obtain ⟨f, hf1, hf2, hf3⟩ := hfi
            simp at hpart
            obtain ⟨tdf, htf, rfl, rfl, rfl⟩ := hpart
            subst hf2 hf3
            exact h2 i f tdf (by simpa using hf1) htf
          · simp at hpart
        obtain ⟨places, hp1, hp2⟩ := hplaces
        refine key (places.toArray[·]?) (fun i ft off sz hh => by simpa using hp2 i ft off sz hh) (fun cells hc => by
          simp only [Program.built, hi, hu, hz, hp1]; exact hc)
      | _ => simp [TD.isAgg] at hagg
    · simp at h
  · simp at h
omit hT hgd h in
theorem elems_ok {G : Gh} {a : Act} {w : World} (R : Rel G σ a w) {e : TypeId} {sz : Nat} : ∀ (parts : List (Nat × Operand)) (i : Nat) (l : List D), elemsOf T g e sz parts i = some l →
    l.length = parts.length ∧ uniform sz l ∧ ∀ (j : Nat) (hj : j < parts.length) (hj' : j < l.length), parts[j].1 = i + j ∧ RepD G.K l[j] (a.eval parts[j].2)
  | [], i, l, hl => by simp [elemsOf] at hl; subst hl; exact ⟨rfl, fun x hx => by simp at hx, fun j hj => by simp at hj⟩
  | (q, x) :: r, i, l, hl => by
    unfold elemsOf at hl
    split at hl
    · rename_i v hv
      split at hl
      · rename_i y l' hd hr
        split at hl
        · rename_i hc
          simp at hl; subst hl
          obtain ⟨h1, h2, h3⟩ := elems_ok R r (i + 1) l' hr
          refine ⟨by simp [h1], ?_, fun j hj hj' => ?_⟩
          · intro z hz
            rcases List.mem_cons.1 hz with rfl | hz
            · exact hc.2
            · exact h2 z hz
          · cases j with
            | zero =>
              refine ⟨by simp [hc.1], ?_⟩
              obtain ⟨_, e2⟩ := dataOf_some hd
              simpa using e2 0 (by simp) (by simp) G w .no _ (opv_ok hg R hv .no).1
            | succ j =>
              obtain ⟨e1, e2⟩ := h3 j (by simpa using hj) (by simpa using hj')
              exact ⟨by simp; omega, by simpa using e2⟩
        · simp at hl
      · simp at hl
    · simp at hl
omit hT hg hgd h in
theorem RepD.cells {K : Addr → Option Value} {x : D} {v : Value} (h : RepD K x v) : v.cells.size = x.cells.length ∧ (∀ (i : Nat) (hi : i < x.cells.length), RepD K x.cells[i] (v.cells.getD i Go.undef)) ∧
    ∀ i, i < x.cells.length → (v.cells.getD i Go.undef).oneCell' = true := by
  have one : ∀ {x : D} {v : Value}, RepD K x v → x.cells = [x] → v.cells = #[v] → v.oneCell' = true → v.cells.size = x.cells.length ∧ (∀ (i : Nat) (hi : i < x.cells.length), RepD K x.cells[i] (v.cells.getD i Go.undef)) ∧
      ∀ i, i < x.cells.length → (v.cells.getD i Go.undef).oneCell' = true := by
    intro x v h h1 h2 h3
    refine ⟨by rw [h1, h2]; rfl, fun i hi => ?_, fun i hi => ?_⟩
    · have : i = 0 := by rw [h1] at hi; simpa using hi
      subst this
      simpa [h1, h2] using h
    · have : i = 0 := by rw [h1] at hi; simpa using hi
      subst this
      simpa [h2] using h3
  cases h with
  | agg cs vs hs h h1 =>
    refine ⟨by simpa [Value.cells, D.cells] using hs, fun i hi => h i hi, fun i hi => ?_⟩
    have hi' : i < vs.size := by simp [D.cells] at hi; omega
    simpa [Value.cells, Array.getD, hi'] using h1 vs[i] (Array.getElem_mem hi')
  | bool b => exact one (.bool b) rfl rfl rfl
  | int k n => exact one (.int k n) rfl rfl rfl
  | str s => exact one (.str s) rfl rfl rfl
  | nilIface => exact one .nilIface rfl rfl rfl
  | iface t x v h => exact one (.iface t x v h) rfl rfl rfl
  | nil k => exact one (.nil k) rfl rfl rfl
  | none0 k a => exact one (.none0 k a) rfl rfl rfl
  | list k l b off cap vs hu hc hK h1 h => exact one (.list k l b off cap vs hu hc hK h1 h) rfl rfl rfl
end
def cellsOf (vs : List Value) : List Value := vs.flatMap fun v => v.cells.toList
theorem cellsOf_length {k : Nat} : ∀ {vs : List Value}, (∀ v ∈ vs, v.cells.size = k) → (cellsOf vs).length = vs.length * k
  | [], _ => by simp [cellsOf]
  | v :: r, h => by
    have ih := cellsOf_length (vs := r) (fun x hx => h x (by simp [hx]))
    have hv := h v (by simp)
    simp only [cellsOf, List.flatMap_cons, List.length_append, Array.length_toList, List.length_cons] at ih ⊢
    rw [ih, hv, Nat.add_mul]; omega
theorem cellsOf_get {k : Nat} : ∀ {vs : List Value}, (∀ v ∈ vs, v.cells.size = k) → ∀ {i : Nat} {v : Value}, vs[i]? = some v → ∀ j, j < k → (cellsOf vs)[i * k + j]? = v.cells[j]?
  | [], _, i, v, h, _, _ => by simp at h
  | x :: r, hu, 0, v, h, j, hj => by
    simp at h; subst h
    have hx : x.cells.size = k := hu _ (by simp)
    simp only [cellsOf, List.flatMap_cons, Nat.zero_mul, Nat.zero_add]
    rw [List.getElem?_append_left (by simp; omega)]
    simp
  | x :: r, hu, i + 1, v, h, j, hj => by
    have hx : x.cells.size = k := hu _ (by simp)
    have ih := cellsOf_get (vs := r) (fun z hz => hu z (by simp [hz])) (i := i) (v := v) (by simpa using h) j hj
    simp only [cellsOf, List.flatMap_cons] at ih ⊢
    rw [List.getElem?_append_right (by simp [Nat.add_mul]; omega), ← ih]
    congr 1
    simp [Nat.add_mul]; omega
theorem flat_rep {K : Addr → Option Value} {k : Nat} (hk : 0 < k) {l : List D} {vs : List Value} (hlen : l.length = vs.length) (hu : uniform k l)
    (h : ∀ (j : Nat) (hj : j < l.length) (hj' : j < vs.length), RepD K l[j] vs[j]) :
    (cellsOf vs).length = (D.flat l).length ∧ ∀ (q : Nat) (hq : q < (D.flat l).length), RepD K (D.flat l)[q] ((cellsOf vs).getD q Go.undef) ∧ ((cellsOf vs).getD q Go.undef).oneCell' = true := by
  have hvu : ∀ v ∈ vs, v.cells.size = k := by
    intro v hv
    obtain ⟨j, hj, rfl⟩ := List.mem_iff_getElem.1 hv
    have := (h j (by omega) hj).cells.1
    rw [this]; exact hu _ (List.getElem_mem _)
  refine ⟨by rw [cellsOf_length hvu, flat_length hu, hlen], fun q hq => ?_⟩
  rw [flat_length hu] at hq
  have hi : q / k < l.length := Nat.div_lt_of_lt_mul (by rw [Nat.mul_comm]; exact hq)
  have hj : q % k < k := Nat.mod_lt _ hk
  have e := Nat.div_add_mod q k
  have hq' : q / k * k + q % k = q := by rw [Nat.mul_comm]; exact e
  have c1 := flat_get hu (i := q / k) (y := l[q / k]) (List.getElem?_eq_getElem hi) (q % k) hj
  have c2 := cellsOf_get hvu (i := q / k) (v := vs[q / k]'(by omega)) (List.getElem?_eq_getElem (by omega)) (q % k) hj
  rw [hq'] at c1 c2
  obtain ⟨r1, r2, r3⟩ := (h (q / k) hi (by omega)).cells
  have hyk : l[q / k].cells.length = k := hu _ (List.getElem_mem _)
  rw [List.getElem?_eq_getElem (by omega : q % k < l[q / k].cells.length)] at c1
  obtain ⟨c3, c4⟩ := List.getElem?_eq_some_iff.1 c1
  have c5 : (cellsOf vs).getD q Go.undef = (vs[q / k]'(by omega)).cells.getD (q % k) Go.undef := by
    simp only [List.getD_eq_getElem?_getD, c2, Array.getD_eq_getD_getElem?]
  rw [c5, c4]
  exact ⟨r2 _ (by omega), r3 _ (by omega)⟩
end Go.Am

set_option linter.unusedSimpArgs false
set_option linter.unusedSectionVars false
namespace Go.Am
open Go
def Gh.keep (G : Gh) (b lo hi : Nat) (c : Nat → Value) : Gh :=
  { G with K := fun x => if x.block = b ∧ x.spot = none ∧ lo ≤ x.off ∧ x.off < hi then some (c x.off) else G.K x }
theorem Rel.newList {G : Gh} {σ : St} {a : Act} {w w1 : World} (R : Rel G σ a w) (hw1 : w1.heap = w.heap) (hos : w1.os = w.os) (hout : w1.output = w.output) {d k cap : Nat} {l : List D} {vs : Array Value} (e : TypeId) (hlt : d < σ.n) (hbox : (σ.get d).isBox = false)
    (hu : uniform k l) (hcap : l.length ≤ cap) (hsz : cap * k ≤ vs.size) (hv : ∀ (q : Nat) (hq : q < (D.flat l).length), RepD G.K (D.flat l)[q] (vs.getD q Go.undef) ∧ (vs.getD q Go.undef).oneCell' = true) :
    ∃ G', Rel G' (σ.upd [(d, .own k l)] none) (a.put (some d) (.slice (some ⟨w.heap.size, 0, none⟩) l.length cap)) (w1.alloc (.cells vs e)) ∧ ∀ m, Ext m G w G' (w1.alloc (.cells vs e)) := by
  have hfl := flat_length hu
  have hle : l.length * k ≤ vs.size := Nat.le_trans (Nat.mul_le_mul_right k hcap) hsz
  let G' : Gh := (G.own w.heap.size (.s d) (l.length * k)).keep w.heap.size 0 (l.length * k) (fun q => vs.getD q Go.undef)
  have hsize : w1.heap.size = w.heap.size := by rw [hw1]
  have hOold : ∀ b x f, G.O b = some (x, f) → G'.O b = some (x, f) := by
    intro b x f h
    have := (R.h.disj b x f h).1
    simp [G', Gh.own, Gh.keep, Nat.ne_of_lt this, h]
  have hold : ∀ b, b < w.heap.size → (w1.alloc (.cells vs e)).heap[b]? = w.heap[b]? := by
    intro b hb
    rw [heap_alloc_lt (by rw [hsize]; exact hb), hw1]
  have hnew : (w1.alloc (.cells vs e)).heap[w.heap.size]? = some (.cells vs e (0, 0)) := by
    have := heap_alloc_new (w := w1) (o := .cells vs e)
    rwa [hsize] at this
  have hKle : KLe G.K G'.K := by
    intro x v h
    have hb := World.block_lt_of_cell? w _ (R.h.kept x v h)
    simp only [G', Gh.keep, Gh.own]
    rw [if_neg (by intro hc; omega)]; exact h
  have hpr : Pres G G' w (w1.alloc (.cells vs e)) (fun _ => True) :=
    ⟨hKle, fun b x f _ h => ⟨hOold b x f h, hold b (R.h.disj b x f h).1⟩, fun _ _ => rfl, Nat.le_refl _⟩
  have hKnew : ∀ q, q < l.length * k → G'.K ⟨w.heap.size, q, none⟩ = some (vs.getD q Go.undef) := by
    intro q hq; simp [G', Gh.keep, hq]
  have hd' : d < a.tmps.size := by rw [R.size]; exact hlt
  refine ⟨G', ⟨⟨⟨fun b x f h => ?_⟩, R.h.nh, fun i ob hob => ?_, fun x v h => ?_, fun b x f h => ?_⟩, by simpa [Act.put, St.upd] using R.size, ?_, ?_, ?_⟩, fun m => ⟨hKle, fun x v h => ?_, fun b hb h => ⟨hold b hb, ?_⟩, ?_, fun _ _ => rfl, hos, hout, fun a => (frozen?_alloc_new _ _ (fun _ _ _ e => by cases e; rfl) a).trans (by unfold World.frozen?; rw [hw1])⟩⟩
  · simp only [G', Gh.own, Gh.keep] at h
    split at h
    · simp at h; rw [← h.1]; simp [Loc.root]
    · exact R.h.sane.no b x f h
  · exact (R.h.objs i ob hob).pres R.h.sane (by rw [← R.h.nh]; exact (List.getElem?_eq_some_iff.1 hob).1) hpr trivial (fun _ => trivial)
  · simp only [G', Gh.keep, Gh.own] at h
    split at h
    · rename_i hc
      obtain ⟨hb, hsp, _, hq⟩ := hc
      obtain ⟨xb, xo, xs⟩ := x
      simp at hb hsp hq h
      subst hb hsp
      rw [cell_at hnew (by omega)]
      simpa using h
    · have := R.h.kept x v h
      have hb := World.block_lt_of_cell? w _ this
      unfold World.cell? at *
      rwa [hold _ hb]
  · simp only [G', Gh.own, Gh.keep] at h
    split at h
    · rename_i hbe; subst hbe
      simp at h
      obtain ⟨_, rfl⟩ := h
      refine ⟨by simp [hsize], fun j hj => ?_⟩
      simp only [G', Gh.keep, Gh.own]
      rw [if_neg (by intro hc; omega)]
      cases hK : G.K ⟨w.heap.size, j, none⟩ with
      | none => rfl
      | some v => exact absurd (World.block_lt_of_cell? w _ (R.h.kept _ _ hK)) (by simp)
    · rename_i hbe
      have := R.h.disj b x f h
      refine ⟨by simp [hsize]; omega, fun j hj => ?_⟩
      simp only [G', Gh.keep, Gh.own]
      rw [if_neg (by intro hc; exact hbe hc.1)]
      exact this.2 j hj
  · intro t
    simp only [Act.put, getD_set _ _ _ _ hd', St.upd, St.get, esets, List.foldl_cons, List.foldl_nil, eget_eset]
    split
    · rename_i e'; subst e'
      refine .own _ _ _ _ ?_ ?_
      · refine .list k l w.heap.size 0 cap (fun q => vs.getD q Go.undef) hu hcap (fun j hj => ?_) (fun j hj => (hv j hj).2) (fun j hj => (hv j hj).1.mono hKle)
        rw [Nat.zero_add]; exact hKnew j (by omega)
      · intro a' n cap' hv' _
        simp at hv'
        obtain ⟨rfl, rfl, rfl⟩ := hv'
        exact ⟨l.length * k, vs, e, by simp [G', Gh.own, Gh.keep], by simp, hnew, by simpa using hsz, rfl⟩
    · exact (R.slots t).pres R.h.sane hpr trivial (fun r' off' e' => rfl) (fun t' e' hbx => ⟨rfl, fun _ => trivial⟩)
  · intro t r'' off' ht
    simp only [St.upd, St.get, esets, List.foldl_cons, List.foldl_nil, eget_eset] at ht ⊢
    split at ht
    · cases ht
    · obtain ⟨cs', hcs'⟩ := R.places t r'' off' ht
      split
      · rename_i e; subst e; rw [show σ.get d = _ from hcs'] at hbox; simp [AV.isBox] at hbox
      · exact ⟨cs', hcs'⟩
  · refine ⟨R.df.1, fun x hx => ?_⟩
    obtain ⟨r0, h1, h2, h3⟩ := R.df.2 x hx
    exact ⟨r0, h1, hOold _ _ _ h2, by rw [hold _ (R.h.disj _ _ _ h2).1]; exact h3⟩
  · simp only [G', Gh.keep, Gh.own] at h
    split at h
    · rename_i hc; exact .inr (.inr (by omega))
    · exact .inl h
  · simp [G', Gh.own, Gh.keep, Nat.ne_of_lt hb, h]
  · simp [hsize]
theorem Rel.demote {G : Gh} {σ : St} {a : Act} {w : World} (R : Rel G σ a w) {s k : Nat} {l : List D} (hs : σ.get s = .own k l ∨ σ.get s = .lim k l ∨ σ.get s = .tail k l) : Rel G (σ.upd [(s, .d (.list k l))] none) a w := by
  have hrep := R.slots s
  generalize hv : a.tmps.getD s Go.undef = v at hrep
  have hr : RepD G.K (.list k l) v := by
    rcases hs with hs | hs | hs <;> rw [hs] at hrep <;> cases hrep <;> assumption
  refine ⟨R.h, by simpa [St.upd] using R.size, ?_, ?_, R.df⟩
  · intro t
    simp only [St.upd, St.get, esets, List.foldl_cons, List.foldl_nil, eget_eset]
    split
    · rename_i e; subst e; rw [hv]; exact .d _ _ _ hr
    · exact R.slots t
  · intro t r' off ht
    simp only [St.upd, St.get, esets, List.foldl_cons, List.foldl_nil, eget_eset] at ht ⊢
    split at ht
    · cases ht
    · obtain ⟨cs, hcs⟩ := R.places t r' off ht
      refine ⟨cs, ?_⟩
      split
      · rename_i e; subst e; rw [hcs] at hs; rcases hs with hs | hs | hs <;> cases hs
      · exact hcs
theorem Rel.loosen {G : Gh} {σ : St} {a : Act} {w : World} (R : Rel G σ a w) {s k : Nat} {l : List D} {z : Bool} (hs : σ.get s = .own k l) : Rel G (σ.upd [(s, .ownZ z k l)] none) a w := by
  have hrep := R.slots s
  have hr : RepV G w (.s s) (.ownZ z k l) (a.tmps.getD s Go.undef) := by
    rw [hs, show AV.own k l = .ownZ true k l from rfl, ownZ_rep] at hrep
    cases z with
    | true => exact ownZ_rep.2 hrep
    | false => exact ownZ_rep.2 ⟨hrep.1, hrep.2.weak⟩
  refine ⟨R.h, by simpa [St.upd] using R.size, ?_, ?_, R.df⟩
  · intro t
    simp only [St.upd, St.get, esets, List.foldl_cons, List.foldl_nil, eget_eset]
    split
    · rename_i e; subst e; exact hr
    · exact R.slots t
  · intro t r' off ht
    simp only [St.upd, St.get, esets, List.foldl_cons, List.foldl_nil, eget_eset] at ht ⊢
    split at ht
    · exact absurd ht (by cases z <;> simp [AV.ownZ])
    · obtain ⟨cs, hcs⟩ := R.places t r' off ht
      refine ⟨cs, ?_⟩
      split
      · rename_i e; subst e; rw [hcs] at hs; cases hs
      · exact hcs
theorem fillSeq {k : Nat} : ∀ (ps : List (Nat × Value)) (i : Nat) (cells : Array Value), (∀ (j : Nat) (hj : j < ps.length), ps[j].1 = i + j) → (∀ p ∈ ps, p.2.cells.size = k) → (i + ps.length) * k ≤ cells.size →
    ∃ cells', Instr.fill (fun i => some (i * k, k)) cells ps = some cells' ∧ cells'.size = cells.size ∧
      ∀ q, cells'.getD q Go.undef = if i * k ≤ q ∧ q < (i + ps.length) * k then (cellsOf (ps.map (·.2))).getD (q - i * k) Go.undef else cells.getD q Go.undef
  | [], i, cells, _, _, _ => ⟨cells, rfl, rfl, fun q => by simp; omega⟩
  | (i', v) :: r, i, cells, h1, h2, h3 => by
    have hi : i' = i := h1 0 (by simp)
    subst hi
    have hv : v.cells.size = k := h2 (i', v) (by simp)
    have hk1 : (i' + (r.length + 1)) * k = i' * k + k + r.length * k := by rw [Nat.add_mul, Nat.add_mul]; omega
    simp only [List.length_cons] at h3
    obtain ⟨f1, f2⟩ := fold_set (i' * k) v.cells.toList 0 cells (by simp [hv]; omega)
    have hk2 : (i' + 1 + r.length) * k = i' * k + k + r.length * k := by rw [Nat.add_mul, Nat.add_mul]; omega
    have hk3 : (i' + 1) * k = i' * k + k := by rw [Nat.add_mul]; omega
    obtain ⟨cells', k1, k2, k3⟩ := fillSeq r (i' + 1) (((v.cells.toList.zipIdx 0).foldl (fun cs p => cs.setIfInBounds (i' * k + p.2) p.1) cells)) (fun j hj => by have := h1 (j + 1) (by simp; omega); simp at this; omega)
      (fun p hp => h2 p (by simp [hp])) (by rw [f1]; omega)
    refine ⟨cells', ?_, k2.trans f1, fun q => ?_⟩
    · simp only [Instr.fill]
      rw [if_neg (by simp [hv]; omega), ← k1]
      congr 1
      rw [← Array.foldl_toList, Array.toList_zipIdx]
    · rw [k3 q, f2 q]
      have hc0 : (cellsOf (List.map (·.2) ((i', v) :: r))) = v.cells.toList ++ cellsOf (r.map (·.2)) := by simp [cellsOf]
      simp only [List.length_cons, Array.length_toList, hv, Nat.add_zero, hc0, hk1, hk2, hk3]
      by_cases g1 : i' * k + k ≤ q ∧ q < i' * k + k + r.length * k
      · rw [if_pos g1, if_pos (by omega)]
        simp only [List.getD_eq_getElem?_getD]
        rw [List.getElem?_append_right (by simp [hv]; omega)]
        congr 2
        simp [hv]; omega
      · rw [if_neg g1]
        by_cases g2 : i' * k ≤ q ∧ q < i' * k + k
        · rw [if_pos g2, if_pos (by omega)]
          simp only [List.getD_eq_getElem?_getD]
          rw [List.getElem?_append_left (by simp [hv]; omega)]
        · rw [if_neg g2, if_neg (by omega)]
section
variable {P : Program} {T : Types} (hT : TOk P T) {σ : St} {g : Nat → AV} {o : Oper} {ss : Sets} {h' : Option (List Obj)} {H : List Obj} {an : Ann}
  (hg : Less g σ) (hgd : ∀ d, o.dst = some d → g d = σ.get d) (h : evBase Ar.std T an σ.n g H o = some (ss, h'))
include hT hg hgd h
theorem step_buildSlice {t : TypeId} {cnt : Nat} {parts : Array (Nat × Operand)} (hop : o.op = .buildSlice t cnt parts) : StepOk P σ o ss h' := by
  have hnd : ∀ c, o.op ≠ .defer c := by simp [hop]
  simp only [evBase, hop] at h
  split at h
  · rename_i sz e z ht
    split at h
    · rename_i td hte
      split at h
      · rename_i hc
        simp at hc
        obtain ⟨⟨⟨hps, hpos⟩, hbig⟩, hsome⟩ := hc
        split at h
        · rename_i l hl
          obtain ⟨rfl, hcase⟩ := put_some h
          intro r n m G a w Q next hm R hn
          obtain ⟨e1, e2, e3⟩ := elems_ok hg R parts.toList 0 l hl
          obtain ⟨i, dd, hi, hdd, hsz, _, huok, z0, hz, hzs, hzl, hzc⟩ := hT.info hte
          let vals : List Value := parts.toList.map fun p => a.eval p.2
          have hlv : l.length = vals.length := by simp [vals, e1]
          have hlen : l.length = cnt := by rw [e1]; simpa using hps
          have hrep : ∀ (j : Nat) (hj : j < l.length) (hj' : j < vals.length), RepD G.K l[j] vals[j] := by
            intro j hj hj'
            have := (e3 j (by simpa [vals] using hj') hj).2
            simpa [vals] using this
          obtain ⟨c1, c2⟩ := flat_rep hpos hlv e2 hrep
          have hvu : ∀ p ∈ (parts.toList.map fun p => (p.1, a.eval p.2)), p.2.cells.size = td.size := by
            intro p hp
            obtain ⟨j, hj, rfl⟩ := List.mem_iff_getElem.1 hp
            simp at hj
            have := (hrep j (by omega) (by simp [vals]; omega)).cells.1
            simp [vals] at this
            simp [this]
            exact e2 _ (List.getElem_mem _)
          obtain ⟨cells', k1, k2, k3⟩ := fillSeq (parts.toList.map fun p => (p.1, a.eval p.2)) 0 ((Array.range (cnt * td.size)).map (z0.cells[· % z0.cells.size]!)) (fun j hj => by
            simp at hj ⊢
            have := (e3 j (by simpa using hj) (by omega)).1
            simpa using this) hvu (by simp [hps])
          have hrun : (execOp a.eval o).run P w = .ok (.value (.slice (some ⟨w.heap.size, 0, none⟩) l.length l.length)) (w.alloc (.cells cells' e)) := by
            have hb : ¬ 2 ^ 24 < cnt * td.size := by omega
            have k1' : Instr.fill (fun i => some (i * td.size, td.size)) ((Array.range (cnt * td.size)).map (z0.cells[· % z0.cells.size]!)) (parts.map fun p => (p.1, a.eval p.2)).toList = some cells' := by
              simpa using k1
            by_cases h0 : cnt * td.size = 0
            · have hc0 : cnt = 0 := by
                rcases Nat.mul_eq_zero.1 h0 with h | h
                · exact h
                · omega
              subst hc0
              have hcells : cells' = #[] := by
                have : cells'.size = 0 := by rw [k2]; simp
                exact Array.eq_empty_of_size_eq_zero this
              subst hcells
              have hp0 : parts = #[] := by
                exact Array.eq_empty_of_size_eq_zero hps
              subst hp0
              simp [execOp, hop, Instr.buildSlice, Go.underlying, hT.slice ht, hT.size hte, Instr.fill, newRow, hlen]
              exact congrArg (fun c => w.alloc (.cells c e)) (Array.eq_empty_of_size_eq_zero (by simp))
            · have hne' : ¬ (cnt = 0 ∨ td.size = 0) := by
                intro hh; exact h0 (Nat.mul_eq_zero.2 hh)
              have key : (Instr.buildSlice t cnt (parts.map fun p => (p.1, a.eval p.2))).run P w = .ok (.slice (some ⟨w.heap.size, 0, none⟩) cnt cnt) (w.alloc (.cells cells' e)) := by
                unfold Instr.buildSlice
                simp only [Sem.run_bind, Go.underlying, run_program, Result.andThen_ok, hT.slice ht, Sem.run_pure, hT.size hte, gt_iff_lt, if_neg hb, if_neg h0]
                simp only [zeroValue, typeInfo, Sem.run_bind, run_program, hi, hz, Result.andThen_ok, Sem.run_pure]
                rw [k1']
                simp [newRow]
              simp only [execOp, hop, Sem.run_bind]
              rw [key]
              simp [hlen]
          have hw1 : w.heap = w.heap := rfl
          rcases hcase with ⟨hdst, rfl⟩ | ⟨d, hdst, rfl, hlt, hbox⟩
          · rw [hdst] at hsome; cases hsome
          · obtain ⟨G', R', hext⟩ := R.newList (w1 := w) rfl rfl rfl (d := d) (k := td.size) (cap := l.length) (l := l) (vs := cells') e hlt (by rw [← hgd d hdst]; exact hbox) e2 (Nat.le_refl _) (by rw [k2]; simp [hlen])
              (fun q hq => by
                have hq' : q < cnt * td.size := by rw [← hlen, ← flat_length e2]; exact hq
                rw [k3 q, if_pos (by simp [hps]; exact hq')]
                have := c2 q hq
                simpa [vals, Function.comp_def] using this)
            refine wp_value hnd hrun (hn G' _ _ ?_ (hext m))
            rw [hdst]; exact R'
        · simp at h
      · simp at h
    · simp at h
  · simp at h
end
theorem Rel.inPlace {G : Gh} {σ : St} {a : Act} {w : World} (R : Rel G σ a w) {s d k n cap : Nat} {l ys : List D} {b off : Nat} {z : Bool} (hs : σ.get s = .ownZ z k l) (hsv : a.tmps.getD s Go.undef = .slice (some ⟨b, off, none⟩) n cap)
    (hlt : d < σ.n) (hbox : (σ.get d).isBox = false) (hu : uniform k ys) {vs : List Value} (hvl : vs.length = (D.flat ys).length)
    (hv : ∀ (q : Nat) (hq : q < (D.flat ys).length), RepD G.K (D.flat ys)[q] (vs.getD q Go.undef) ∧ (vs.getD q Go.undef).oneCell' = true) (hfit : n + ys.length ≤ cap) (hys : ys ≠ []) :
    n = l.length ∧ ∃ cur e, w.heap[b]? = some (.cells cur e (0, 0)) ∧ off + cap * k ≤ cur.size ∧ ∃ G', Rel G' (σ.upd [(s, .d (.list k l)), (d, .ownZ z k (l ++ ys))] none)
      (a.put (some d) (.slice (some ⟨b, off, none⟩) (n + ys.length) cap)) (w.setRow b (rowOf cur (off + n * k) vs)) ∧ ∀ m, Ext m G w G' (w.setRow b (rowOf cur (off + n * k) vs)) := by
  have hrep := R.slots s
  rw [hs, hsv, ownZ_rep] at hrep
  obtain ⟨hr, ht⟩ := hrep
  have hyp : 0 < ys.length := List.length_pos_iff.2 hys
  obtain ⟨f, cur, e, hO, hf, hw, hsz, hoff0⟩ := ht _ _ _ rfl (by omega)
  dsimp only at hO hf hw hsz hoff0
  obtain ⟨rfl, hul, hcl, vs0, hK, h1, hh⟩ : n = l.length ∧ uniform k l ∧ l.length ≤ cap ∧ ∃ vs0 : Nat → Value, (∀ j, j < (D.flat l).length → G.K ⟨b, off + j, none⟩ = some (vs0 j)) ∧ (∀ j, j < (D.flat l).length → (vs0 j).oneCell' = true) ∧
      ∀ (j : Nat) (hj : j < (D.flat l).length), RepD G.K (D.flat l)[j] (vs0 j) := by
    generalize hv' : Value.slice (some ⟨b, off, none⟩) n cap = v at hr
    cases hr with
    | nil => simp at hv'
    | none0 => simp at hv'; omega
    | list k l b' off' cap' vs0 hu hc hK h1 hh =>
      simp at hv'
      obtain ⟨⟨rfl, rfl⟩, rfl, rfl⟩ := hv'
      exact ⟨rfl, hu, hc, vs0, hK, h1, hh⟩
  refine ⟨rfl, cur, e, hw, hsz, ?_⟩
  have hfl := flat_length hul
  have hfy := flat_length hu
  have hle : (l.length + ys.length) * k ≤ cap * k := Nat.mul_le_mul_right k hfit
  have hadd : (l.length + ys.length) * k = l.length * k + ys.length * k := Nat.add_mul _ _ _
  let lo := off + l.length * k
  let hi := off + (l.length + ys.length) * k
  have hcur : lo + vs.length ≤ cur.size := by simp only [lo]; omega
  let G' : Gh := (G.own b (.s d) hi).keep b lo hi (fun q => vs.getD (q - lo) Go.undef)
  let w' := w.setRow b (rowOf cur lo vs)
  have hw' : w'.heap[b]? = some (.cells (rowOf cur lo vs) e (0, 0)) := setRow_heap _ _ _ _ _ _ hw
  have hother : ∀ b', b' ≠ b → w'.heap[b']? = w.heap[b']? := fun b' hb => setRow_other _ _ _ _ hb
  have hblt := (R.h.disj _ _ _ hO).1
  have hfree := (R.h.disj _ _ _ hO).2
  have hKle : KLe G.K G'.K := by
    intro x v h
    simp only [G', Gh.keep, Gh.own]
    rw [if_neg]; exact h
    rintro ⟨hb, hsp, h2, h3⟩
    obtain ⟨xb, xo, xs⟩ := x
    simp at hb hsp
    subst hb hsp
    rw [hfree xo (by simp only [lo] at h2; omega)] at h; cases h
  have hOold : ∀ b' x f', x ≠ .s s → G.O b' = some (x, f') → G'.O b' = some (x, f') := by
    intro b' x f' hx h
    have : b' ≠ b := by rintro rfl; rw [hO] at h; simp at h; exact hx h.1.symm
    simp [G', Gh.own, Gh.keep, this, h]
  have hpr : Pres G G' w w' (fun x => x ≠ .s s) :=
    ⟨hKle, fun b' x f' hx h => ⟨hOold b' x f' hx h, hother b' (by rintro rfl; rw [hO] at h; simp at h; exact hx h.1.symm)⟩, fun _ _ => rfl, Nat.le_refl _⟩
  have hd' : d < a.tmps.size := by rw [R.size]; exact hlt
  have hKnew : ∀ q, q < ys.length * k → G'.K ⟨b, lo + q, none⟩ = some (vs.getD q Go.undef) := by
    intro q hq
    have c1 : lo ≤ lo + q := Nat.le_add_right _ _
    have c2 : lo + q < hi := by simp only [lo, hi]; omega
    simp only [G', Gh.keep, Gh.own]
    rw [if_pos ⟨trivial, trivial, c1, c2⟩]
    congr 2; omega
  have hrepNew : RepD G'.K (.list k (l ++ ys)) (.slice (some ⟨b, off, none⟩) (l.length + ys.length) cap) := by
    have huu : uniform k (l ++ ys) := fun x hx => by rcases List.mem_append.1 hx with hx | hx; exact hul x hx; exact hu x hx
    have := RepD.list (K := G'.K) k (l ++ ys) b off cap (fun j => if j < l.length * k then vs0 j else vs.getD (j - l.length * k) Go.undef) huu (by simp; omega)
      (fun j hj => ?_) (fun j hj => ?_) (fun j hj => ?_)
    · simpa using this
    all_goals rw [flat_append, List.length_append, hfl, hfy] at hj
    · split
      · exact hKle _ _ (hK j (by omega))
      · have := hKnew (j - l.length * k) (by omega)
        rwa [show lo + (j - l.length * k) = off + j by simp only [lo]; omega] at this
    · split
      · exact h1 j (by omega)
      · exact (hv _ (by omega)).2
    · simp only [flat_append]
      split
      · rw [List.getElem_append_left (by omega)]
        exact (hh j (by omega)).mono hKle
      · rw [List.getElem_append_right (by omega)]
        have := (hv (j - l.length * k) (by omega)).1.mono hKle
        simpa [hfl] using this
  refine ⟨G', ⟨⟨⟨fun b' x f' h => ?_⟩, R.h.nh, fun i ob hob => ?_, fun x v h => ?_, fun b' x f' h => ?_⟩, by simpa [Act.put, St.upd] using R.size, ?_, ?_, ?_⟩, fun m => ⟨hKle, fun x v h => ?_, fun b' hb h => ⟨?_, ?_⟩, by simp, fun _ _ => rfl, rfl, rfl, frozen?_setRow' _ _ _⟩⟩
  · simp only [G', Gh.own, Gh.keep] at h
    split at h
    · simp at h; rw [← h.1]; simp [Loc.root]
    · exact R.h.sane.no b' x f' h
  · exact (R.h.objs i ob hob).pres R.h.sane (by rw [← R.h.nh]; exact (List.getElem?_eq_some_iff.1 hob).1) hpr (by simp) (by simp)
  · show w'.cell? x = some v
    simp only [G', Gh.keep, Gh.own] at h
    split at h
    · rename_i hc
      obtain ⟨hb, hsp, h2, h3⟩ := hc
      obtain ⟨xb, xo, xs⟩ := x
      simp at hb hsp h2 h3 h
      subst hb hsp
      have hlt2 : xo < cur.size := by simp only [hi] at h3; omega
      rw [cell_at hw' (by rw [rowOf_size hcur]; exact hlt2), rowOf_get hcur]
      rw [if_neg (by omega), if_pos (by simp only [hi, lo] at h3 h2 ⊢; omega)]
      simpa using h
    · have hx := R.h.kept x v h
      by_cases hxb : x.block = b
      · have hsp : x.spot = none := by
          unfold World.cell? at hx
          split at hx
          · split at hx
            · cases hx
            · rename_i hsp; simpa using hsp
          · cases hx
        obtain ⟨xb, xo, xs⟩ := x
        simp at hxb hsp
        subst hxb hsp
        have hlo : xo < lo := by
          rcases Nat.lt_or_ge xo lo with h' | h'
          · exact h'
          · rw [hfree xo (by simp only [lo] at h'; omega)] at h; cases h
        have hxs : xo < cur.size := by omega
        rw [cell_at hw' (by rw [rowOf_size hcur]; exact hxs), rowOf_get hcur, if_pos hlo]
        rwa [cell_at hw hxs] at hx
      · unfold World.cell? at *
        rwa [hother _ hxb]
  · simp only [G', Gh.own, Gh.keep] at h
    split at h
    · rename_i hbe; subst hbe
      simp at h
      obtain ⟨_, rfl⟩ := h
      refine ⟨by simpa [w'] using hblt, fun j hj => ?_⟩
      simp only [G', Gh.keep, Gh.own]
      rw [if_neg (by intro hc; have := hc.2.2.2; omega)]
      exact hfree j (by simp only [hi] at hj; omega)
    · rename_i hbe
      have := R.h.disj b' x f' h
      refine ⟨by simpa [w'] using this.1, fun j hj => ?_⟩
      simp only [G', Gh.keep, Gh.own]
      rw [if_neg (by intro hc; exact hbe hc.1)]
      exact this.2 j hj
  · intro t
    simp only [Act.put, getD_set _ _ _ _ hd', St.upd, St.get, esets, List.foldl_cons, List.foldl_nil, eget_eset]
    split
    · rename_i e'; subst e'
      refine ownZ_rep.2 ⟨hrepNew, ?_⟩
      intro a' n' cap' hv' _
      simp at hv'
      obtain ⟨rfl, rfl, rfl⟩ := hv'
      exact ⟨hi, _, e, by simp [G', Gh.own, Gh.keep], Nat.le_refl _, hw', by rw [rowOf_size hcur]; exact hsz, hoff0⟩
    · split
      · rename_i e'; subst e'
        rw [hsv]
        exact .d _ _ _ (hr.mono hKle)
      · rename_i hne
        exact (R.slots t).pres R.h.sane hpr (by simp; exact fun e => hne e.symm) (fun r' off' e' => rfl) (fun t' e' hbx => ⟨rfl, by simp⟩)
  · intro t r'' off' ht
    simp only [St.upd, St.get, esets, List.foldl_cons, List.foldl_nil, eget_eset] at ht ⊢
    split at ht
    · exact absurd ht (by cases z <;> simp [AV.ownZ])
    · split at ht
      · cases ht
      · obtain ⟨cs', hcs'⟩ := R.places t r'' off' ht
        split
        · rename_i e; subst e; rw [show σ.get d = _ from hcs'] at hbox; simp [AV.isBox] at hbox
        · split
          · rename_i e; subst e; rw [hcs'] at hs; exact absurd hs (by cases z <;> simp [AV.ownZ])
          · exact ⟨cs', hcs'⟩
  · refine ⟨R.df.1, fun x hx => ?_⟩
    obtain ⟨r0, h1, h2, h3⟩ := R.df.2 x hx
    exact ⟨r0, h1, hOold _ _ _ (by simp) h2, by rw [hother _ (by rintro rfl; rw [hO] at h2; simp at h2)]; exact h3⟩
  · simp only [G', Gh.keep, Gh.own] at h
    split at h
    · rename_i hc; exact .inr (.inl ⟨(.s s, f), by rw [hc.1]; exact hO⟩)
    · exact .inl h
  · exact hother b' (by rintro rfl; rw [hO] at h; cases h)
  · have : b' ≠ b := by rintro rfl; rw [hO] at h; cases h
    simp [G', Gh.own, Gh.keep, this, h]
theorem growBy_le (need : Nat) : ∀ (r c : Nat), Builtin.growBy need r c ≤ max c (2 * need + 200)
  | 0, c => by simp [Builtin.growBy]; omega
  | r + 1, c => by
    unfold Builtin.growBy
    split
    · omega
    · have := growBy_le need r (c + (c + 768) / 4)
      omega
theorem nextslicecap_le {need cap : Nat} (h : cap < need) : Builtin.nextslicecap need cap ≤ 2 * need + 200 := by
  unfold Builtin.nextslicecap
  split
  · omega
  · split
    · omega
    · have := growBy_le need 4 cap
      omega
theorem firstCells_run {P : Program} {G : Gh} {w : World} (hk : ∀ x v, G.K x = some v → w.cell? x = some v) {k : Nat} {l : List D} {v : Value} (h : RepD G.K (.list k l) v) :
    ∃ arr : Array Value, (Builtin.firstCells k l.length v).run P w = .ok arr w ∧ arr.size = (D.flat l).length ∧ uniform k l ∧
      ∀ (q : Nat) (hq : q < (D.flat l).length), RepD G.K (D.flat l)[q] (arr.getD q Go.undef) ∧ (arr.getD q Go.undef).oneCell' = true := by
  cases h with
  | nil => exact ⟨#[], by simp [Builtin.firstCells], rfl, fun x hx => by simp at hx, fun q hq => by simp [D.flat] at hq⟩
  | none0 k a => exact ⟨#[], by simp [Builtin.firstCells, loadCells, loadCellsFrom], rfl, fun x hx => by simp at hx, fun q hq => by simp [D.flat] at hq⟩
  | list k l b off cap vs hu hc hK h1 hh =>
    have hfl := flat_length hu
    have hl := run_loadCells (P := P) w ⟨b, off, none⟩ (l.length * k) vs (fun j hj => by rw [Addr.add_none]; exact hk _ _ (hK j (by omega)))
    refine ⟨((List.range (l.length * k)).map vs).toArray, by simp [Builtin.firstCells, hl], by simp [hfl], hu, fun q hq => ?_⟩
    have : ((List.range (l.length * k)).map vs).toArray.getD q Go.undef = vs q := by
      simp [show q < l.length * k by omega]
    rw [this]
    exact ⟨hh q hq, h1 q hq⟩
theorem Rel.drew {G : Gh} {σ : St} {a : Act} {w w1 : World} (R : Rel G σ a w) (h : w1.heap = w.heap) : Rel G σ a w1 := by
  have hpr : Pres G G w w1 (fun _ => True) := ⟨KLe.refl _, fun b x f _ hO => ⟨hO, by rw [h]⟩, fun _ _ => rfl, Nat.le_refl _⟩
  have hc : ∀ x, w1.cell? x = w.cell? x := by intro x; unfold World.cell?; rw [h]
  refine ⟨⟨R.h.sane, R.h.nh, fun i ob hob => (R.h.objs i ob hob).pres R.h.sane (by rw [← R.h.nh]; exact (List.getElem?_eq_some_iff.1 hob).1) hpr trivial (fun _ => trivial),
    fun x v hx => by rw [hc]; exact R.h.kept x v hx, fun b ℓ f hO => by rw [h]; exact R.h.disj b ℓ f hO⟩, R.size, fun t => (R.slots t).pres R.h.sane hpr trivial (fun _ _ _ => rfl) (fun _ _ _ => ⟨rfl, fun _ => trivial⟩), R.places, ?_⟩
  exact ⟨R.df.1, fun d hd => by obtain ⟨r, h1, h2, h3⟩ := R.df.2 d hd; exact ⟨r, h1, h2, by rw [h]; exact h3⟩⟩
theorem Ext.drew {m : Nat} {G : Gh} {w w1 : World} (h : w1.heap = w.heap) (h1 : w1.os = w.os) (h2 : w1.output = w.output) : Ext m G w G w1 :=
  ⟨KLe.refl _, fun _ _ h => .inl h, fun b _ hO => ⟨by rw [h], hO⟩, by rw [h]; exact Nat.le_refl _, fun _ _ => rfl, h1, h2, fun a => by unfold World.frozen?; rw [h]⟩
theorem append_core {P : Program} {T : Types} (hT : TOk P T) {σ : St} {g : Nat → AV} {o : Oper} (hg : Less g σ) (hgd : ∀ d, o.dst = some d → g d = σ.get d) {s d k1 : Nat} {y : Operand} {t u : TypeId} {l ys : List D} {z : Bool}
    (hop : o.op = .call { callee := .builtin .append, args := #[.tmp s, y], argTypes := #[t, u] }) (ht : elemSize T t = some k1) (hu' : elemSize T u = some k1) (hy : listOf T g u y = some (k1, ys)) (hdst : o.dst = some d)
    (hs : σ.get s = .ownZ z k1 l ∨ (σ.get s = .lim k1 l ∧ ys ≠ [] ∧ z = true)) (hz : z = false → ys ≠ []) (_ : 0 < k1) (hlt : d < σ.n) (hbx : (g d).isBox = false) (hsd : ¬ s = d) (hfits : (l.length : Int) + ys.length < 4294967296) :
    StepOk P σ o [(s, .d (.list k1 l)), (d, .ownZ z k1 (l ++ ys))] none := by
  have hnd : ∀ c, o.op ≠ .defer c := by simp [hop]
  obtain ⟨sz, e, zz, td, hTt, hTe, hks⟩ := elemSize_some ht
  obtain ⟨sz1, e1, zz1, td1, hTt1, hTe1, hks1⟩ := elemSize_some hu'
  have hdb : (σ.get d).isBox = false := by rw [← hgd d hdst]; exact hbx
  obtain ⟨ie, dd, hie, hdd, hsz, hbytes, huok, z0, hz, hzs, hzl, hzc⟩ := hT.info hTe
  intro r n m G a w Q next hm R hn
  have hys := listOf_ok hg hy R
  obtain ⟨arrY, f1, f2, f3, f4⟩ := firstCells_run (P := P) R.h.kept hys
  have hrep := R.slots s
  have hev : a.eval (.tmp s) = a.tmps.getD s Go.undef := rfl
  generalize hsv : a.tmps.getD s Go.undef = sv at hrep
  have hr : RepD G.K (.list k1 l) sv := by
    rcases hs with hs | ⟨hs, _⟩
    · rw [hs, ownZ_rep] at hrep; exact hrep.1
    · rw [hs] at hrep; cases hrep; assumption
  have hlim : ∀ b n cap, sv = .slice b n cap → σ.get s = .ownZ z k1 l ∨ (n = cap ∧ ys ≠ []) := by
    intro b n cap e
    rcases hs with hs | ⟨hs, hne⟩
    · exact .inl hs
    · rw [hs] at hrep
      cases hrep with | lim _ _ _ _ _ ht => exact .inr ⟨ht _ _ _ e, hne.1⟩
  clear hrep
  obtain ⟨arrS, s1, s2, s3, s4⟩ := firstCells_run (P := P) R.h.kept hr
  
  have hyl : ∃ b cap, a.eval y = .slice b ys.length cap := by
    rcases hys.slice with ⟨rfl, oa, hv⟩ | ⟨b, off, cap, hv⟩
    · exact ⟨_, _, hv⟩
    · exact ⟨_, _, hv⟩
  obtain ⟨by', cy, hyv⟩ := hyl
  rw [hyv] at f1
  have hsl : ∃ b cap, sv = .slice b l.length cap ∧ (b = none → cap = 0) := by
    rcases hr.slice with ⟨rfl, oa, hv⟩ | ⟨b, off, cap, hv⟩
    · exact ⟨_, _, hv, fun _ => rfl⟩
    · exact ⟨_, _, hv, fun h => by cases h⟩
  obtain ⟨bs, cs, rfl, hbn⟩ := hsl
  have huni : uniform k1 (l ++ ys) := fun x hx => by rcases List.mem_append.1 hx with hx | hx; exact s3 x hx; exact f3 x hx
  have hnz : ∀ w : World, (Go.underlying u).run P w = .ok (.slice e1) w := by intro w; simp [Go.underlying, hT.slice hTt1]
  have hs' : σ.get s = .own k1 l ∨ σ.get s = .lim k1 l ∨ σ.get s = .tail k1 l := by
    rcases hs with hs | ⟨hs, _⟩
    · cases z
      · exact .inr (.inr hs)
      · exact .inl hs
    · exact .inr (.inl hs)
  by_cases hcap : l.length + ys.length ≤ cs
  · 
    have hso : σ.get s = .ownZ z k1 l := by
      rcases hlim _ _ _ rfl with hs | ⟨hn, hne⟩
      · exact hs
      · have hyp : 0 < ys.length := List.length_pos_iff.2 hne
        omega
    by_cases hy0 : ys = []
    · obtain rfl : z = true := by cases z with | true => rfl | false => exact absurd hy0 (hz rfl)
      have hso : σ.get s = .own k1 l := hso
      subst hy0
      have harr : arrY = #[] := Array.eq_empty_of_size_eq_zero (by simpa [D.flat] using f2)
      subst harr
      have hrun : (execOp a.eval o).run P w = .ok (.value (.slice bs l.length cs)) w := by
        have hcap' : l.length ≤ cs := by simpa using hcap
        simp at f1
        cases bs with
        | none => simp [execOp, hop, resolve, invoke, Go.builtin, Builtin.append_, hev, hsv, hyv, Go.underlying, hT.slice hTt, hT.slice hTt1, hT.size hTe, Builtin.lenOf, hks, f1, hcap']
        | some b => simp [execOp, hop, resolve, invoke, Go.builtin, Builtin.append_, hev, hsv, hyv, Go.underlying, hT.slice hTt, hT.slice hTt1, hT.size hTe, Builtin.lenOf, hks, f1, hcap', storeCells]
      obtain ⟨R1, hrep1⟩ := R.give hso (.s d) (by simp [Loc.root])
      refine wp_value hnd hrun (hn _ _ _ ?_ (Ext.move m G w (.s s) (.s d)))
      rw [hdst]
      rw [hsv] at hrep1
      have hb1 : ((σ.upd [(s, .d (.list k1 l))] none).get d).isBox = false := by
        simp only [St.upd, St.get, esets, List.foldl_cons, List.foldl_nil, eget_eset, if_neg hsd]; exact hdb
      have := R1.put (d := d) hrep1 (fun r off e => by cases e) hb1 hlt
      rw [upd_upd] at this
      simpa [AV.ownZ] using this
    · cases bs with
      | none =>
        have := hbn rfl
        have hyp : 0 < ys.length := List.length_pos_iff.2 hy0
        omega
      | some ad =>
        obtain ⟨b, off, spot⟩ := ad
        have hspot : spot = none := by
          rcases hr.slice with ⟨_, oa, hv⟩ | ⟨b', off', cap', hv⟩
          · simp at hv
            have hyp : 0 < ys.length := List.length_pos_iff.2 hy0
            omega
          · simp at hv; exact hv.1.2.2
        subst hspot
        obtain ⟨_, cur, ec, hw, hcs, G', R', hext⟩ := R.inPlace (vs := arrY.toList) hso hsv hlt hdb f3 (by simpa using f2)
          (fun q hq => by have := f4 q hq; simpa [List.getD, Array.getD_eq_getD_getElem?] using this) hcap hy0
        have hlen : arrY.toList.length = ys.length * k1 := by rw [← flat_length f3]; simpa using f2
        have hmul : (l.length + ys.length) * k1 ≤ cs * k1 := Nat.mul_le_mul_right k1 hcap
        have hst := run_storeCells_at P b (off + l.length * k1) ec arrY.toList 0 cur w hw (by rw [Nat.add_mul] at hmul; omega) (fun v hv => by
          obtain ⟨q, hq, rfl⟩ := List.mem_iff_getElem.1 hv
          have := (f4 q (by simp at hq; omega)).2
          have hq' : q < arrY.size := by simpa using hq
          simpa [Array.getD, hq'] using this)
        have hrun : (execOp a.eval o).run P w = .ok (.value (.slice (some ⟨b, off, none⟩) (l.length + ys.length) cs)) (w.setRow b (rowOf cur (off + l.length * k1) arrY.toList)) := by
          simp only [Nat.add_zero] at hst
          simp [execOp, hop, resolve, invoke, Go.builtin, Builtin.append_, hev, hsv, hyv, Go.underlying, hT.slice hTt, hT.slice hTt1, hT.size hTe, Builtin.lenOf, hks, f1, hcap, Addr.add_none, hst, rowOf]
        refine wp_value hnd hrun (hn G' _ _ ?_ (hext m))
        rw [hdst]; exact R'
  · 
    have R1 := R.demote hs'
    have hneed : l.length + ys.length < 4294967296 := by omega
    have hbig : ¬ Builtin.nextslicecap (l.length + ys.length) cs * ie.bytes > 2 ^ 48 := by
      have h1 := nextslicecap_le (need := l.length + ys.length) (cap := cs) (by omega)
      have h2 : Builtin.nextslicecap (l.length + ys.length) cs * ie.bytes ≤ (2 * (l.length + ys.length) + 200) * 4096 := Nat.mul_le_mul h1 hbytes
      omega
    have hmax : ¬ (((l.length + ys.length : Nat) : Int) > IntKind.i64.max) := by
      have : IntKind.i64.max = 9223372036854775807 := by decide
      omega
    let qn := Question.appendCap (l.length + ys.length) cs e
    have hforced : qn.forced = false := rfl
    let nc := qn.cut (w.tape w.drawn qn)
    let wd := w.drew
    have hwd : wd.heap = w.heap := rfl
    have hwdos : wd.os = w.os := rfl
    have hwdout : wd.output = w.output := rfl
    have hnc : l.length + ys.length ≤ nc := by simp [nc, qn, Question.cut]
    let rest := Builtin.zeroCells z0.cells (nc - (l.length + ys.length))
    have hrest : rest.size = (nc - (l.length + ys.length)) * k1 := by simp [rest, Builtin.zeroCells, hzs, hks]
    have hkd : ∀ x v, G.K x = some v → wd.cell? x = some v := by
      intro x v hx
      have := R.h.kept x v hx
      unfold World.cell? at *
      rwa [hwd]
    obtain ⟨arrY, f1, f2, _, f4⟩ := firstCells_run (P := P) hkd hys
    obtain ⟨arrS, s1, s2, _, s4⟩ := firstCells_run (P := P) hkd hr
    rw [hyv] at f1
    have hrun : (execOp a.eval o).run P w = .ok (.value (.slice (some ⟨w.heap.size, 0, none⟩) (l.length + ys.length) nc)) (wd.alloc (.cells (arrS ++ arrY ++ rest) e)) := by
      have hcap' : ¬ l.length + ys.length ≤ cs := hcap
      have key : (Builtin.append_ #[t, u] o.type #[.slice bs l.length cs, a.eval y]).run P w = .ok (.slice (some ⟨w.heap.size, 0, none⟩) (l.length + ys.length) nc) (wd.alloc (.cells (arrS ++ arrY ++ rest) e)) := by
        unfold Builtin.append_
        simp [Go.underlying, hT.slice hTt, hT.slice hTt1, hT.size hTe, Builtin.lenOf, hyv, hcap', hks, typeInfo, hie, hbig]
        have hmax' : ¬ ((9223372036854775807 : Int) < (l.length : Int) + (ys.length : Int) ∧ ie.bytes = 0) := by
          intro hh; omega
        rw [if_neg hmax']
        have hforced' : (Question.appendCap (l.length + ys.length) cs e).forced = false := rfl
        simp only [hforced', Bool.false_eq_true, if_false]
        rw [show (Builtin.firstCells k1 l.length (Value.slice bs l.length cs)).run P w.drew = _ from s1]
        simp only [Result.andThen_ok]
        rw [show (Builtin.firstCells k1 ys.length (Value.slice by' ys.length cy)).run P w.drew = _ from f1]
        simp only [Result.andThen_ok, zeroValue, typeInfo, Sem.run_bind, run_program, hie, hz, Sem.run_pure, newRow, run_newObj]
        simp [rest, nc, qn, wd]
        rfl
      simp only [execOp, hop, resolve, invoke, Go.builtin, Sem.run_bind, Sem.run_pure, Result.andThen_ok]
      simp [hev, hsv, key]
    have hfl := flat_length s3
    have hfy := flat_length f3
    have hb1 : ((σ.upd [(s, .d (.list k1 l))] none).get d).isBox = false := by
      simp only [St.upd, St.get, esets, List.foldl_cons, List.foldl_nil, eget_eset, if_neg hsd]; exact hdb
    obtain ⟨G', R', hext⟩ := R1.newList (w1 := wd) hwd hwdos hwdout (d := d) (k := k1) (cap := nc) (l := l ++ ys) (vs := arrS ++ arrY ++ rest) e hlt hb1 huni (by simpa using hnc) (by
        have : (arrS ++ arrY ++ rest).size = nc * k1 := by
          simp only [Array.size_append, s2, f2, hfl, hfy, hrest]
          rw [← Nat.add_mul, ← Nat.add_mul]; congr 1; omega
        omega)
      (fun q hq => by
        simp only [flat_append] at hq ⊢
        have e0 : (arrS ++ arrY ++ rest).getD q Go.undef = if q < arrS.size then arrS.getD q Go.undef else arrY.getD (q - arrS.size) Go.undef := by
          simp only [List.length_append] at hq
          simp only [Array.getD_eq_getD_getElem?]
          split
          · rename_i hq1
            rw [Array.getElem?_append_left (by simp; omega), Array.getElem?_append_left hq1]
          · rename_i hq1
            rw [Array.getElem?_append_left (by simp; omega), Array.getElem?_append_right (by omega)]
        rw [e0]
        by_cases hq1 : q < arrS.size
        · rw [if_pos hq1, List.getElem_append_left (by omega)]
          exact s4 q (by omega)
        · rw [if_neg hq1, List.getElem_append_right (by omega)]
          have := f4 (q - arrS.size) (by simp at hq; omega)
          simpa [s2] using this)
    refine wp_value hnd hrun (hn G' _ _ ?_ (hext m))
    rw [hdst]
    rw [upd_upd] at R'
    have hsd' : s ≠ d := hsd
    have R2 := R'.loosen (s := d) (k := k1) (l := l ++ ys) (z := z) (by simp [St.upd, St.get, esets, eget_eset])
    rw [upd_upd] at R2
    have he : ∀ (σ : St) (v : AV), σ.upd [(s, .d (.list k1 l)), (d, .own k1 (l ++ ys)), (d, v)] none = σ.upd [(s, .d (.list k1 l)), (d, v)] none := by
      intro σ v
      simp only [St.upd, esets, List.foldl_cons, List.foldl_nil, eset_eset]
    simp only [List.cons_append, List.nil_append, he] at R2
    simpa using R2
section
variable {P : Program} {T : Types} (hT : TOk P T) {σ : St} {g : Nat → AV} {o : Oper} {ss : Sets} {h' : Option (List Obj)} {H : List Obj} {an : Ann}
  (hg : Less g σ) (hgd : ∀ d, o.dst = some d → g d = σ.get d) (h : evBase Ar.std T an σ.n g H o = some (ss, h'))
include hT hg hgd h
theorem step_append {args : Array Operand} {ts : Array TypeId} (hop : o.op = .call { callee := .builtin .append, args := args, argTypes := ts }) : StepOk P σ o ss h' := by
  have hnd : ∀ c, o.op ≠ .defer c := by simp [hop]
  simp only [evBase, hop] at h
  split at h
  · rename_i x y t u hargs hts
    obtain rfl : args = #[x, y] := by cases args; simp_all
    obtain rfl : ts = #[t, u] := by cases ts; simp_all
    split at h
    · rename_i k0 k1 k ys s d ht hu' hy hdst
      have h2 : ∃ l, (g s = .own k l ∨ (g s = .lim k l ∧ ys ≠ [])) ∧ k0 = k ∧ k1 = k ∧ 0 < k ∧ d < σ.n ∧ (g d).isBox = false ∧ ¬ s = d ∧ (l.length : Int) + ys.length < 4294967296 ∧ ss = [(s, .d (.list k l)), (d, .own k (l ++ ys))] ∧ h' = none := by
        split at h
        · rename_i k' l hgs
          split at h
          · rename_i hc
            simp [Ar.std] at hc
            obtain ⟨⟨⟨⟨⟨⟨⟨rfl, rfl⟩, rfl⟩, hpos⟩, hlt⟩, hbx⟩, hsd⟩, hfits⟩ := hc
            simp [Ar.std] at h
            exact ⟨l, .inl hgs, rfl, rfl, hpos, hlt, hbx, hsd, hfits, h.1.symm, h.2.symm⟩
          · simp at h
        · rename_i k' l hgs
          split at h
          · rename_i hc
            simp [Ar.std] at hc
            obtain ⟨⟨⟨⟨⟨⟨⟨⟨hcons, rfl⟩, rfl⟩, rfl⟩, hpos⟩, hlt⟩, hbx⟩, hsd⟩, hfits⟩ := hc
            simp [Ar.std] at h
            exact ⟨l, .inr ⟨hgs, by rintro rfl; cases hcons⟩, rfl, rfl, hpos, hlt, hbx, hsd, hfits, h.1.symm, h.2.symm⟩
          · simp at h
        · simp at h
      obtain ⟨l, hgs, rfl, rfl, hpos, hlt, hbx, hsd, hfits, rfl, rfl⟩ := h2
      refine append_core (z := true) hT hg hgd hop ht hu' hy hdst ?_ (fun h => by cases h) hpos hlt hbx hsd hfits
      rcases hgs with hgs | ⟨hgs, hne⟩
      · have h9 := hg.eq hgs (by simp); exact .inl h9
      · exact .inr ⟨hg.eq hgs (by simp), hne, rfl⟩
    · simp at h
  · simp at h
end
end Go.Am

set_option linter.unusedSimpArgs false
set_option linter.unusedSectionVars false
set_option linter.unusedVariables false
namespace Go.Am
open Go
theorem conf_length : ∀ {ks : List CK} {xs : List D}, confD ks xs = true → xs.length = ks.length
  | [], [], _ => rfl
  | [], _ :: _, h => by simp [confD] at h
  | _ :: _, [], h => by simp [confD] at h
  | k :: ks, x :: xs, h => by
    simp only [confD, Bool.and_eq_true] at h
    simp [conf_length h.2]
theorem conf_append : ∀ {ks ks' : List CK} {xs : List D}, confD (ks ++ ks') xs = true → confD ks (xs.take ks.length) = true ∧ confD ks' (xs.drop ks.length) = true
  | [], ks', xs, h => ⟨by simp [confD], by simpa using h⟩
  | k :: ks, ks', [], h => by simp [confD] at h
  | k :: ks, ks', x :: xs, h => by
    simp only [List.cons_append, confD, Bool.and_eq_true] at h
    obtain ⟨h1, h2⟩ := conf_append h.2
    simp only [List.length_cons, List.take_succ_cons, List.drop_succ_cons, confD, Bool.and_eq_true]
    exact ⟨⟨h.1, h1⟩, h2⟩
theorem fits_rep {K : Addr → Option Value} {k : CK} {x : D} {v : Value} (hf : k.fits x = true) (h : RepD K x v) : v = x.sval := by
  cases k <;> cases x <;> simp [CK.fits] at hf <;> cases h <;> rfl
theorem conf_rep {K : Addr → Option Value} : ∀ {ks : List CK} {xs : List D} {vs : List Value}, confD ks xs = true → vs.length = xs.length → (∀ (i : Nat) (hi : i < xs.length), RepD K xs[i] (vs.getD i Go.undef)) → vs = xs.map D.sval
  | [], [], [], _, _, _ => rfl
  | k :: ks, x :: xs, [], _, hl, _ => by simp at hl
  | k :: ks, x :: xs, v :: vs, h, hl, hr => by
    simp only [confD, Bool.and_eq_true] at h
    have h0 := hr 0 (by simp)
    simp only [List.getElem_cons_zero, List.getD_cons_zero] at h0
    rw [fits_rep h.1 h0, conf_rep (K := K) (ks := ks) (xs := xs) (vs := vs) h.2 (by simpa using hl) (fun i hi => by
      have := hr (i + 1) (by simp; omega)
      simpa using this)]
    rfl
  | [], _ :: _, _, h, _, _ => by simp [confD] at h
  | _ :: _, [], _, h, _, _ => by simp [confD] at h
section
variable {P : Program} {T : Types} (hT : TOk P T)
include hT
theorem ksOf_size {n : Nat} {t : TypeId} {ks : List CK} (h : ksOf T n t = some ks) : ∃ m td, n = m + 1 ∧ T t = some td ∧ ksU (ksOf T m) td.u = some ks ∧ ks.length = td.size := by
  cases n with
  | zero => simp [ksOf] at h
  | succ m =>
    simp only [ksOf] at h
    split at h
    · rename_i td ht
      split at h
      · rename_i ks' hk
        split at h
        · rename_i hl; cases h; exact ⟨m, td, rfl, ht, hk, hl⟩
        · cases h
      · cases h
    · cases h
theorem part_ks {n : Nat} {t : TypeId} {ks : List CK} (h : ksOf T n t = some ks) {td : TD} (ht : T t = some td) {xs : List D} {off : Nat} (hoff : off + ks.length ≤ xs.length) (w : World) :
    (part t (xs.map D.sval).toArray off).run P w = .ok (mkV td.isAgg ((xs.drop off).take ks.length)) w := by
  obtain ⟨m, td', rfl, ht', hk, hl⟩ := ksOf_size hT h
  rw [ht] at ht'; cases ht'
  unfold part
  simp only [Sem.run_bind, hT.isAgg ht, Result.andThen_ok]
  by_cases ha : td.isAgg = true
  · simp only [ha, if_true, Sem.run_bind, hT.size ht, Result.andThen_ok, Sem.run_pure, mkV]
    congr 2
    apply Array.ext'
    simp [Array.toList_extract, List.extract, hl]
  · simp only [ha, Bool.false_eq_true, if_false, mkV]
    have h1 : ks.length = 1 := by
      obtain ⟨sz, u, z⟩ := td
      cases u <;> simp [ksU] at hk <;> first | (subst hk; rfl) | (simp [TD.isAgg] at ha)
    rw [h1]
    have hlt : off < xs.length := by omega
    have e : (xs.drop off).take 1 = [xs[off]] := by
      rw [List.take_one, List.head?_drop, List.getElem?_eq_getElem hlt]; rfl
    simp [e, hlt]
theorem eqGuard_ks : ∀ {n : Nat} {t : TypeId} {ks : List CK}, ksOf T n t = some ks → ∀ d, n ≤ d → P.eqGuardType d t = false := by
  intro n
  induction n with
  | zero => intro t ks h; simp [ksOf] at h
  | succ n ih =>
    intro t ks h d hd
    obtain ⟨m, td, e, ht, hk, hl⟩ := ksOf_size hT h
    obtain rfl : m = n := by omega
    cases d with
    | zero => omega
    | succ d =>
      obtain ⟨de, hde, hu⟩ := hT.under ht
      unfold Program.eqGuardType
      rw [hde]
      obtain ⟨sz, u, z⟩ := td
      cases u <;> cases de <;> simp [uOk] at hu <;> simp [ksU] at hk <;> simp only
      · rename_i m' e' n' e''
        obtain ⟨rfl, rfl⟩ := hu
        split at hk
        · rename_i ks' hks'
          exact ih hks' d (by omega)
        · cases hk
      · rename_i fs fields
        rw [Array.any_eq_false]
        intro i hi
        have key : ∀ (l : List (TypeId × Nat)) (o : Nat) (ks : List CK), ksFs (ksOf T m) o l = some ks → ∀ p ∈ l, P.eqGuardType d p.1 = false := by
          intro l
          induction l with
          | nil => intro o ks _ p hp; simp at hp
          | cons q l ihl =>
            intro o ks h p hp
            obtain ⟨t', off⟩ := q
            simp only [ksFs] at h
            split at h
            · split at h
              · rename_i ks1 h1
                split at h
                · rename_i ks2 h2
                  rcases List.mem_cons.1 hp with rfl | hp
                  · exact ih h1 d (by omega)
                  · exact ihl _ _ h2 p hp
                · cases h
              · cases h
            · cases h
        have := key fs 0 ks hk (fields[i].type, fields[i].offset) (by rw [← hu]; exact List.mem_map.2 ⟨fields[i], Array.mem_toList_iff.2 (Array.getElem_mem hi), rfl⟩)
        simp [this]
omit hT in
theorem run_equalIn_str (w : World) (d : Nat) (t : TypeId) (a b : ByteArray) (h : P.underlying t = some .string) : (Op.equalIn (d + 1) t (.string a) (.string b)).run P w = .ok (a == b) w := by
  simp [Op.equalIn, run_underlying h]
theorem equalIn_ks : ∀ {n : Nat} {t : TypeId} {ks : List CK} {td : TD}, ksOf T n t = some ks → T t = some td → ∀ {xs ys : List D}, confD ks xs = true → confD ks ys = true → ∀ (d : Nat), n ≤ d → ∀ w : World,
    ∃ r : Bool, (Op.equalIn d t (mkV td.isAgg xs) (mkV td.isAgg ys)).run P w = .ok r w ∧ (r = true ↔ xs = ys) := by
  intro n
  induction n with
  | zero => intro t ks td h; simp [ksOf] at h
  | succ n ih =>
    intro t ks td h ht xs ys hx hy d hd w
    obtain ⟨m, td', e, ht', hk, hl⟩ := ksOf_size hT h
    rw [ht] at ht'; cases ht'
    obtain rfl : m = n := by omega
    cases d with
    | zero => omega
    | succ d =>
      obtain ⟨de, hde, hu⟩ := hT.under ht
      obtain ⟨de', hde', hek⟩ := hT.eqKnown ht
      rw [hde] at hde'; cases hde'
      have hmd : m ≤ d := by omega
      have hxl := conf_length hx
      have hyl := conf_length hy
      obtain ⟨sz, u, z⟩ := td
      cases u <;> cases de <;> simp [uOk] at hu <;> simp only [ksU] at hk <;> (try (cases hk; done))
      · 
        rename_i m' e' n' e''
        obtain ⟨rfl, rfl⟩ := hu
        split at hk
        · rename_i ks1 hks1
          cases hk
          obtain ⟨m2, tde, _, hte, _, hle⟩ := ksOf_size hT hks1
          obtain ⟨ie, dde, hie, hdde, hisz, _⟩ := hT.info hte
          have hce : P.cellsOf e' = ks1.length := by rw [hle]; simp [Program.cellsOf, hie, hisz]
          simp only [mkV, TD.isAgg, if_true]
          rw [run_equalIn_array w d _ _ hde hie, hce]
          have hxl' : xs.length = m' * ks1.length := by rw [hxl]; simp [List.length_flatten]
          have hyl' : ys.length = m' * ks1.length := by rw [hyl]; simp [List.length_flatten]
          have key : ∀ (q j : Nat), j + q = m' → confD (List.replicate q ks1).flatten (xs.drop (j * ks1.length)) = true → confD (List.replicate q ks1).flatten (ys.drop (j * ks1.length)) = true →
              ∃ r : Bool, (Op.eqItems d e' ks1.length (xs.map D.sval).toArray (ys.map D.sval).toArray (List.range' j q)).run P w = .ok r w ∧ (r = true ↔ xs.drop (j * ks1.length) = ys.drop (j * ks1.length)) := by
            intro q
            induction q with
            | zero =>
              intro j hj _ _
              refine ⟨true, by simp [Op.eqItems], ?_⟩
              obtain rfl : j = m' := by omega
              rw [List.drop_eq_nil_of_le (by omega : xs.length ≤ _), List.drop_eq_nil_of_le (by omega : ys.length ≤ _)]
              simp
            | succ q ihq =>
              intro j hj h1 h2
              simp only [List.replicate_succ, List.flatten_cons] at h1 h2
              obtain ⟨a1, a2⟩ := conf_append h1
              obtain ⟨b1, b2⟩ := conf_append h2
              have hjm : j * ks1.length + ks1.length ≤ m' * ks1.length := by rw [← Nat.succ_mul]; exact Nat.mul_le_mul_right _ (by omega)
              obtain ⟨r, hr, hiff⟩ := ih hks1 hte a1 b1 d hmd w
              rw [List.drop_drop, ← Nat.succ_mul] at a2 b2
              obtain ⟨r', hr', hiff'⟩ := ihq (j + 1) (by omega) a2 b2
              simp only [List.range'_succ, Op.eqItems, Sem.run_bind, part_ks hT hks1 hte (xs := xs) (off := j * ks1.length) (by omega), part_ks hT hks1 hte (xs := ys) (off := j * ks1.length) (by omega), Result.andThen_ok, hr]
              have split : xs.drop (j * ks1.length) = ys.drop (j * ks1.length) ↔ ((xs.drop (j * ks1.length)).take ks1.length = (ys.drop (j * ks1.length)).take ks1.length ∧ xs.drop ((j + 1) * ks1.length) = ys.drop ((j + 1) * ks1.length)) := by
                rw [Nat.succ_mul, ← List.drop_drop, ← List.drop_drop]
                constructor
                · intro e; rw [e]; exact ⟨rfl, rfl⟩
                · rintro ⟨e1, e2⟩
                  rw [← List.take_append_drop ks1.length (xs.drop (j * ks1.length)), ← List.take_append_drop ks1.length (ys.drop (j * ks1.length)), e1, e2]
              rw [split]
              cases r
              · exact ⟨false, by simp, by simp; intro e; exact absurd (hiff.2 e) (by simp)⟩
              · refine ⟨r', by simpa using hr', ?_⟩
                rw [hiff', ← hiff]
                simp
          have := key m' 0 (by omega) (by simpa using hx) (by simpa using hy)
          simpa [List.range_eq_range'] using this
        · cases hk
      · 
        rename_i fs fields
        simp only [eqKnown, Bool.and_eq_true, Bool.not_eq_true', decide_eq_true_eq] at hek
        obtain ⟨_, hst, hnames⟩ := hek
        simp only [mkV, TD.isAgg, if_true]
        have hfo : P.fieldsOf t = fields := by simp [Program.fieldsOf, hde]
        rw [run_equalIn_struct w d t _ _ (by rw [hfo]; exact hde) hst, hfo]
        have key : ∀ (L : List Field) (l : List (TypeId × Nat)) (o : Nat) (ks : List CK), L.map (fun f => (f.type, f.offset)) = l → (∀ f ∈ L, f.name ≠ "_") → ksFs (ksOf T m) o l = some ks →
            confD ks (xs.drop o) = true → confD ks (ys.drop o) = true → (o ≤ xs.length) → (o ≤ ys.length) →
            ∃ r : Bool, (Op.eqFields d (xs.map D.sval).toArray (ys.map D.sval).toArray L).run P w = .ok r w ∧ (r = true ↔ xs.drop o = ys.drop o) := by
          intro L
          induction L with
          | nil =>
            intro l o ks he _ hks h1 h2 _ _
            subst he
            simp only [List.map_nil, ksFs, Option.some.injEq] at hks; subst hks
            refine ⟨true, by simp [Op.eqFields], ?_⟩
            have e1 := conf_length h1
            have e2 := conf_length h2
            rw [List.length_eq_zero_iff.1 e1, List.length_eq_zero_iff.1 e2]
            simp
          | cons f L ihL =>
            intro l o ks he hn hks h1 h2 ho1 ho2
            subst he
            simp only [List.map_cons, ksFs] at hks
            split at hks
            · rename_i hoff
              split at hks
              · rename_i ks1 hks1
                split at hks
                · rename_i ks2 hks2
                  cases hks
                  obtain ⟨a1, a2⟩ := conf_append h1
                  obtain ⟨b1, b2⟩ := conf_append h2
                  obtain ⟨m2, tde, _, hte, _, hle⟩ := ksOf_size hT hks1
                  have hla := conf_length a1
                  have hlb := conf_length b1
                  simp only [List.length_take, List.length_drop] at hla hlb
                  obtain ⟨r, hr, hiff⟩ := ih hks1 hte a1 b1 d hmd w
                  rw [List.drop_drop] at a2 b2
                  obtain ⟨r', hr', hiff'⟩ := ihL _ (o + ks1.length) ks2 rfl (fun f hf => hn f (by simp [hf])) hks2 a2 b2 (by omega) (by omega)
                  simp only [Op.eqFields, hn f (by simp), ne_eq, not_false_eq_true, if_true, Sem.run_bind, hoff, part_ks hT hks1 hte (xs := xs) (off := o) (by omega), part_ks hT hks1 hte (xs := ys) (off := o) (by omega), Result.andThen_ok, hr]
                  have split : xs.drop o = ys.drop o ↔ ((xs.drop o).take ks1.length = (ys.drop o).take ks1.length ∧ xs.drop (o + ks1.length) = ys.drop (o + ks1.length)) := by
                    rw [← List.drop_drop, ← List.drop_drop]
                    constructor
                    · intro e; rw [e]; exact ⟨rfl, rfl⟩
                    · rintro ⟨e1, e2⟩
                      rw [← List.take_append_drop ks1.length (xs.drop o), ← List.take_append_drop ks1.length (ys.drop o), e1, e2]
                  rw [split]
                  cases r
                  · exact ⟨false, by simp, by simp; intro e; exact absurd (hiff.2 e) (by simp)⟩
                  · refine ⟨r', by simpa using hr', ?_⟩
                    rw [hiff', ← hiff]
                    simp
                · cases hks
              · cases hks
            · cases hks
        have := key fields.toList fs 0 ks hu (fun f hf => by
          have := Array.all_eq_true_iff_forall_mem.1 hnames f (Array.mem_toList_iff.1 hf)
          simpa using this) hk (by simpa using hx) (by simpa using hy) (Nat.zero_le _) (Nat.zero_le _)
        simpa using this
      · 
        rename_i k k'
        subst hu
        cases hk
        match xs, ys, hx, hy with
        | [x], [y], hx, hy =>
          simp only [confD, Bool.and_true] at hx hy
          cases x <;> simp [CK.fits] at hx
          cases y <;> simp [CK.fits] at hy
          subst hx hy
          rename_i a b
          refine ⟨a == b, by simp only [mkV, TD.isAgg, Bool.false_eq_true, if_false, D.sval]; exact run_equalIn_int w d t _ _ a b hde, by simp⟩
      · cases hk
        match xs, ys, hx, hy with
        | [x], [y], hx, hy =>
          simp only [confD, Bool.and_true] at hx hy
          cases x <;> simp [CK.fits] at hx
          cases y <;> simp [CK.fits] at hy
          rename_i a b
          refine ⟨a == b, by simp only [mkV, TD.isAgg, Bool.false_eq_true, if_false, D.sval]; exact run_equalIn_bool w d t a b hde, by simp⟩
      · cases hk
        match xs, ys, hx, hy with
        | [x], [y], hx, hy =>
          simp only [confD, Bool.and_true] at hx hy
          cases x <;> simp [CK.fits] at hx
          cases y <;> simp [CK.fits] at hy
          rename_i a b
          refine ⟨a == b, by simp only [mkV, TD.isAgg, Bool.false_eq_true, if_false, D.sval]; simp [Op.equalIn, Go.underlying, hde], by simpa using MapKept.bytes_beq a b⟩
theorem checkKey_ks (em : Bool) : ∀ {n : Nat} {t : TypeId} {ks : List CK} {td : TD}, ksOf T n t = some ks → T t = some td → ∀ {xs : List D}, confD ks xs = true → ∀ (d : Nat), n ≤ d → ∀ w : World,
    (Instr.checkKey em d t (mkV td.isAgg xs)).run P w = .ok () w := by
  intro n
  induction n with
  | zero => intro t ks td h; simp [ksOf] at h
  | succ n ih =>
    intro t ks td h ht xs hx d hd w
    obtain ⟨m, td', e, ht', hk, hl⟩ := ksOf_size hT h
    rw [ht] at ht'; cases ht'
    obtain rfl : m = n := by omega
    cases d with
    | zero => omega
    | succ d =>
      obtain ⟨de, hde, hu⟩ := hT.under ht
      obtain ⟨de', hde', hek⟩ := hT.eqKnown ht
      rw [hde] at hde'; cases hde'
      have hmd : m ≤ d := by omega
      have hxl := conf_length hx
      obtain ⟨sz, u, z⟩ := td
      unfold Instr.checkKey
      simp only [Sem.run_bind, run_underlying hde, Result.andThen_ok]
      cases u <;> cases de <;> simp [uOk] at hu <;> simp only [ksU] at hk <;> (try (cases hk; done))
      · rename_i m' e' n' e''
        obtain ⟨rfl, rfl⟩ := hu
        split at hk
        · rename_i ks1 hks1
          cases hk
          obtain ⟨m2, tde, _, hte, _, hle⟩ := ksOf_size hT hks1
          obtain ⟨ie, dde, hie, hdde, hisz, _⟩ := hT.info hte
          have hce : P.cellsOf e' = ks1.length := by rw [hle]; simp [Program.cellsOf, hie, hisz]
          simp only [mkV, TD.isAgg, if_true]
          have hxl' : xs.length = m' * ks1.length := by rw [hxl]; simp [List.length_flatten]
          simp only [Std.Legacy.Range.forIn_eq_forIn_range', Std.Legacy.Range.size, Nat.sub_zero, Nat.add_one_sub_one, Nat.div_one]
          have key : ∀ (q j : Nat), j + q = m' → confD (List.replicate q ks1).flatten (xs.drop (j * ks1.length)) = true →
              (forIn (List.range' j q) PUnit.unit fun i _ => do
                Instr.checkKey em d e' (← part e' (xs.map D.sval).toArray (i * (← sizeOf e')))
                pure (ForInStep.yield PUnit.unit) : Sem PUnit).run P w = .ok () w := by
            intro q
            induction q with
            | zero => intro j _ _; simp
            | succ q ihq =>
              intro j hj h1
              simp only [List.replicate_succ, List.flatten_cons] at h1
              obtain ⟨a1, a2⟩ := conf_append h1
              have hjm : j * ks1.length + ks1.length ≤ m' * ks1.length := by rw [← Nat.succ_mul]; exact Nat.mul_le_mul_right _ (by omega)
              have hr := ih hks1 hte a1 d hmd w
              rw [List.drop_drop, ← Nat.succ_mul] at a2
              have := ihq (j + 1) (by omega) a2
              simp only [List.range'_succ, List.forIn_cons, Sem.run_bind, hT.size hte, ← hle, part_ks hT hks1 hte (xs := xs) (off := j * ks1.length) (by omega), Result.andThen_ok, hr, Sem.run_pure]
              exact this
          have := key m' 0 (by omega) (by simpa using hx)
          simpa using this
        · cases hk
      · rename_i fs fields
        simp only [eqKnown, Bool.and_eq_true, Bool.not_eq_true', decide_eq_true_eq] at hek
        obtain ⟨_, hst, hnames⟩ := hek
        simp only [mkV, TD.isAgg, if_true]
        rw [← Array.forIn_toList]
        have key : ∀ (L : List Field) (l : List (TypeId × Nat)) (o : Nat) (ks : List CK), L.map (fun f => (f.type, f.offset)) = l → (∀ f ∈ L, f.name ≠ "_") → ksFs (ksOf T m) o l = some ks →
            confD ks (xs.drop o) = true → (o ≤ xs.length) →
            (forIn L PUnit.unit fun f _ => (if f.name ≠ "_" then do
                Instr.checkKey em d f.type (← part f.type (xs.map D.sval).toArray f.offset)
                pure (ForInStep.yield PUnit.unit) else pure (ForInStep.yield PUnit.unit)) : Sem PUnit).run P w = .ok () w := by
          intro L
          induction L with
          | nil => intro l o ks he _ hks h1 _; simp
          | cons f L ihL =>
            intro l o ks he hn hks h1 ho1
            subst he
            simp only [List.map_cons, ksFs] at hks
            split at hks
            · rename_i hoff
              split at hks
              · rename_i ks1 hks1
                split at hks
                · rename_i ks2 hks2
                  cases hks
                  obtain ⟨a1, a2⟩ := conf_append h1
                  obtain ⟨m2, tde, _, hte, _, hle⟩ := ksOf_size hT hks1
                  have hla := conf_length a1
                  simp only [List.length_take, List.length_drop] at hla
                  have hr := ih hks1 hte a1 d hmd w
                  rw [List.drop_drop] at a2
                  have := ihL _ (o + ks1.length) ks2 rfl (fun f hf => hn f (by simp [hf])) hks2 a2 (by omega)
                  simp only [List.forIn_cons, Sem.run_bind, hn f (by simp), ne_eq, not_false_eq_true, if_true, hoff, part_ks hT hks1 hte (xs := xs) (off := o) (by omega), Result.andThen_ok, hr, Sem.run_pure]
                  exact this
                · cases hks
              · cases hks
            · cases hks
        have := key fields.toList fs 0 ks hu (fun f hf => by
          have := Array.all_eq_true_iff_forall_mem.1 hnames f (Array.mem_toList_iff.1 hf)
          simpa using this) hk (by simpa using hx) (Nat.zero_le _)
        simpa using this
      all_goals simp
end
open Classical in
theorem mget_mput (es : List (D × D)) (k v k' : D) : mget (mput es k v) k' = if k = k' then some v else mget es k' := by
  induction es with
  | nil => simp [mput, mget]
  | cons p r ih =>
    simp only [mput]
    by_cases h : p.1 = k
    · rw [if_pos h]; simp only [mget, h]
      by_cases h2 : k = k'
      · rw [if_pos h2, if_pos h2]
      · rw [if_neg h2, if_neg h2, if_neg h2]
    · rw [if_neg h]; simp only [mget]
      by_cases h2 : p.1 = k'
      · rw [if_pos h2]
        have h3 : ¬ k = k' := fun e => h (h2.trans e.symm)
        rw [if_neg h3, if_pos h2]
      · rw [if_neg h2, ih, if_neg h2]
theorem keyConf_rep {K : Addr → Option Value} {td : TD} {ks : List CK} {d : D} {v : Value} (h : keyConf td.isAgg ks d = true) (hr : RepD K d v) : v = mkV td.isAgg d.cells := by
  simp only [keyConf, Bool.and_eq_true] at h
  obtain ⟨h1, h2⟩ := h
  cases d with
  | agg l =>
    simp only [D.cells] at h1 ⊢
    simp only [mkV, h2, if_true]
    cases hr with | agg _ vs hs hh _ =>
    have := conf_rep (K := K) (vs := vs.toList) h1 (by simpa using hs) (fun i hi => by simpa [List.getD_eq_getElem?_getD, Array.getD_eq_getD_getElem?] using hh i hi)
    congr 1
    apply Array.ext'
    simpa using this
  | _ =>
    simp only [D.cells] at h1 ⊢
    have h2' : td.isAgg = false := by simpa using h2
    simp only [mkV, h2', Bool.false_eq_true, if_false]
    match ks, h1 with
    | [k], h1 =>
      simp only [confD, Bool.and_true] at h1
      exact fits_rep h1 hr
    | [], h1 => simp [confD] at h1
    | _ :: _ :: _, h1 => simp [confD] at h1
theorem keyConf_cells {agg : Bool} {ks : List CK} {a b : D} (ha : keyConf agg ks a = true) (hb : keyConf agg ks b = true) : a.cells = b.cells ↔ a = b := by
  constructor
  · intro e
    simp only [keyConf, Bool.and_eq_true] at ha hb
    cases a <;> cases b <;> simp_all [D.cells]
  · rintro rfl; rfl
section
variable {P : Program} {T : Types} (hT : TOk P T) {n : Nat} {kt : TypeId} {ks : List CK} {td : TD} (hk : ksOf T n kt = some ks) (htd : T kt = some td) (hn : n ≤ 8)
include hT hk htd hn
theorem equal_ks {a b : D} (ha : keyConf td.isAgg ks a = true) (hb : keyConf td.isAgg ks b = true) (w : World) : ∃ r : Bool, (Op.equal kt (mkV td.isAgg a.cells) (mkV td.isAgg b.cells)).run P w = .ok r w ∧ (r = true ↔ a = b) := by
  have ha' := ha
  have hb' := hb
  simp only [keyConf, Bool.and_eq_true] at ha' hb'
  obtain ⟨r, h1, h2⟩ := equalIn_ks hT hk htd ha'.1 hb'.1 10000 (by omega) w
  exact ⟨r, h1, h2.trans (keyConf_cells ha hb)⟩
theorem findAsking_ks {K : Addr → Option Value} {k : D} (hkk : keyConf td.isAgg ks k = true) (w : World) : ∀ {es : List (D × D)} {ms : List MapEntry} (i : Nat), EntRep K td.isAgg ks es ms →
    ((Instr.findAsking kt (mkV td.isAgg k.cells) ms i).run P w = .ok none w ∧ mget es k = none ∧ ∀ v, mput es k v = es ++ [(k, v)]) ∨
    ∃ j e p, (Instr.findAsking kt (mkV td.isAgg k.cells) ms i).run P w = .ok (some (i + j, e.val)) w ∧ ms[j]? = some e ∧ es[j]? = some p ∧ p.1 = k ∧ mget es k = some p.2 ∧ ∀ v, mput es k v = es.set j (k, v) := by
  classical
  intro es ms i h
  induction h generalizing i with
  | nil => exact .inl ⟨by simp [Instr.findAsking], rfl, fun v => rfl⟩
  | @cons p m es ms hp h ih =>
    obtain ⟨h1, h2, h3⟩ := hp
    obtain ⟨r, hr, hiff⟩ := equal_ks hT hk htd hn hkk h1 w
    by_cases he : p.1 = k
    · have : r = true := hiff.2 he.symm
      subst this
      refine .inr ⟨0, m, p, by simp [Instr.findAsking, h2, hr], rfl, rfl, he, by simp [mget, he], fun v => by simp [mput, he]⟩
    · have : r = false := by
        cases r
        · rfl
        · exact absurd (hiff.1 rfl).symm he
      subst this
      rcases ih (i + 1) with ⟨k1, k2, k3⟩ | ⟨j, e, q, k1, k2, k3, k4, k5, k6⟩
      · exact .inl ⟨by simp [Instr.findAsking, h2, hr, k1], by simp [mget, he, k2], fun v => by simp [mput, he, k3]⟩
      · exact .inr ⟨j + 1, e, q, by simp [Instr.findAsking, h2, hr, k1]; omega, by simpa using k2, by simpa using k3, k4, by simp [mget, he, k5], fun v => by simp [mput, he, k6]⟩
theorem findKey_ks {K : Addr → Option Value} {k : D} (hkk : keyConf td.isAgg ks k = true) (w : World) {es : List (D × D)} {ms : List MapEntry} (h : EntRep K td.isAgg ks es ms) :
    ((Instr.findKey kt (mkV td.isAgg k.cells) ms).run P w = .ok none w ∧ mget es k = none ∧ ∀ v, mput es k v = es ++ [(k, v)]) ∨
    ∃ j e p, (Instr.findKey kt (mkV td.isAgg k.cells) ms).run P w = .ok (some (j, e.val)) w ∧ ms[j]? = some e ∧ es[j]? = some p ∧ p.1 = k ∧ mget es k = some p.2 ∧ ∀ v, mput es k v = es.set j (k, v) := by
  have asking := findAsking_ks hT hk htd hn hkk w 0 h
  obtain ⟨de, hde, hu⟩ := hT.under htd
  obtain ⟨m, td', e, ht', hku, hl⟩ := ksOf_size hT hk
  rw [htd] at ht'; cases ht'
  
  have now : ∀ (ms : List MapEntry) (es : List (D × D)) (i : Nat) (r : Option (Nat × Value)), EntRep K td.isAgg ks es ms → Instr.findNow de (mkV td.isAgg k.cells) ms i = some r → (Instr.findAsking kt (mkV td.isAgg k.cells) ms i).run P w = .ok r w := by
    intro ms es i r h
    induction h generalizing i with
    | nil => intro hf; simp [Instr.findNow] at hf; subst hf; simp [Instr.findAsking]
    | @cons p m0 es ms hp h ih =>
      obtain ⟨h1, h2, h3⟩ := hp
      obtain ⟨r0, hr, hiff⟩ := equal_ks hT hk htd hn hkk h1 w
      intro hf
      simp only [Instr.findNow] at hf
      have hsame : ∀ b, Instr.sameNow de (mkV td.isAgg k.cells) m0.key = some b → r0 = b := by
        intro b hb
        rw [h2] at hb
        have heq : (Op.equal kt (mkV td.isAgg k.cells) (mkV td.isAgg p.1.cells)).run P w = .ok b w := by
          unfold Instr.sameNow at hb
          split at hb
          · rename_i k1 a k2 b' e1 e2
            split at hb
            · rename_i hkk'
              cases hb
              rw [e1, e2, hkk']
              exact run_equalIn_int w 9999 kt _ _ _ _ hde
            · cases hb
          · rename_i a b' e1 e2
            cases hb
            rw [e1, e2]
            exact run_equalIn_str w 9999 kt _ _ hde
          · rename_i a b' e1 e2
            cases hb
            rw [e1, e2]
            exact run_equalIn_bool w 9999 kt _ _ hde
          · cases hb
        rw [hr] at heq
        injection heq
      cases hsn : Instr.sameNow de (mkV td.isAgg k.cells) m0.key with
      | none => rw [hsn] at hf; cases hf
      | some b =>
        have := hsame b hsn
        subst this
        rw [hsn] at hf
        cases r0 with
        | true => simp at hf; subst hf; simp [Instr.findAsking, h2, hr]
        | false => simp at hf; simp [Instr.findAsking, h2, hr, ih (i + 1) hf]
  have hsame : (Instr.findKey kt (mkV td.isAgg k.cells) ms).run P w = (Instr.findAsking kt (mkV td.isAgg k.cells) ms 0).run P w := by
    unfold Instr.findKey
    simp only [Sem.run_bind, run_underlying hde, Result.andThen_ok]
    split
    · rename_i r hr
      rw [now ms es 0 r h hr]; simp
    · rfl
  rw [hsame]
  simpa using asking
end
end Go.Am
