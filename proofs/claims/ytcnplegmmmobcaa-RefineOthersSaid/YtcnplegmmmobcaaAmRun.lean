/- Own text: AmRun. -/
import Derived.Test.YtcnplegmmmobcaaAmCap
import Derived.TacticsIn
import Derived.RangeFuncLeaves
set_option linter.unusedSimpArgs false
set_option linter.unusedSectionVars false
set_option linter.unusedVariables false
namespace Go.Am
open Go
def lets (σ : St) : Loc → Prop
  | .s t => (σ.get t).free = true
  | .o i => σ.heap[i]? = some .dead
  | .oc i j => ∃ cs, σ.heap[i]? = some (.cells cs) ∧ ∀ c, cs[j]? = some c → c.free = true
  | _ => False
def Gh.gro (G : Gh) (N b cap len : Nat) : Gh where
  K := G.K
  O := fun x => if 0 < cap ∧ x = b then some (.o N, 0) else G.O x
  β := fun r => if r = .o N then b else if r = .o (N + 1) then cap else if r = .o (N + 2) then len else G.β r
  nh := N + 3
theorem Rel.toGro {G : Gh} {σ : St} {a : Act} {w w' : World} (R : Rel G σ a w) {k : Nat} {l : List D} {cap b : Nat} {p : Option Addr} (hp : 0 < cap → p = some ⟨b, 0, none⟩) (hu : uniform k l) (hl : l.length ≤ cap)
    (hsz : w.heap.size ≤ w'.heap.size) (hio : w'.os = w.os ∧ w'.output = w.output ∧ (∀ a, a.block < w.heap.size → w'.frozen? a = w.frozen? a) ∧ w'.tape = w.tape ∧ w.drawn ≤ w'.drawn)
    (hoth : ∀ b', b' < w.heap.size → (0 < cap → b' ≠ b) → w'.heap[b']? = w.heap[b']?)
    (hb : 0 < cap → b < w'.heap.size ∧ (w.heap.size ≤ b ∨ ∃ ℓ0, G.O b = some (ℓ0, 0) ∧ lets σ ℓ0) ∧ ∃ vs e, w'.heap[b]? = some (.cells vs e (0, 0)) ∧ cap * k ≤ vs.size ∧
      (∀ j, j < (D.flat l).length → (vs.getD j Go.undef).oneCell' = true) ∧ ∀ (j : Nat) (hj : j < (D.flat l).length), RepD G.K (D.flat l)[j] (vs.getD j Go.undef)) :
    Rel (G.gro σ.heap.length b cap l.length) { σ with heap := σ.heap ++ [.gro k l, .dead, .dead] } a w' ∧ (∀ m, m ≤ G.nh → Ext m G w (G.gro σ.heap.length b cap l.length) w') ∧
      ∀ ℓ, RepV (G.gro σ.heap.length b cap l.length) w' ℓ (.gref σ.heap.length k) (.slice p l.length cap) := by
  have hnh := R.h.nh
  generalize hN : σ.heap.length = N at hnh ⊢
  let G' : Gh := G.gro N b cap l.length
  show Rel G' _ a w' ∧ (∀ m, m ≤ G.nh → Ext m G w G' w') ∧ ∀ ℓ, RepV G' w' ℓ _ _
  have hb0 : G'.β (.o N) = b := by simp [G', Gh.gro]
  have hb1 : G'.β (.o (N + 1)) = cap := by simp [G', Gh.gro]
  have hb2 : G'.β (.o (N + 2)) = l.length := by simp [G', Gh.gro]
  have hβold : ∀ i, i < G.nh → G'.β (.o i) = G.β (.o i) := by
    intro i hi
    simp only [G', Gh.gro, Root.o.injEq]
    rw [if_neg (by omega), if_neg (by omega), if_neg (by omega)]
  have hβs : ∀ t, G'.β (.s t) = G.β (.s t) := fun t => by simp [G', Gh.gro]
  let S : Loc → Prop := fun x => 0 < cap → ∀ f, G.O b ≠ some (x, f)
  have hOold : ∀ x b' f, S x → G.O b' = some (x, f) → G'.O b' = some (x, f) ∧ w'.heap[b']? = w.heap[b']? := by
    intro x b' f hx h
    have hne : 0 < cap → b' ≠ b := by rintro hc rfl; exact hx hc f h
    refine ⟨?_, hoth b' (R.h.disj b' x f h).1 hne⟩
    simp only [G', Gh.gro]
    rw [if_neg]; exact h
    rintro ⟨hc, rfl⟩; exact hne hc rfl
  have hpr : Pres G G' w w' S := ⟨KLe.refl _, fun b' x f hx h => hOold x b' f hx h, hβold, by rw [← hnh]; simp [G', Gh.gro]⟩
  have hno : Pres G G' w w' (· = .no) := hpr.no R.h.sane
  
  have own0 : ∀ x, ¬ S x → 0 < cap ∧ lets σ x := by
    intro x hx
    rcases Nat.eq_zero_or_pos cap with hc | hc
    · exact absurd (fun h => absurd h (by omega)) hx
    · refine ⟨hc, ?_⟩
      rcases (hb hc).2.1 with h | ⟨ℓ0, h, hl0⟩
      · exact absurd (fun _ f hO => by have := (R.h.disj _ _ _ hO).1; omega) hx
      · have : x = ℓ0 := Classical.byContradiction fun hne => hx fun _ f hO => by rw [h] at hO; simp at hO; exact hne hO.1.symm
        subst this; exact hl0
  have hS : ∀ x, ¬ lets σ x → S x := fun x hx => Classical.byContradiction fun h => hx (own0 x h).2
  have hfreeV : ∀ {ℓ : Loc} {c : AV} {v : Value}, RepV G w ℓ c v → c.free = true → ∀ ℓ', RepV G' w' ℓ' c v := by
    intro ℓ c v h hf ℓ'
    refine ((h.anywhere hf .no).pres R.h.sane hno rfl (fun r off e => ?_) (fun t e => by cases e)).anywhere hf ℓ'
    subst e; simp [AV.free] at hf
  have hslot : ∀ t, RepV G' w' (.s t) (σ.get t) (a.tmps.getD t Go.undef) := by
    intro t
    by_cases h : S (.s t)
    · exact (R.slots t).pres R.h.sane hpr h (fun r off e => hβs r) (fun t' e hbx => ⟨hβs t', fun j => hS _ (by simp [lets])⟩)
    · exact hfreeV (R.slots t) (own0 _ h).2 _
  have hobj : ∀ i ob, σ.heap[i]? = some ob → RepObj G' w' i ob := by
    intro i ob hob
    have hi : i < G.nh := by rw [← hnh, ← hN]; exact (List.getElem?_eq_some_iff.1 hob).1
    by_cases h : S (.o i)
    · by_cases h2 : ∀ j, S (.oc i j)
      · exact (R.h.objs i ob hob).pres R.h.sane hi hpr h h2
      · have h2' : ∃ j, ¬ S (.oc i j) := Classical.byContradiction fun hh => h2 fun j => Classical.byContradiction fun hj => hh ⟨j, hj⟩
        obtain ⟨j0, hj0⟩ := h2'
        obtain ⟨hc, cs, hcs, hcj⟩ := own0 _ hj0
        rw [hob] at hcs
        injection hcs with hcs; subst hcs
        obtain ⟨vs, e, h1, h3, h4, h5, h6⟩ := R.h.objs i _ hob
        obtain ⟨h7, h8⟩ := hOold _ _ _ h h1
        rw [← hβold i hi] at h3 h7 h8
        refine ⟨vs, e, h7, h8.trans h3, h4, fun j hj => ?_, h6⟩
        by_cases hs : S (.oc i j)
        · exact (h5 j hj).pres R.h.sane hpr hs (fun r off e => absurd e (AV.not_place (AV.isLocal_of_isCell (h6 _ (List.getElem_mem hj))) r off)) (fun t e => by cases e)
        · obtain ⟨_, cs', hcs', hcj'⟩ := own0 _ hs
          rw [hob] at hcs'
          injection hcs' with hcs'
          injection hcs' with hcs'; subst hcs'
          exact hfreeV (h5 j hj) (hcj' _ (List.getElem?_eq_getElem hj)) _
    · have := (own0 _ h).2
      simp only [lets] at this
      rw [hob] at this
      injection this with this; subst this; trivial
  have hdisj : ∀ b' ℓ f, G'.O b' = some (ℓ, f) → b' < w'.heap.size ∧ ∀ j, f ≤ j → G'.K ⟨b', j, none⟩ = none := by
    intro b' ℓ f h
    simp only [G', Gh.gro] at h
    split at h
    · rename_i hc
      obtain ⟨hc, rfl⟩ := hc
      obtain ⟨h1, h2, _⟩ := hb hc
      refine ⟨h1, fun j _ => ?_⟩
      show G.K _ = none
      rcases h2 with h2 | ⟨ℓ0, h2, _⟩
      · cases hK : G.K ⟨b', j, none⟩ with
        | none => rfl
        | some v => have := World.block_lt_of_cell? w _ (R.h.kept _ _ hK); simp at this; omega
      · exact (R.h.disj _ _ _ h2).2 j (Nat.zero_le _)
    · obtain ⟨h1, h2⟩ := R.h.disj b' ℓ f h
      exact ⟨by omega, h2⟩
  have hkept : ∀ x v, G'.K x = some v → w'.cell? x = some v := by
    intro x v h
    have hx := R.h.kept x v h
    have hlt := World.block_lt_of_cell? w _ hx
    have hne : 0 < cap → x.block ≠ b := by
      intro hc hxb
      have hspot := World.cell?_spot hx
      obtain ⟨xb, j, s⟩ := x
      simp at hspot hxb; subst hspot hxb
      rcases (hb hc).2.1 with h2 | ⟨ℓ0, h2, _⟩
      · simp at hlt; omega
      · have := (R.h.disj _ _ _ h2).2 j (Nat.zero_le _)
        have h' : G.K ⟨xb, j, none⟩ = some v := h
        rw [this] at h'; cases h'
    unfold World.cell? at *
    rwa [hoth _ hlt hne]
  refine ⟨⟨⟨⟨fun b' x f h => ?_⟩, by simp [G', Gh.gro, hN], fun i ob hob => ?_, hkept, hdisj⟩, R.size, hslot, R.places, ?_⟩, fun m hm => ?_, fun ℓ => ?_⟩
  · simp only [G', Gh.gro] at h
    split at h
    · simp at h; rw [← h.1]; simp [Loc.root]
    · exact R.h.sane.no b' x f h
  · simp only at hob
    rcases Nat.lt_or_ge i N with hi | hi
    · rw [List.getElem?_append_left (by omega)] at hob
      exact hobj i ob hob
    · rw [List.getElem?_append_right (by omega), hN] at hob
      match hq : i - N, hob with
      | 0, hob =>
        obtain rfl : i = N := by omega
        simp at hob; subst hob
        show i + 2 < G'.nh ∧ _
        refine ⟨by simp [G', Gh.gro], by rw [hb2], by rw [hb1]; exact hl, hu, fun hc => ?_⟩
        rw [hb1] at hc ⊢
        obtain ⟨h1, h2, vs, e, h3, h4, h5, h6⟩ := hb hc
        rw [hb0]
        exact ⟨vs, e, by simp only [G', Gh.gro]; rw [if_pos ⟨hc, trivial⟩], h3, h4, h5, h6⟩
      | 1, hob => simp at hob; subst hob; trivial
      | 2, hob => simp at hob; subst hob; trivial
      | q + 3, hob => simp at hob
  · refine ⟨R.df.1, fun x hx => ?_⟩
    obtain ⟨r0, h1, h2, h3⟩ := R.df.2 x hx
    obtain ⟨h4, h5⟩ := hOold _ _ _ (hS .df (by simp [lets])) h2
    exact ⟨r0, h1, h4, h5.trans h3⟩
  · refine ⟨KLe.refl _, fun x v h => .inl h, fun b' hb' h => ?_, hsz, fun i hi => hβold i (by omega), hio⟩
    have hne : 0 < cap → b' ≠ b := by
      rintro hc rfl
      rcases (hb hc).2.1 with h2 | ⟨ℓ0, h2, _⟩
      · omega
      · rw [h] at h2; cases h2
    refine ⟨hoth b' hb' hne, ?_⟩
    simp only [G', Gh.gro]
    rw [if_neg]; exact h
    rintro ⟨hc, rfl⟩; exact hne hc rfl
  · have := RepV.gref (G := G') (w := w') ℓ N k p (by simp [G', Gh.gro]) (by rw [hb1, hb2]; exact hl) (by rw [hb1, hb0]; exact hp)
    rwa [hb1, hb2] at this
theorem Rel.kill {G : Gh} {σ : St} {a : Act} {w : World} (R : Rel G σ a w) (i : Nat) : Rel G { σ with heap := σ.heap.set i .dead } a w := by
  refine ⟨⟨R.h.sane, by simpa using R.h.nh, fun j ob hob => ?_, R.h.kept, R.h.disj⟩, R.size, R.slots, R.places, R.df⟩
  by_cases hij : i = j
  · subst hij
    have : ob = .dead := by
      rw [List.getElem?_set] at hob
      simp at hob
      exact hob.2.symm
    subst this; trivial
  · rw [List.getElem?_set_ne hij] at hob; exact R.h.objs j ob hob
theorem gref_val {G : Gh} {σ : St} {g : Nat → AV} {a : Act} {w : World} (hg : Less g σ) (R : Rel G σ a w) {s i k : Nat} (h : g s = .gref i k) :
    ∃ p, a.eval (.tmp s) = .slice p (G.β (.o (i + 2))) (G.β (.o (i + 1))) ∧ i + 2 < G.nh ∧ G.β (.o (i + 2)) ≤ G.β (.o (i + 1)) ∧ (0 < G.β (.o (i + 1)) → p = some ⟨G.β (.o i), 0, none⟩) := by
  have := hg.rep R s
  rw [h] at this
  generalize hv : a.tmps.getD s Go.undef = v at this
  cases this with | gref _ _ _ p h1 h2 h3 => exact ⟨p, hv, h1, h2, h3⟩
theorem firstCells_row {P : Program} {w : World} {b : Nat} {vs : Array Value} {e : TypeId} (hw : w.heap[b]? = some (.cells vs e (0, 0))) {k n cap : Nat} (hn : n * k ≤ vs.size) :
    (Builtin.firstCells k n (.slice (some ⟨b, 0, none⟩) n cap)).run P w = .ok ((List.range (n * k)).map fun j => vs.getD j Go.undef).toArray w := by
  have hl := run_loadCells (P := P) w ⟨b, 0, none⟩ (n * k) (fun j => vs.getD j Go.undef) (fun j hj => by rw [Addr.add_none, Nat.zero_add]; exact cell_at hw (by omega))
  simp [Builtin.firstCells, hl]
section
variable {P : Program} {T : Types} (hT : TOk P T) {σ : St} {g : Nat → AV} {o : Oper} {ss : Sets} {h' : Option (List Obj)} {H : List Obj} {an : Ann}
  (hg : Less g σ) (hgd : ∀ d, o.dst = some d → g d = σ.get d)
include hT hg hgd
theorem sg_len {t : TypeId} {s : Nat} (hop : o.op = .call { callee := .builtin .len, args := #[.tmp s], argTypes := #[t] }) {a0 k : Nat} {l : List D} (hs : g s = .gref a0 k) (hHi : σ.heap[a0]? = some (.gro k l))
    {sz e : Nat} {z : List AV} (ht : T t = some { size := sz, u := .slice e, zero := z }) (h : put σ.n g o.dst (.d (.int .i64 (Ar.std.len l))) = some (ss, h')) : StepOk P σ o ss h' := by
  refine stepOk_pure hgd h (by simp [hop]) (AV.free_place rfl) ?_
  intro G a w R
  obtain ⟨p, hv, _, _, _⟩ := gref_val hg R hs
  obtain ⟨_, q1, _⟩ := R.h.objs a0 _ hHi
  refine ⟨.int .i64 (Ar.std.len l), ?_, fun d => .d _ _ _ (.int _ _)⟩
  simp [execOp, hop, resolve, invoke, Go.builtin, Builtin.len_, Builtin.lenOf, hv, goInt, Go.underlying, hT.slice ht, Ar.std, q1]
theorem sg_index {t : TypeId} {s : Nat} {i : Operand} (hop : o.op = .indexAddr t (.tmp s) i) {a0 k : Nat} {l : List D} (hs : g s = .gref a0 k) (hHi : σ.heap[a0]? = some (.gro k l))
    {sz e : Nat} {zz : List AV} (ht : T t = some { size := sz, u := .slice e, zero := zz }) {td : TD} (hte : T e = some td) {kz : IntKind} {z : Int} (hi : opv T g 0 i = some (.d (.int kz z))) (hk : td.size = k) (hz0 : 0 ≤ z) (hz1 : z < (l.length : Int))
    (h : put σ.n g o.dst (.eptr a0 k z 0) = some (ss, h')) : StepOk P σ o ss h' := by
  subst hk
  refine stepOk_pure hgd h (by simp [hop]) (AV.free_place rfl) ?_
  intro G a w R
  have h1 := (opv_ok hg R hi .no).1
  cases h1 with | d _ _ _ h1 =>
  generalize hei : a.eval i = vi at h1
  cases h1
  obtain ⟨p, hv, hnh, hle, hp⟩ := gref_val hg R hs
  obtain ⟨_, q1, q2, _⟩ := R.h.objs a0 _ hHi
  obtain rfl := hp (by omega)
  have hzz : z < ((G.β (.o (a0 + 2)) : Nat) : Int) := by omega
  refine ⟨.pointer (some ⟨G.β (.o a0), 0 + z.toNat * td.size, none⟩), ?_, fun d => ?_⟩
  · have hmx : ¬ ((G.β (.o (a0 + 2)) : Nat) : Int) ≤ z := by omega
    simp [execOp, hop, hv, hei, Instr.indexAt, asIntOf, Go.underlying, hT.slice ht, hz0, hzz, hmx, hT.size hte, Addr.add_none]
  · have := RepV.eptr (G := G) (w := w) (.s d) a0 td.size z 0 (by omega) hz0
    simpa using this
theorem sg_load {t : TypeId} {s : Nat} (hop : o.op = .load t (.tmp s)) {a0 k : Nat} {l : List D} {i : Int} {j : Nat} (hs : g s = .eptr a0 k i j) (hHi : σ.heap[a0]? = some (.gro k l)) {td : TD} (ht : T t = some td)
    {y : D} (hy : l[i.toNat]? = some y) {av : AV} (hav : readAt td (y.cells.map .d) j = some av) (hp : put σ.n g o.dst av = some (ss, h')) : StepOk P σ o ss h' := by
  have hx : slotAV g (.tmp s) = .eptr a0 k i j := hs
  have run : ∀ G a w, Rel G σ a w → ∃ v, (loadVar t ⟨G.β (.o a0), i.toNat * k + j, none⟩).run P w = .ok v w ∧ av.free = true ∧ ∀ ℓ, RepV G w ℓ av v := by
    intro G a w R
    obtain ⟨_, q1, q2, hu, q3⟩ := R.h.objs a0 _ hHi
    have hlt : i.toNat < l.length := (List.getElem?_eq_some_iff.1 hy).1
    obtain ⟨vs, e, hO, hw, hs, h1, hh⟩ := q3 (by omega)
    have hyl : y.cells.length = k := hu y (List.mem_of_getElem? hy)
    have hfl := flat_length hu
    have hmul : i.toNat * k + k ≤ l.length * k := by rw [← Nat.succ_mul]; exact Nat.mul_le_mul_right _ hlt
    have hmul2 : l.length * k ≤ G.β (.o (a0 + 1)) * k := Nat.mul_le_mul_right _ q2
    have hcell : ∀ (q : Nat) (hq : q < y.cells.length), RepD G.K y.cells[q] (vs.getD (i.toNat * k + q) Go.undef) ∧ (vs.getD (i.toNat * k + q) Go.undef).oneCell' = true := by
      intro q hq
      have hfg := flat_get hu hy q (by omega)
      have hj : i.toNat * k + q < (D.flat l).length := by omega
      rw [List.getElem?_eq_getElem hj, List.getElem?_eq_getElem hq] at hfg
      have := hh _ hj
      rw [Option.some.inj hfg] at this
      exact ⟨this, h1 _ hj⟩
    exact loadVar_ok hT ht (G := G) (w := w) (b := G.β (.o a0)) (o := i.toNat * k) (off := j) (cs := y.cells.map .d) (vs := fun q => vs.getD (i.toNat * k + q) Go.undef)
      (fun q hq => by simp at hq; exact cell_at hw (by omega)) (fun q hq => ⟨.no, by simp at hq; simpa using RepV.d (G := G) (w := w) .no _ _ (hcell q hq).1⟩)
      (isCell_of_rep (K := G.K) (fun q hq => (hcell q hq).2) (fun q hq => (hcell q hq).1)) hav
  intro r n m G a w Q next hm R hn
  obtain ⟨_, _, hfree, _⟩ := run G a w R
  refine stepOk_pure hgd hp (by simp [hop]) (AV.free_place (AV.free_isLocal hfree)) ?_ r n m G a w Q next hm R hn
  intro G a w R
  obtain ⟨hv, hnh, hi⟩ := eptr_val hg R hx
  obtain ⟨v, hr, _, hrep⟩ := run G a w R
  exact ⟨v, by simp [execOp, hop, hv, Instr.loadAt, Instr.sureAddr, hr], fun d => hrep _⟩
end
theorem storeGro_core {G : Gh} {σ : St} {a : Act} {w : World} (R : Rel G σ a w) {i k : Nat} {l l' : List D} {cur row : Array Value} {e : TypeId} (hi : σ.heap[i]? = some (.gro k l)) (hne : 0 < l.length)
    (hw : w.heap[G.β (.o i)]? = some (.cells cur e (0, 0))) (hll : l'.length = l.length) (hu : uniform k l') (hrs : row.size = cur.size)
    (h1 : ∀ j, j < (D.flat l').length → (row.getD j Go.undef).oneCell' = true) (hh : ∀ (j : Nat) (hj : j < (D.flat l').length), RepD G.K (D.flat l')[j] (row.getD j Go.undef)) :
    Rel G (σ.upd [] (some (σ.heap.set i (.gro k l')))) a (w.setRow (G.β (.o i)) row) ∧ ∀ m, Ext m G w G (w.setRow (G.β (.o i)) row) := by
  obtain ⟨g0, g1, g2, g3, g4⟩ := R.h.objs i _ hi
  obtain ⟨vs0, e0, hO, hw0, hsz0, _, _⟩ := g4 (by omega)
  rw [hw] at hw0
  simp at hw0
  obtain ⟨rfl, rfl⟩ := hw0
  have hpr := setRow_pres (w := w) hO row
  have hil : i < σ.heap.length := (List.getElem?_eq_some_iff.1 hi).1
  refine ⟨⟨⟨R.h.sane, by simpa [St.upd] using R.h.nh, fun i' ob hob => ?_, kept_setRow R.h.kept (fun j => (R.h.disj _ _ _ hO).2 j (Nat.zero_le _)) hO _, fun b ℓ f h => ?_⟩, by simpa [St.upd] using R.size, ?_, ?_, ?_⟩, fun m => Ext.setRow hO _⟩
  · simp only [St.upd, Option.getD_some] at hob
    by_cases hii : i = i'
    · subst hii
      rw [List.getElem?_set_self hil] at hob
      injection hob with hob; subst hob
      exact ⟨g0, by rw [hll]; exact g1, by rw [hll]; exact g2, hu, fun _ => ⟨row, _, hO, setRow_heap _ _ _ _ _ _ hw, by rw [hrs]; exact hsz0, h1, hh⟩⟩
    · rw [List.getElem?_set_ne hii] at hob
      exact (R.h.objs i' ob hob).pres R.h.sane (by rw [← R.h.nh]; exact (List.getElem?_eq_some_iff.1 hob).1) hpr (by simp; exact fun e => hii e.symm) (by simp)
  · have := R.h.disj b ℓ f h; exact ⟨by simpa using this.1, this.2⟩
  · intro t
    exact (R.slots t).pres R.h.sane hpr (by simp) (fun _ _ _ => rfl) (fun t' e' _ => ⟨rfl, fun j => by simp⟩)
  · intro t r'' off' ht
    exact R.places t r'' off' ht
  · refine ⟨R.df.1, fun x hx => ?_⟩
    obtain ⟨r0, h1, h2, h3⟩ := R.df.2 x hx
    exact ⟨r0, h1, h2, by rw [setRow_other _ _ _ _ (by rintro rfl; rw [hO] at h2; cases h2)]; exact h3⟩
section
variable {P : Program} {T : Types} (hT : TOk P T) {σ : St} {g : Nat → AV} {o : Oper} {ss : Sets} {h' : Option (List Obj)} {H : List Obj} {an : Ann}
  (hg : Less g σ) (hgd : ∀ d, o.dst = some d → g d = σ.get d)
include hT hg hgd
theorem sg_store {t : TypeId} {s : Nat} {yo : Operand} (hop : o.op = .store t (.tmp s) yo) {a0 k : Nat} {l : List D} {i : Int} {j : Nat} (hs : g s = .eptr a0 k i j) (hHi : σ.heap[a0]? = some (.gro k l)) {td : TD} (ht : T t = some td)
    {v : D} (hv : opD T g t yo = some v) (hdst : o.dst = none) (hpos : 0 < td.size) (hvl : v.cells.length = td.size) {y0 : D} (hy0 : l[i.toNat]? = some y0) {v' : D}
    (hall : y0.cells.length = k → v'.cells.length = k ∧ j + td.size ≤ k ∧ (∀ q, q < k → v'.cells[q]? = if j ≤ q ∧ q < j + td.size then v.cells[q - j]? else y0.cells[q]?)) :
    StepOk P σ o [] (some (σ.heap.set a0 (.gro k (l.set i.toNat v')))) := by
  have hnd : ∀ c, o.op ≠ .defer c := by simp [hop]
  have hx : slotAV g (.tmp s) = .eptr a0 k i j := hs
  intro r n m G a w Q next hm R hn
  obtain ⟨hpt, hnh, hi0⟩ := eptr_val hg R hx
  have hrv := opD_some hg R hv
  have hlt : i.toNat < l.length := (List.getElem?_eq_some_iff.1 hy0).1
  obtain ⟨_, q1, q2, hu, q3⟩ := R.h.objs a0 _ hHi
  obtain ⟨cur, e, hO, hw, hs', h1, hh⟩ := q3 (by omega)
  obtain ⟨hv', hjk, hcells⟩ := hall (hu y0 (List.mem_of_getElem? hy0))
  have hk0 : 0 < k := by omega
  obtain ⟨hu', hl', hget⟩ := flat_set hk0 hu hy0 hv'
  have hfl := flat_length hu
  have hmul : i.toNat * k + k ≤ l.length * k := by rw [← Nat.succ_mul]; exact Nat.mul_le_mul_right _ hlt
  have hmul2 : l.length * k ≤ G.β (.o (a0 + 1)) * k := Nat.mul_le_mul_right _ q2
  obtain ⟨hvs, hvc, hv1⟩ := hrv.cells
  have hvs' : (a.eval yo).cells.size = td.size := by omega
  have hone : ∀ z ∈ (a.eval yo).cells.toList, z.oneCell' = true := by
    intro z hz
    obtain ⟨q, hq, rfl⟩ := List.mem_iff_getElem.1 hz
    have hq1 : q < (a.eval yo).cells.size := by simpa using hq
    have := hv1 q (by omega)
    simpa [Array.getD, hq1] using this
  have hrun := storeVar_run hT ht hw (off := i.toNat * k + j) (v := a.eval yo) hvs' (by omega) hone
  have hrow : ∀ q, q < (D.flat l).length → (rowOf cur (i.toNat * k + j) (a.eval yo).cells.toList).getD q Go.undef = if i.toNat * k + j ≤ q ∧ q < i.toNat * k + j + td.size then (a.eval yo).cells.getD (q - (i.toNat * k + j)) Go.undef else cur.getD q Go.undef := by
    intro q hq
    rw [rowOf_get (by simp; omega)]
    simp only [Array.length_toList, hvs']
    by_cases c1 : q < i.toNat * k + j
    · rw [if_pos c1, if_neg (by omega)]
    · rw [if_neg c1]
      by_cases c2 : q < i.toNat * k + j + td.size
      · rw [if_pos c2, if_pos (by omega)]; simp [List.getD, Array.getD_eq_getD_getElem?]
      · rw [if_neg c2, if_neg (by omega)]
  have each : ∀ (q : Nat) (hq : q < (D.flat (l.set i.toNat v')).length), RepD G.K (D.flat (l.set i.toNat v'))[q] ((rowOf cur (i.toNat * k + j) (a.eval yo).cells.toList).getD q Go.undef) ∧
      ((rowOf cur (i.toNat * k + j) (a.eval yo).cells.toList).getD q Go.undef).oneCell' = true := by
    intro q hq
    have hg0 := hget q
    rw [List.getElem?_eq_getElem hq] at hg0
    rw [hrow q (by omega)]
    by_cases c : i.toNat * k + j ≤ q ∧ q < i.toNat * k + j + td.size
    · rw [if_pos c]
      rw [if_pos (by omega), hcells _ (by omega), if_pos (by omega)] at hg0
      rw [show q - i.toNat * k - j = q - (i.toNat * k + j) by omega, List.getElem?_eq_getElem (by omega)] at hg0
      rw [Option.some.inj hg0]
      exact ⟨hvc _ (by omega), hv1 _ (by omega)⟩
    · rw [if_neg c]
      have hold : (D.flat (l.set i.toNat v'))[q] = (D.flat l)[q]'(by omega) := by
        by_cases c2 : i.toNat * k ≤ q ∧ q < i.toNat * k + k
        · rw [if_pos c2, hcells _ (by omega), if_neg (by omega)] at hg0
          have := flat_get hu hy0 (q - i.toNat * k) (by omega)
          rw [show i.toNat * k + (q - i.toNat * k) = q by omega, List.getElem?_eq_getElem (by omega)] at this
          rw [← this] at hg0
          exact Option.some.inj hg0
        · rw [if_neg c2, List.getElem?_eq_getElem (by omega)] at hg0
          exact Option.some.inj hg0
      rw [hold]
      exact ⟨hh q (by omega), h1 q (by omega)⟩
  obtain ⟨hcore, hext⟩ := storeGro_core R hHi (by omega) hw (l' := l.set i.toNat v') (row := rowOf cur (i.toNat * k + j) (a.eval yo).cells.toList) (by simp) hu' (rowOf_size (by simp; omega)) (fun q hq => (each q hq).2) (fun q hq => (each q hq).1)
  refine wp_skip' hnd (w' := w.setRow (G.β (.o a0)) (rowOf cur (i.toNat * k + j) (a.eval yo).cells.toList)) (by simp [execOp, hop, hpt, Instr.storeAt, Instr.sureAddr, hrun]) (hn G _ _ ?_ (hext m))
  rw [hdst]
  simpa [Act.put] using hcore
theorem sg_slice {t : TypeId} {s : Nat} {hi : Operand} (hop : o.op = .slice t (.tmp s) none (some hi) none) {a0 k : Nat} {l : List D} (hs : g s = .gref a0 k) (hHi : σ.heap[a0]? = some (.gro k l)) {z : Int}
    (hes : elemSize T t = some k) (hb : bound g T 0 (some hi) = some z) (hz0 : 0 ≤ z) (hz1 : z ≤ (l.length : Int)) {d : Nat} (hdst : o.dst = some d) (hlt : d < σ.n) (hbx : (g d).isBox = false) :
    StepOk P σ o [(d, .gref σ.heap.length k)] (some (σ.heap.set a0 .dead ++ [.gro k (Ar.std.sub l 0 z), .dead, .dead])) := by
  have hnd : ∀ c, o.op ≠ .defer c := by simp [hop]
  obtain ⟨sz, e, zz, td, ht, hte, rfl⟩ := elemSize_some hes
  intro r n m G a w Q next hm R hn
  obtain ⟨p, hv, hnh, hle, hp⟩ := gref_val hg R hs
  obtain ⟨_, q1, q2, hu, q3⟩ := R.h.objs a0 _ hHi
  obtain ⟨nz, rfl⟩ := Int.eq_ofNat_of_zero_le hz0
  obtain ⟨kk, e1⟩ := bound_some hg hb R
  have hsub : Ar.std.sub l 0 (nz : Int) = l.take nz := by simp [Ar.std]
  rw [hsub] at hn
  have hlen : (l.take nz).length = nz := by simp; omega
  have hrun0 := run_sliceBounds (P := P) (w := w) (len := G.β (.o (a0 + 2))) (cap := G.β (.o (a0 + 1))) (nl := 0) (nh := nz) (m := G.β (.o (a0 + 1))) (low := none) (high := some (a.eval hi)) (max := none)
    (.inl ⟨rfl, rfl⟩) (.inr ⟨kk, by rw [e1]⟩) (.inl ⟨rfl, rfl⟩) (Nat.zero_le _) (by omega) (Nat.le_refl _)
  have hrun : (execOp a.eval o).run P w = .ok (.value (.slice p nz (G.β (.o (a0 + 1))))) w := by
    by_cases hc : G.β (.o (a0 + 1)) = 0
    · rw [hc] at hrun0 hv ⊢
      simp [execOp, hop, Instr.sliceAt, Instr.slice, Go.underlying, hT.slice ht, hv, hrun0, hT.size hte]
    · obtain rfl := hp (by omega)
      simp [execOp, hop, Instr.sliceAt, Instr.slice, Go.underlying, hT.slice ht, hv, hrun0, hT.size hte, hc, Addr.add_none]
  have R1 := R.kill a0
  have hdead : lets { σ with heap := σ.heap.set a0 .dead } (.o a0) := by
    simp only [lets]
    rw [List.getElem?_set_self (List.getElem?_eq_some_iff.1 hHi).1]
  obtain ⟨R2, hext, hrep⟩ := R1.toGro (w' := w) (k := td.size) (l := l.take nz) (cap := G.β (.o (a0 + 1))) (b := G.β (.o a0)) (p := p) hp (fun x hx => hu x (List.mem_of_mem_take hx)) (by rw [hlen]; omega) (Nat.le_refl _)
    ⟨rfl, rfl, fun _ _ => rfl, rfl, Nat.le_refl _⟩ (fun _ _ _ => rfl) (fun hc => by
      obtain ⟨vs, e', h1, h2, h3, h4, h5⟩ := q3 hc
      refine ⟨(Array.getElem?_eq_some_iff.1 h2).1, .inr ⟨_, h1, hdead⟩, vs, e', h2, h3, fun j hj => h4 j ?_, fun j hj => ?_⟩
      · rw [flat_take hu] at hj; simp at hj; omega
      · have hj' : j < (D.flat l).length := by rw [flat_take hu] at hj; simp at hj; omega
        have := h5 j hj'
        have e2 : (D.flat (l.take nz))[j] = (D.flat l)[j] := by
          have : (D.flat (l.take nz))[j]? = (D.flat l)[j]? := by
            rw [flat_take hu]; rw [flat_take hu] at hj; simp at hj
            exact List.getElem?_take_of_lt (by omega)
          rw [List.getElem?_eq_getElem hj, List.getElem?_eq_getElem hj'] at this
          exact Option.some.inj this
        rw [e2]; exact this)
  have hN : ({ σ with heap := σ.heap.set a0 .dead } : St).heap.length = σ.heap.length := by simp
  rw [hN, hlen] at R2 hext hrep
  refine wp_value hnd hrun (hn _ _ _ ?_ (hext m hm))
  rw [hdst]
  have := R2.put (d := d) (hrep _) (fun r off e => by cases e) (by show (σ.get d).isBox = false; rw [← hgd d hdst]; exact hbx) hlt
  simpa [St.upd, esets] using this
theorem groAppend {s d k1 : Nat} {y : Operand} {t u : TypeId} {l ys : List D} (hop : o.op = .call { callee := .builtin .append, args := #[.tmp s, y], argTypes := #[t, u] }) (ht : elemSize T t = some k1) (hu' : elemSize T u = some k1) (hy : listOf T g u y = some (k1, ys)) (hdst : o.dst = some d)
    (_ : 0 < k1) (hlt : d < σ.n) (hbx : (g d).isBox = false) (hfits : (l.length : Int) + ys.length < 4294967296) {σ1 : St} (h1n : σ1.n = σ.n) (h1b : (σ1.get d).isBox = false)
    (hold : ∀ G a w, Rel G σ a w → Rel G σ1 a w ∧ uniform k1 l ∧ ∃ p cs b, a.eval (.tmp s) = .slice p l.length cs ∧ l.length ≤ cs ∧ (0 < cs → p = some ⟨b, 0, none⟩) ∧
      (0 < cs → ∃ ℓ0 cur e, G.O b = some (ℓ0, 0) ∧ lets σ1 ℓ0 ∧ w.heap[b]? = some (.cells cur e (0, 0)) ∧ cs * k1 ≤ cur.size ∧ (∀ j, j < (D.flat l).length → (cur.getD j Go.undef).oneCell' = true) ∧ ∀ (j : Nat) (hj : j < (D.flat l).length), RepD G.K (D.flat l)[j] (cur.getD j Go.undef))) :
    ∀ (r : Option Nat) (n m : Nat) (G : Gh) (a : Act) (w : World) (Q : Exit → Act → World → Prop) (next : Act → World → Prop), m ≤ G.nh → Rel G σ a w →
      (∀ G' a' w', Rel G' { σ1 with env := eset σ1.env d (.gref σ1.heap.length k1), heap := σ1.heap ++ [.gro k1 (l ++ ys), .dead, .dead] } a' w' → Ext m G w G' w' → next a' w') → o.wpIn (Wd r) n P a w next Q := by
  have hnd : ∀ c, o.op ≠ .defer c := by simp [hop]
  obtain ⟨sz, e, zz, td, hTt, hTe, hks⟩ := elemSize_some ht
  obtain ⟨sz1, e1, zz1, td1, hTt1, hTe1, hks1⟩ := elemSize_some hu'
  obtain ⟨ie, dd, hie, hdd, hsz, hbytes, huok, z0, hz, hzs, hzl, hzc⟩ := hT.info hTe
  intro r n m G a w Q next hm R hn
  obtain ⟨R1, hul, p, cs, b, hsv, hlc, hpb, hblk⟩ := hold G a w R
  have hys := listOf_ok hg hy R
  obtain ⟨arrY, f1, f2, f3, f4⟩ := firstCells_run (P := P) R.h.kept hys
  have hyl : ∃ b cap, a.eval y = .slice b ys.length cap := by
    rcases hys.slice with ⟨rfl, oa, hv⟩ | ⟨b, off, cap, hv⟩
    · exact ⟨_, _, hv⟩
    · exact ⟨_, _, hv⟩
  obtain ⟨by', cy, hyv⟩ := hyl
  rw [hyv] at f1
  have hfl := flat_length hul
  have hfy := flat_length f3
  have huni : uniform k1 (l ++ ys) := fun x hx => by rcases List.mem_append.1 hx with hx | hx; exact hul x hx; exact f3 x hx
  have hdl : d < σ1.n := by rw [h1n]; exact hlt
  
  have fin : ∀ (b' cap' : Nat) (v : Value) (w' : World), (execOp a.eval o).run P w = .ok (.value v) w' → Rel (G.gro σ1.heap.length b' cap' (l ++ ys).length) { σ1 with heap := σ1.heap ++ [.gro k1 (l ++ ys), .dead, .dead] } a w' ∧ (∀ m, m ≤ G.nh → Ext m G w (G.gro σ1.heap.length b' cap' (l ++ ys).length) w') ∧
      (∀ ℓ, RepV (G.gro σ1.heap.length b' cap' (l ++ ys).length) w' ℓ (.gref σ1.heap.length k1) v) → o.wpIn (Wd r) n P a w next Q := by
    rintro b' cap' v w' hrun ⟨R2, hext, hrep⟩
    refine wp_value hnd hrun (hn _ _ _ ?_ (hext m hm))
    rw [hdst]
    have := R2.put (d := d) (hrep _) (fun r off e => by cases e) h1b hdl
    simpa [St.upd, esets] using this
  by_cases hcap : l.length + ys.length ≤ cs
  · by_cases hy0 : ys = []
    · subst hy0
      have harr : arrY = #[] := Array.eq_empty_of_size_eq_zero (by simpa [D.flat] using f2)
      subst harr
      have hrun : (execOp a.eval o).run P w = .ok (.value (.slice p l.length cs)) w := by
        have hcap' : l.length ≤ cs := by simpa using hcap
        simp at f1
        cases p with
        | none => simp [execOp, hop, resolve, invoke, Go.builtin, Builtin.append_, hsv, hyv, Go.underlying, hT.slice hTt, hT.slice hTt1, hT.size hTe, Builtin.lenOf, hks, f1, hcap']
        | some b => simp [execOp, hop, resolve, invoke, Go.builtin, Builtin.append_, hsv, hyv, Go.underlying, hT.slice hTt, hT.slice hTt1, hT.size hTe, Builtin.lenOf, hks, f1, hcap', storeCells]
      refine fin b cs _ _ hrun ?_
      simp only [List.append_nil]
      exact R1.toGro (w' := w) hpb hul hlc (Nat.le_refl _) ⟨rfl, rfl, fun _ _ => rfl, rfl, Nat.le_refl _⟩ (fun _ _ _ => rfl) (fun hc => by
        obtain ⟨ℓ0, cur, ec, h1, h2, h3, h4, h5, h6⟩ := hblk hc
        exact ⟨(Array.getElem?_eq_some_iff.1 h3).1, .inr ⟨ℓ0, h1, h2⟩, cur, ec, h3, h4, h5, h6⟩)
    · have hyp : 0 < ys.length := List.length_pos_iff.2 hy0
      obtain rfl := hpb (by omega)
      obtain ⟨ℓ0, cur, ec, h1, h2, h3, h4, h5, h6⟩ := hblk (by omega)
      have hlen : arrY.toList.length = ys.length * k1 := by rw [← hfy]; simpa using f2
      have hmul : (l.length + ys.length) * k1 ≤ cs * k1 := Nat.mul_le_mul_right k1 hcap
      rw [Nat.add_mul] at hmul
      have hst := run_storeCells_at P b (0 + l.length * k1) ec arrY.toList 0 cur w h3 (by omega) (fun v hv => by
        obtain ⟨q, hq, rfl⟩ := List.mem_iff_getElem.1 hv
        have := (f4 q (by simp at hq; omega)).2
        have hq' : q < arrY.size := by simpa using hq
        simpa [Array.getD, hq'] using this)
      have hrs : (0 + l.length * k1) + arrY.toList.length ≤ cur.size := by omega
      have hrun : (execOp a.eval o).run P w = .ok (.value (.slice (some ⟨b, 0, none⟩) (l.length + ys.length) cs)) (w.setRow b (rowOf cur (0 + l.length * k1) arrY.toList)) := by
        simp only [Nat.add_zero] at hst
        simp [execOp, hop, resolve, invoke, Go.builtin, Builtin.append_, hsv, hyv, Go.underlying, hT.slice hTt, hT.slice hTt1, hT.size hTe, Builtin.lenOf, hks, f1, hcap, Addr.add_none]
        simp only [Nat.zero_add] at hst ⊢
        simp [hst, rowOf]
      refine fin b cs _ _ hrun ?_
      have key := R1.toGro (w' := w.setRow b (rowOf cur (0 + l.length * k1) arrY.toList)) (k := k1) (l := l ++ ys) (cap := cs) (b := b) (p := some ⟨b, 0, none⟩) (fun _ => rfl) huni (by simpa using hcap) (by simp)
        ⟨rfl, rfl, fun ad _ => frozen?_setRow' _ _ _ ad, rfl, Nat.le_refl _⟩ (fun b' hb' hne => setRow_other _ _ _ _ (hne (by omega))) (fun hc => by
          refine ⟨by simpa using (Array.getElem?_eq_some_iff.1 h3).1, .inr ⟨ℓ0, h1, h2⟩, _, ec, setRow_heap _ _ _ _ _ _ h3, by rw [rowOf_size hrs]; exact h4, ?_⟩
          have each : ∀ (q : Nat) (hq : q < (D.flat (l ++ ys)).length), RepD G.K (D.flat (l ++ ys))[q] ((rowOf cur (0 + l.length * k1) arrY.toList).getD q Go.undef) ∧ ((rowOf cur (0 + l.length * k1) arrY.toList).getD q Go.undef).oneCell' = true := by
            intro q hq
            rw [rowOf_get hrs]
            simp only [flat_append] at hq ⊢
            simp only [List.length_append] at hq
            by_cases c1 : q < 0 + l.length * k1
            · rw [if_pos c1, List.getElem_append_left (by omega)]
              exact ⟨h6 q (by omega), h5 q (by omega)⟩
            · rw [if_neg c1, if_pos (by omega), List.getElem_append_right (by omega)]
              have := f4 (q - (D.flat l).length) (by omega)
              have e0 : arrY.toList.getD (q - (0 + l.length * k1)) Go.undef = arrY.getD (q - (D.flat l).length) Go.undef := by
                rw [hfl, Nat.zero_add]; simp [List.getD, Array.getD_eq_getD_getElem?]
              rw [e0]; exact this
          exact ⟨fun q hq => (each q hq).2, fun q hq => (each q hq).1⟩)
      simpa using key
  · have hneed : l.length + ys.length < 4294967296 := by omega
    have hbig : ¬ Builtin.nextslicecap (l.length + ys.length) cs * ie.bytes > 2 ^ 48 := by
      have h1 := nextslicecap_le (need := l.length + ys.length) (cap := cs) (by omega)
      have h2 : Builtin.nextslicecap (l.length + ys.length) cs * ie.bytes ≤ (2 * (l.length + ys.length) + 200) * 4096 := Nat.mul_le_mul h1 hbytes
      omega
    let qn := Question.appendCap (l.length + ys.length) cs e
    let nc := qn.cut (w.tape w.drawn qn)
    let wd := w.drew
    have hwd : wd.heap = w.heap := rfl
    have hnc : l.length + ys.length ≤ nc := by simp [nc, qn, Question.cut]
    let rest := Builtin.zeroCells z0.cells (nc - (l.length + ys.length))
    have hrest : rest.size = (nc - (l.length + ys.length)) * k1 := by simp [rest, Builtin.zeroCells, hzs, hks]
    have hkd : ∀ x v, G.K x = some v → wd.cell? x = some v := by
      intro x v hx
      have := R.h.kept x v hx
      unfold World.cell? at *
      rwa [hwd]
    obtain ⟨arrY, f1, f2, _, f4⟩ := firstCells_run (P := P) hkd hys
    rw [hyv] at f1
    obtain ⟨arrS, s1, s2, s4⟩ : ∃ arrS : Array Value, (Builtin.firstCells k1 l.length (Value.slice p l.length cs)).run P wd = .ok arrS wd ∧ arrS.size = (D.flat l).length ∧ ∀ (q : Nat) (hq : q < (D.flat l).length), RepD G.K (D.flat l)[q] (arrS.getD q Go.undef) ∧ (arrS.getD q Go.undef).oneCell' = true := by
      rcases Nat.eq_zero_or_pos cs with hc | hc
      · subst hc
        have hl0 : l = [] := List.eq_nil_of_length_eq_zero (by omega)
        subst hl0
        refine ⟨#[], ?_, rfl, fun q hq => by simp [D.flat] at hq⟩
        cases p with
        | none => simp [Builtin.firstCells]
        | some x => simp [Builtin.firstCells, loadCells, loadCellsFrom]
      · obtain rfl := hpb hc
        obtain ⟨ℓ0, cur, ec, h1, h2, h3, h4, h5, h6⟩ := hblk hc
        have hmul : l.length * k1 ≤ cs * k1 := Nat.mul_le_mul_right _ hlc
        refine ⟨_, firstCells_row (P := P) (w := wd) (cap := cs) (by rw [hwd]; exact h3) (by omega), by simp [hfl], fun q hq => ?_⟩
        have : ((List.range (l.length * k1)).map fun j => cur.getD j Go.undef).toArray.getD q Go.undef = cur.getD q Go.undef := by
          simp [show q < l.length * k1 by omega]
        rw [this]
        exact ⟨h6 q hq, h5 q hq⟩
    have hrun : (execOp a.eval o).run P w = .ok (.value (.slice (some ⟨w.heap.size, 0, none⟩) (l.length + ys.length) nc)) (wd.alloc (.cells (arrS ++ arrY ++ rest) e)) := by
      have hcap' : ¬ l.length + ys.length ≤ cs := hcap
      have key : (Builtin.append_ #[t, u] o.type #[.slice p l.length cs, a.eval y]).run P w = .ok (.slice (some ⟨w.heap.size, 0, none⟩) (l.length + ys.length) nc) (wd.alloc (.cells (arrS ++ arrY ++ rest) e)) := by
        unfold Builtin.append_
        simp [Go.underlying, hT.slice hTt, hT.slice hTt1, hT.size hTe, Builtin.lenOf, hyv, hcap', hks, typeInfo, hie, hbig]
        have hmax' : ¬ ((9223372036854775807 : Int) < (l.length : Int) + (ys.length : Int) ∧ ie.bytes = 0) := by
          intro hh; omega
        rw [if_neg hmax']
        have hforced' : (Question.appendCap (l.length + ys.length) cs e).forced = false := rfl
        simp only [hforced', Bool.false_eq_true, if_false]
        rw [show (Builtin.firstCells k1 l.length (Value.slice p l.length cs)).run P w.drew = _ from s1]
        simp only [Result.andThen_ok]
        rw [show (Builtin.firstCells k1 ys.length (Value.slice by' ys.length cy)).run P w.drew = _ from f1]
        simp only [Result.andThen_ok, zeroValue, typeInfo, Sem.run_bind, run_program, hie, hz, Sem.run_pure, newRow, run_newObj]
        simp [rest, nc, qn, wd]
        rfl
      simp only [execOp, hop, resolve, invoke, Go.builtin, Sem.run_bind, Sem.run_pure, Result.andThen_ok]
      simp [hsv, key]
    have hnew : (wd.alloc (.cells (arrS ++ arrY ++ rest) e)).heap[w.heap.size]? = some (.cells (arrS ++ arrY ++ rest) e (0, 0)) := heap_alloc_new (w := wd)
    refine fin w.heap.size nc _ _ hrun ?_
    have key := R1.toGro (w' := wd.alloc (.cells (arrS ++ arrY ++ rest) e)) (k := k1) (l := l ++ ys) (cap := nc) (b := w.heap.size) (p := some ⟨w.heap.size, 0, none⟩) (fun _ => rfl) huni (by simpa using hnc) (by simp [wd])
      ⟨rfl, rfl, fun ad _ => (frozen?_alloc_new _ _ (fun _ _ _ e => by cases e; rfl) ad).trans rfl, rfl, Nat.le_succ _⟩ (fun b' hb' _ => heap_alloc_lt (w := wd) hb') (fun _ => by
        refine ⟨by simp [wd], .inl (Nat.le_refl _), _, e, hnew, ?_, ?_⟩
        · have : (arrS ++ arrY ++ rest).size = nc * k1 := by
            simp only [Array.size_append, s2, f2, hfl, hfy, hrest]
            rw [← Nat.add_mul, ← Nat.add_mul]; congr 1; omega
          omega
        · have each : ∀ (q : Nat) (hq : q < (D.flat (l ++ ys)).length), RepD G.K (D.flat (l ++ ys))[q] ((arrS ++ arrY ++ rest).getD q Go.undef) ∧ ((arrS ++ arrY ++ rest).getD q Go.undef).oneCell' = true := by
            intro q hq
            simp only [flat_append] at hq ⊢
            have e0 : (arrS ++ arrY ++ rest).getD q Go.undef = if q < arrS.size then arrS.getD q Go.undef else arrY.getD (q - arrS.size) Go.undef := by
              simp only [List.length_append] at hq
              simp only [Array.getD_eq_getD_getElem?]
              split
              · rename_i hq1
                rw [Array.getElem?_append_left (by simp; omega), Array.getElem?_append_left hq1]
              · rename_i hq1
                rw [Array.getElem?_append_left (by simp; omega), Array.getElem?_append_right (by omega)]
            rw [e0]
            by_cases hq1 : q < arrS.size
            · rw [if_pos hq1, List.getElem_append_left (by omega)]
              exact s4 q (by omega)
            · rw [if_neg hq1, List.getElem_append_right (by omega)]
              have := f4 (q - arrS.size) (by simp at hq; omega)
              simpa [s2] using this
          exact ⟨fun q hq => (each q hq).2, fun q hq => (each q hq).1⟩)
    simpa using key
theorem sg_append {s d k1 : Nat} {y : Operand} {t u : TypeId} {l ys : List D} (hop : o.op = .call { callee := .builtin .append, args := #[.tmp s, y], argTypes := #[t, u] }) {a0 : Nat} (hs : g s = .gref a0 k1) (hHi : σ.heap[a0]? = some (.gro k1 l))
    (ht : elemSize T t = some k1) (hu' : elemSize T u = some k1) (hy : listOf T g u y = some (k1, ys)) (hdst : o.dst = some d) (hk : 0 < k1) (hlt : d < σ.n) (hbx : (g d).isBox = false) (hfits : (l.length : Int) + ys.length < 4294967296) :
    StepOk P σ o [(d, .gref σ.heap.length k1)] (some (σ.heap.set a0 .dead ++ [.gro k1 (l ++ ys), .dead, .dead])) := by
  intro r n m G a w Q next hm R hn
  refine groAppend hT hg hgd (σ1 := { σ with heap := σ.heap.set a0 .dead }) hop ht hu' hy hdst hk hlt hbx hfits rfl (by show (σ.get d).isBox = false; rw [← hgd d hdst]; exact hbx) (fun G a w R => ?_) r n m G a w Q next hm R (fun G' a' w' R' hE => hn G' a' w' (by simpa [St.upd, esets] using R') hE)
  obtain ⟨p, hv, hnh, hle, hp⟩ := gref_val hg R hs
  obtain ⟨_, q1, q2, hu, q3⟩ := R.h.objs a0 _ hHi
  refine ⟨R.kill a0, hu, p, G.β (.o (a0 + 1)), G.β (.o a0), by rw [hv, q1], q2, hp, fun hc => ?_⟩
  obtain ⟨vs, e, h1, h2, h3, h4, h5⟩ := q3 hc
  refine ⟨.o a0, vs, e, h1, ?_, h2, h3, h4, h5⟩
  simp only [lets]
  rw [List.getElem?_set_self (List.getElem?_eq_some_iff.1 hHi).1]
theorem sg_appendE {s d k1 : Nat} {y : Operand} {t u : TypeId} {ys : List D} (hop : o.op = .call { callee := .builtin .append, args := #[.tmp s, y], argTypes := #[t, u] }) (hs : (g s).emptyOf = some k1)
    (ht : elemSize T t = some k1) (hu' : elemSize T u = some k1) (hy : listOf T g u y = some (k1, ys)) (hdst : o.dst = some d) (hk : 0 < k1) (hlt : d < σ.n) (hbx : (g d).isBox = false) (hsd : ¬ s = d) (hfits : (ys.length : Int) < 4294967296) :
    StepOk P σ o [(s, .d (.list k1 [])), (d, .gref σ.heap.length k1)] (some (σ.heap ++ [.gro k1 ys, .dead, .dead])) := by
  have hs' : σ.get s = .own k1 [] ∨ σ.get s = .lim k1 [] := by
    have hne : g s ≠ .undef := by intro h; rw [h] at hs; cases hs
    have e : σ.get s = g s := hg.eq rfl hne
    rw [e]
    unfold AV.emptyOf at hs
    split at hs
    · rename_i h; cases hs; exact .inl h
    · rename_i h; cases hs; exact .inr h
    · cases hs
  have hdb : (σ.get d).isBox = false := by rw [← hgd d hdst]; exact hbx
  intro r n m G a w Q next hm R hn
  refine groAppend hT hg hgd (σ1 := σ.upd [(s, .d (.list k1 []))] none) (l := []) hop ht hu' hy hdst hk hlt hbx (by simpa using hfits) rfl ?_ (fun G a w R => ?_) r n m G a w Q next hm R (fun G' a' w' R' hE => hn G' a' w' (by simpa [St.upd, esets] using R') hE)
  · simp only [St.upd, St.get, esets, List.foldl_cons, List.foldl_nil, eget_eset, if_neg hsd]; exact hdb
  · have R1 := R.demote (s := s) (k := k1) (l := []) (by rcases hs' with h | h; exact .inl h; exact .inr (.inl h))
    have hrep := R.slots s
    refine ⟨R1, fun x hx => by simp at hx, ?_⟩
    show ∃ p cs b, a.tmps.getD s Go.undef = _ ∧ _
    generalize hsv : a.tmps.getD s Go.undef = sv at hrep
    rcases hs' with h | h
    · rw [h] at hrep
      cases hrep with | own _ _ _ _ hr ht =>
      have hsl : ∃ p cap, sv = .slice p 0 cap := by
        rcases hr.slice with ⟨_, oa, hv⟩ | ⟨b, off, cap, hv⟩
        · exact ⟨_, _, hv⟩
        · exact ⟨_, _, hv⟩
      obtain ⟨p, cap, rfl⟩ := hsl
      rcases Nat.eq_zero_or_pos cap with hc | hc
      · exact ⟨p, cap, 0, rfl, by simp, fun h => by omega, fun h => by omega⟩
      · cases p with
        | none =>
          generalize hv' : Value.slice none 0 cap = v at hr
          cases hr with
          | nil => simp at hv'; omega
          | none0 => simp at hv'
          | list => simp at hv'
        | some ad =>
          obtain ⟨f, c, e, h1, h2, h3, h4, h5⟩ := ht ad 0 cap rfl hc
          have hspot : ad.spot = none := by
            generalize hv' : Value.slice (some ad) 0 cap = v at hr
            cases hr with
            | nil => simp at hv'
            | none0 => simp at hv'; omega
            | list => simp at hv'; rw [hv'.1]
          have had : ad = ⟨ad.block, 0, none⟩ := by obtain ⟨x, y, z⟩ := ad; simp at hspot h5; simp [hspot, h5]
          have hf : f = 0 := by rw [h5] at h2; simpa using h2
          subst hf
          refine ⟨some ad, cap, ad.block, rfl, by simp, fun _ => by rw [← had], fun _ => ⟨.s s, c, e, h1, ?_, h3, by rw [h5] at h4; simpa using h4, fun j hj => by simp [D.flat] at hj, fun j hj => by simp [D.flat] at hj⟩⟩
          simp only [lets, St.upd, St.get, esets, List.foldl_cons, List.foldl_nil, eget_eset, if_true]
          rfl
    · rw [h] at hrep
      cases hrep with | lim _ _ _ _ hr ht =>
      have hsl : ∃ p cap, sv = .slice p 0 cap := by
        rcases hr.slice with ⟨_, oa, hv⟩ | ⟨b, off, cap, hv⟩
        · exact ⟨_, _, hv⟩
        · exact ⟨_, _, hv⟩
      obtain ⟨p, cap, rfl⟩ := hsl
      have := ht _ _ _ rfl
      exact ⟨p, cap, 0, rfl, by simp, fun h => by omega, fun h => by omega⟩
theorem sg_make {t : TypeId} {ln cp : Operand} (hop : o.op = .makeSlice t ln cp) {d : Nat} (hdst : o.dst = some d) {sz e : Nat} {zz : List AV} (ht : T t = some { size := sz, u := .slice e, zero := zz }) {td : TD} (hte : T e = some td) {kz kz' : IntKind} {z : Int}
    (hln : opD T g 0 ln = some (.int kz z)) (hcp : opD T g 0 cp = some (.int kz' z)) {y : D} (hy : zeroD td = some y) (hlt : d < σ.n) (hb : (g d).isBox = false) (hpos : 0 < td.size) (hz0 : 0 ≤ z) (hfit : z < 4294967296) :
    StepOk P σ o [(d, .gref σ.heap.length td.size)] (some (σ.heap ++ [.gro td.size (Ar.std.rep z y), .dead, .dead])) := by
  have hnd : ∀ c, o.op ≠ .defer c := by simp [hop]
  intro r n m G a w Q next hm R hn
  have h1 := opD_some hg R hln
  have h2 := opD_some hg R hcp
  obtain ⟨ie, de, hie, hde, hisz, hbytes, _⟩ := hT.info hte
  obtain ⟨z0, hz0', hz0s, hyl, hzr⟩ := zeroD_ok hT hte hy hie
  obtain ⟨N, rfl⟩ := Int.eq_ofNat_of_zero_le hz0
  have e1 : a.eval ln = .int kz N := by generalize hv : a.eval ln = v at h1; cases h1; rfl
  have e2 : a.eval cp = .int kz' N := by generalize hv : a.eval cp = v at h2; cases h2; rfl
  have hmk := run_make (P := P) w t e ie z0 (hT.slice ht) hie hz0' kz kz' N N (by omega) (Int.le_refl _) (by
    have : ie.bytes * N ≤ 4096 * 4294967296 := Nat.mul_le_mul hbytes (by omega)
    have h3 : ((ie.bytes * N : Nat) : Int) ≤ 281474976710656 := by omega
    rwa [Int.natCast_mul] at h3) (by omega)
  simp only [Int.toNat_natCast, hisz] at hmk
  have hu : uniform td.size (List.replicate N y) := fun x hx => by rw [(List.mem_replicate.1 hx).2]; exact hyl
  have hfl := flat_length hu
  have hget : ∀ q, q < N * td.size → (madeCells z0.cells (N * td.size)).getD q Go.undef = z0.cells.getD (q % td.size) Go.undef := by
    intro q hq
    have hm := Nat.mod_lt q hpos
    simp [madeCells, hz0s, hq, Array.getD, hm]
  have hrep0 : Ar.std.rep (N : Int) y = List.replicate N y := by simp [Ar.std]
  rw [hrep0] at hn
  have hrun : (execOp a.eval o).run P w = .ok (.value (.slice (some ⟨w.heap.size, 0, none⟩) N N)) (w.alloc (.cells (madeCells z0.cells (N * td.size)) e)) := by simp [execOp, hop, e1, e2, hmk]
  have each : ∀ (q : Nat) (hq : q < (D.flat (List.replicate N y)).length), RepD G.K (D.flat (List.replicate N y))[q] ((madeCells z0.cells (N * td.size)).getD q Go.undef) ∧ ((madeCells z0.cells (N * td.size)).getD q Go.undef).oneCell' = true := by
    intro q hq
    have hq' : q < N * td.size := by simpa [hfl] using hq
    have hqm : q % td.size < td.size := Nat.mod_lt _ hpos
    have hqd : q / td.size < N := by rw [Nat.div_lt_iff_lt_mul hpos]; exact hq'
    have hqq : q / td.size * td.size + q % td.size = q := by rw [Nat.mul_comm]; exact Nat.div_add_mod _ _
    have hfg := flat_get hu (i := q / td.size) (y := y) (by rw [List.getElem?_replicate, if_pos hqd]) (q % td.size) hqm
    rw [hqq, List.getElem?_eq_getElem hq, List.getElem?_eq_getElem (by omega)] at hfg
    rw [Option.some.inj hfg, hget q hq']
    exact hzr _ _ _
  obtain ⟨R2, hext, hrep⟩ := R.toGro (w' := w.alloc (.cells (madeCells z0.cells (N * td.size)) e)) (k := td.size) (l := List.replicate N y) (cap := N) (b := w.heap.size) (p := some ⟨w.heap.size, 0, none⟩) (fun _ => rfl) hu (by simp) (by simp)
    ⟨rfl, rfl, fun ad _ => frozen?_alloc_new _ _ (fun _ _ _ e => by cases e; rfl) ad, rfl, Nat.le_refl _⟩ (fun b' hb' _ => heap_alloc_lt hb') (fun _ =>
      ⟨by simp, .inl (Nat.le_refl _), _, e, heap_alloc_new, by rw [size_madeCells]; simp, fun q hq => (each q hq).2, fun q hq => (each q hq).1⟩)
  refine wp_value hnd hrun (hn _ _ _ ?_ (hext m hm))
  rw [hdst]
  simp only [List.length_replicate] at R2 hrep
  have := R2.put (d := d) (hrep _) (fun r off e => by cases e) (by show (σ.get d).isBox = false; rw [← hgd d hdst]; exact hb) hlt
  simpa [St.upd, esets] using this
theorem evGro_ok (hH : ∀ (i : Nat) (ob : Obj), H[i]? = some ob → σ.heap[i]? = some ob) (hHe : heapy an g o = true → H = σ.heap) (h : evGro Ar.std T an σ.n g H o = some (some (ss, h'))) : StepOk P σ o ss h' := by
  unfold evGro at h
  split at h
  · rename_i args ts hop
    split at h
    · rename_i s t hargs hts
      obtain rfl : args = #[.tmp s] := by cases args; simp_all
      obtain rfl : ts = #[t] := by cases ts; simp_all
      split at h
      · rename_i a0 k hs
        simp only [Option.some.injEq] at h
        split at h
        · rename_i sz e z k' l ht hHi
          split at h
          · rename_i hk; subst hk
            exact sg_len hT hg hgd hop hs (hH _ _ hHi) ht h
          · cases h
        · cases h
      · cases h
    · cases h
  · rename_i t s i hop
    split at h
    · rename_i a0 k hs
      simp only [Option.some.injEq] at h
      split at h
      · rename_i sz e zz kz z k' l ht hi hHi
        split at h
        · rename_i td hte
          split at h
          · rename_i hc
            simp only [Bool.and_eq_true, decide_eq_true_eq, idxLo_std] at hc
            obtain ⟨⟨⟨hk, rfl⟩, hz0⟩, hz1⟩ := hc
            exact sg_index hT hg hgd hop hs (hH _ _ hHi) ht hte hi hk hz0 (by simpa [Ar.std] using hz1) h
          · cases h
        · cases h
      · cases h
    · cases h
  · rename_i t s hop
    split at h
    · rename_i a0 k i j hs
      split at h
      · rename_i k' l hHi
        simp only [Option.some.injEq] at h
        split at h
        · rename_i td ht
          split at h
          · rename_i hk; subst hk
            split at h
            · rename_i y hy
              obtain ⟨av, hav, hp⟩ := putO_some h
              exact sg_load hT hg hgd hop hs (hH _ _ hHi) ht (by simpa [Ar.std] using hy) hav hp
            · cases h
          · cases h
        · cases h
      · cases h
    · cases h
  · rename_i t s yo hop
    split at h
    · rename_i a0 k i j hs
      have hHσ : H = σ.heap := hHe (by simp [heapy, hop, hs])
      subst hHσ
      split at h
      · rename_i k' l hHi
        simp only [Option.some.injEq] at h
        split at h
        · rename_i td v ht hv hdst
          split at h
          · rename_i hc
            obtain ⟨rfl, hpos, hvl⟩ := hc
            split at h
            · rename_i y0 hy0
              replace hy0 : l[i.toNat]? = some y0 := by simpa [Ar.std] using hy0
              split at h
              · rename_i hc
                obtain ⟨rfl, hsz⟩ := hc
                cases h
                exact sg_store hT hg hgd hop hs hHi ht hv hdst hpos hvl hy0 (fun _ => ⟨by omega, by omega, fun q hq => by rw [if_pos (by omega)]; simp⟩)
              · split at h
                · rename_i cs
                  split at h
                  · rename_i hc2
                    cases h
                    refine sg_store hT hg hgd hop hs hHi ht hv hdst hpos hvl hy0 (fun hyk => ?_)
                    replace hyk : cs.length = k' := hyk
                    have hv2 : j + v.cells.length ≤ cs.length := by omega
                    have e := write_get cs v.cells j
                    have el := write_length cs v.cells j hv2
                    rw [← hvl]
                    refine ⟨el.trans hyk, by omega, fun q hq => ?_⟩
                    refine (e q hv2).trans ?_
                    show _ = if j ≤ q ∧ q < j + v.cells.length then v.cells[q - j]? else cs[q]?
                    by_cases c1 : q < j
                    · rw [if_pos c1, if_neg (by omega)]
                    · rw [if_neg c1]
                      by_cases c2 : q < j + v.cells.length
                      · rw [if_pos c2, if_pos (by omega)]
                      · rw [if_neg c2, if_neg (by omega)]
                  · cases h
                · cases h
            · cases h
          · cases h
        · cases h
      · cases h
    · cases h
  · rename_i t s hi hop
    split at h
    · rename_i a0 k hs
      have hHσ : H = σ.heap := hHe (by simp [heapy, hop, hs])
      subst hHσ
      simp only [Option.some.injEq] at h
      split at h
      · rename_i es z k' l d hes hb hHi hdst
        split at h
        · rename_i hc
          simp [Ar.std] at hc
          obtain ⟨⟨⟨⟨⟨rfl, rfl⟩, hz0⟩, hz1⟩, hlt⟩, hbx⟩ := hc
          cases h
          exact sg_slice hT hg hgd hop hs hHi hes hb hz0 hz1 hdst hlt hbx
        · cases h
      · cases h
    · cases h
  · rename_i args ts hop
    split at h
    · rename_i s y t u d hargs hts hdst
      obtain rfl : args = #[.tmp s, y] := by cases args; simp_all
      obtain rfl : ts = #[t, u] := by cases ts; simp_all
      split at h
      · rename_i a0 k hs
        have hHσ : H = σ.heap := hHe (by simp [heapy, hop, hs])
        subst hHσ
        simp only [Option.some.injEq] at h
        split at h
        · rename_i es es' k2 ys k' l het heu hy hHi
          split at h
          · rename_i hc
            simp [Ar.std] at hc
            obtain ⟨⟨⟨⟨⟨⟨⟨rfl, rfl⟩, rfl⟩, rfl⟩, hpos⟩, hlt⟩, hbx⟩, hfits⟩ := hc
            cases h
            exact sg_append hT hg hgd hop hs hHi het heu hy hdst hpos hlt hbx hfits
          · cases h
        · cases h
      · split at h
        · rename_i hgr
          have hHσ : H = σ.heap := hHe (by simp only [heapy, hop, hdst, hgr, Bool.or_true])
          subst hHσ
          split at h
          · rename_i k hk
            simp only [Option.some.injEq] at h
            split at h
            · rename_i es es' k2 ys het heu hy
              split at h
              · rename_i hc
                simp [Ar.std] at hc
                obtain ⟨⟨⟨⟨⟨⟨⟨rfl, rfl⟩, rfl⟩, hpos⟩, hlt⟩, hbx⟩, hsd⟩, hfits⟩ := hc
                cases h
                exact sg_appendE hT hg hgd hop hk het heu hy hdst hpos hlt hbx hsd hfits
              · cases h
            · cases h
          · cases h
        · cases h
    · cases h
  · rename_i t ln cp hop
    split at h
    · rename_i d hdst
      split at h
      · rename_i hgr
        have hHσ : H = σ.heap := hHe (by simp [heapy, hop])
        subst hHσ
        simp only [Option.some.injEq] at h
        split at h
        · rename_i sz e zz kz z kz' z' ht hln hcp
          split at h
          · rename_i td hte
            split at h
            · rename_i y hy
              split at h
              · rename_i hc
                simp [Ar.std] at hc
                obtain ⟨⟨⟨⟨⟨hlt, hb⟩, hpos⟩, rfl⟩, hz0⟩, hfit⟩ := hc
                cases h
                exact sg_make hT hg hgd hop hdst ht hte hln hcp hy hlt hb hpos hz0 hfit
              · cases h
            · cases h
          · cases h
        · cases h
      · cases h
    · cases h
  · cases h
end
theorem evGro_len {A : Ar} {T : Types} {an : Ann} {n : Nat} {g : Nat → AV} {H H' : List Obj} {o : Oper} {ss : Sets} (h : evGro A T an n g H o = some (some (ss, some H'))) : H.length ≤ H'.length := by
  unfold evGro at h
  have hput : ∀ {dst v}, put n g dst v ≠ some (ss, some H') := by
    intro dst v h
    obtain ⟨h, _⟩ := put_some h; cases h
  have hputO : ∀ {dst v}, putO n g dst v ≠ some (ss, some H') := by
    intro dst v h
    unfold putO at h
    split at h
    · exact hput h
    · cases h
  repeat' (split at h)
  all_goals first
    | (cases h; done)
    | (exact absurd (Option.some.inj h) hput)
    | (exact absurd (Option.some.inj h) hputO)
    | (simp only [Option.some.injEq, Prod.mk.injEq] at h; obtain ⟨_, rfl⟩ := h; simp)
    | skip
end Go.Am

set_option linter.unusedSimpArgs false
set_option linter.unusedSectionVars false
namespace Go.Am
open Go
theorem evBase_ok {P : Program} {T : Types} (hT : TOk P T) {σ : St} {g : Nat → AV} {o : Oper} {ss : Sets} {h' : Option (List Obj)} {H : List Obj} {an : Ann}
    (hg : Less g σ) (hgd : ∀ d, o.dst = some d → g d = σ.get d) (hH : ∀ (i : Nat) (ob : Obj), H[i]? = some ob → σ.heap[i]? = some ob) (hHe : heapy an g o = true → H = σ.heap)
    (h : evBase Ar.std T an σ.n g H o = some (ss, h')) : StepOk P σ o ss h' := by
  have h0 := h
  cases hop : o.op with
  | move x => exact step_move hg hgd h (.inl hop)
  | assign x => exact step_move hg hgd h (.inr hop)
  | pick c a b => exact step_pick hg hgd h hop
  | alloc t => exact step_alloc hT hg hgd hHe h hop
  | box t x => exact step_box hT hg hgd hHe h hop
  | build t ps => exact step_build hT hg hgd h hop
  | buildSlice t n ps => exact step_buildSlice hT hg hgd h hop
  | load t x => exact step_load hT hg hgd hH h hop hHe
  | store t x y => exact step_store hT hg hHe h hop
  | binOp op t x y t' => exact step_binOp hg hgd h hop
  | unOp op t x =>
    cases op with
    | not => exact step_unOp hg hgd h hop
    | _ => simp [evBase, hop] at h
  | convert s t x => exact step_convert hT hg hgd h hop
  | makeFunc fn a b =>
    cases fn with
    | func f => exact step_makeFunc hg hgd h hop
    | _ => simp [evBase, hop] at h
  | slice t x a b c => exact step_slice hT hg hgd h hop
  | fieldAddr t x f => exact step_fieldAddr hT hg hgd h hop
  | field t x f => exact step_field hT hg hgd h hop
  | indexAddr t x i => exact step_indexAddr hT hg hgd h hop
  | extract x i => exact step_extract hg hgd h hop
  | call c =>
    obtain ⟨callee, args, ts⟩ := c
    cases callee with
    | builtin b =>
      cases b with
      | len => exact step_len hT hg hgd h hop
      | append => exact step_append hT hg hgd h hop
      | _ => simp [evBase, hop] at h
    | _ => simp [evBase, hop] at h
  | _ => simp [evBase, hop] at h
theorem evCore_ok {P : Program} {T : Types} (hT : TOk P T) {σ : St} {g : Nat → AV} {o : Oper} {ss : Sets} {h' : Option (List Obj)} {H : List Obj} {an : Ann}
    (hg : Less g σ) (hgd : ∀ d, o.dst = some d → g d = σ.get d) (hH : ∀ (i : Nat) (ob : Obj), H[i]? = some ob → σ.heap[i]? = some ob) (hHe : heapy an g o = true → H = σ.heap)
    (h : evCore Ar.std T an σ.n g H o = some (ss, h')) : StepOk P σ o ss h' := by
  unfold evCore at h
  split at h
  · rename_i r hr
    subst h
    exact evTail_ok hT hg hgd hr
  split at h
  · rename_i r hr
    subst h
    exact evCap_ok hT hg hgd hHe hr
  split at h
  · rename_i r hr
    subst h
    exact evGro_ok hT hg hgd hH hHe hr
  split at h
  · rename_i r hr
    subst h
    exact evArr_ok hT hg hgd hH hHe hr
  · split at h
    · rename_i r hr
      subst h
      exact evObj_ok hT hg hgd hH hHe hr
    · exact evBase_ok hT hg hgd hH hHe h
def Post (m : Nat) (G : Gh) (w : World) (Q : Exit → St → Prop) : Exit → Act → World → Prop :=
  fun e a' w' => ∃ σ' G', Rel G' σ' a' w' ∧ Ext m G w G' w' ∧ m ≤ G'.nh ∧ Q e σ'
theorem Post.ext {m : Nat} {G G1 : Gh} {w w1 : World} {Q : Exit → St → Prop} (h : Ext m G w G1 w1) {e : Exit} {a : Act} {w' : World} (hp : Post m G1 w1 Q e a w') : Post m G w Q e a w' := by
  obtain ⟨σ', G', R, hE, hm, hq⟩ := hp
  exact ⟨σ', G', R, h.trans hE, hm, hq⟩
def AWp (P : Program) (m : Nat) (c : Code) (Q : Exit → St → Prop) (σ : St) : Prop :=
  ∀ (r : Option Nat) (n : Nat) (G : Gh) (a : Act) (w : World), m ≤ G.nh → Rel G σ a w → c.wpIn (Wd r) n P (Post m G w Q) a w
def AWpT (P : Program) (m : Nat) (c : Code) (Q : Exit → St → Prop) (σ : St) : Prop :=
  ∀ (n : Nat) (G : Gh) (a : Act) (w : World), m ≤ G.nh → Rel G σ a w → c.wpIn (Wd none) n P (Post m G w Q) a w
theorem AWpT.of {P : Program} {m : Nat} {c : Code} {Q : Exit → St → Prop} {σ : St} (h : AWp P m c Q σ) : AWpT P m c Q σ := fun n G a w hm R => h none n G a w hm R
def AExit.then (K : St → Prop) (Q : Exit → St → Prop) : Exit → St → Prop
  | .normal, σ => K σ
  | e, σ => Q e σ
def AExit.block (id : Nat) (Q : Exit → St → Prop) : Exit → St → Prop
  | .exit j, σ => if j = id then Q .normal σ else Q (.exit j) σ
  | e, σ => Q e σ
section
variable {P : Program} {m : Nat} {Q : Exit → St → Prop} {σ : St}
theorem AWp.mono {c : Code} {Q' : Exit → St → Prop} (h : AWp P m c Q σ) (hq : ∀ e σ, Q e σ → Q' e σ) : AWp P m c Q' σ := by
  intro r n G a w hm R
  refine wpIn_mono (h r n G a w hm R) ?_
  rintro e a' w' ⟨σ', G', R', hE, hm', hQ⟩
  exact ⟨σ', G', R', hE, hm', hq _ _ hQ⟩
theorem AWp.skip (h : Q .normal σ) : AWp P m .skip Q σ := fun _ _ G _ _ hm R => wpIn_skip ⟨σ, G, R, Ext.refl _ _ _, hm, h⟩
theorem AWp.exit {id : Nat} (h : Q (.exit id) σ) : AWp P m (.exit id) Q σ := fun _ _ G _ _ hm R => wpIn_exit ⟨σ, G, R, Ext.refl _ _ _, hm, h⟩
theorem AWp.ret (h : Q .ret σ) : AWp P m .ret Q σ := fun _ _ G _ _ hm R => wpIn_ret ⟨σ, G, R, Ext.refl _ _ _, hm, h⟩
theorem AWp.seq {x y : Code} (h : AWp P m x (AExit.then (AWp P m y Q) Q) σ) : AWp P m (.seq x y) Q σ := by
  intro r n G a w hm R
  refine wpIn_seq (wpIn_mono (h r n G a w hm R) ?_)
  rintro e a' w' ⟨σ', G', R', hE, hm', hQ⟩
  cases e with
  | normal => exact wpIn_mono (hQ r n G' a' w' hm' R') (fun e a w hp => hp.ext hE)
  | _ => exact ⟨σ', G', R', hE, hm', hQ⟩
theorem AWpT.mono {c : Code} {Q' : Exit → St → Prop} (h : AWpT P m c Q σ) (hq : ∀ e σ, Q e σ → Q' e σ) : AWpT P m c Q' σ := by
  intro n G a w hm R
  refine wpIn_mono (h n G a w hm R) ?_
  rintro e a' w' ⟨σ', G', R', hE, hm', hQ⟩
  exact ⟨σ', G', R', hE, hm', hq _ _ hQ⟩
theorem AWpT.seq {x y : Code} (h : AWpT P m x (AExit.then (AWpT P m y Q) Q) σ) : AWpT P m (.seq x y) Q σ := by
  intro n G a w hm R
  refine wpIn_seq (wpIn_mono (h n G a w hm R) ?_)
  rintro e a' w' ⟨σ', G', R', hE, hm', hQ⟩
  cases e with
  | normal => exact wpIn_mono (hQ n G' a' w' hm' R') (fun e a w hp => hp.ext hE)
  | _ => exact ⟨σ', G', R', hE, hm', hQ⟩
theorem AWp.cond {c : Operand} {x y : Code} {b : Bool} (hc : (match c with | .tmp t => σ.get t | .const (.bool b) => .d (.bool b) | _ => .undef) = .d (.bool b)) (h : AWp P m (if b then x else y) Q σ) : AWp P m (.cond c x y) Q σ := by
  intro r n G a w hm R
  refine wpIn_cond (t := b) ?_ (h r n G a w hm R)
  split at hc
  · rename_i t
    have := R.slots t
    rw [hc] at this
    show a.tmps.getD t Go.undef = _
    generalize a.tmps.getD t Go.undef = v at this
    cases this with | d _ _ _ h => cases h; rfl
  · rename_i b'
    simp at hc; subst hc; rfl
  · cases hc
theorem AWp.condAny {c : Operand} {x y : Code} (hc : (match c with | .tmp t => σ.get t | _ => .undef) = .abool) (h1 : AWp P m x Q σ) (h2 : AWp P m y Q σ) : AWp P m (.cond c x y) Q σ := by
  intro r n G a w hm R
  cases c with
  | tmp t =>
    simp only at hc
    have := R.slots t
    rw [hc] at this
    generalize hv : a.tmps.getD t Go.undef = v at this
    cases this with | abool _ b =>
    have hv' : a.eval (.tmp t) = .bool b := hv
    cases b with
    | true => exact wpIn_cond (t := true) hv' (h1 r n G a w hm R)
    | false => exact wpIn_cond (t := false) hv' (h2 r n G a w hm R)
  | _ => cases hc
theorem AWp.block {id : Nat} {c : Code} (h : AWp P m c (AExit.block id Q) σ) : AWp P m (.block id c) Q σ := by
  intro r n G a w hm R
  refine wpIn_block (wpIn_mono (h r n G a w hm R) ?_)
  rintro e a' w' ⟨σ', G', R', hE, hm', hQ⟩
  cases e with
  | exit j =>
    simp only [AExit.block] at hQ
    simp only [Exit.inBlock]
    split at hQ
    · rename_i hj; rw [if_pos hj]; exact ⟨σ', G', R', hE, hm', hQ⟩
    · rename_i hj; rw [if_neg hj]; exact ⟨σ', G', R', hE, hm', hQ⟩
  | _ => exact ⟨σ', G', R', hE, hm', hQ⟩
theorem AWpT.cond {c : Operand} {x y : Code} {b : Bool} (hc : (match c with | .tmp t => σ.get t | .const (.bool b) => .d (.bool b) | _ => .undef) = .d (.bool b)) (h : AWpT P m (if b then x else y) Q σ) : AWpT P m (.cond c x y) Q σ := by
  intro n G a w hm R
  refine wpIn_cond (t := b) ?_ (h n G a w hm R)
  split at hc
  · rename_i t
    have := R.slots t
    rw [hc] at this
    show a.tmps.getD t Go.undef = _
    generalize a.tmps.getD t Go.undef = v at this
    cases this with | d _ _ _ h => cases h; rfl
  · rename_i b'
    simp at hc; subst hc; rfl
  · cases hc
theorem AWpT.block {id : Nat} {c : Code} (h : AWpT P m c (AExit.block id Q) σ) : AWpT P m (.block id c) Q σ := by
  intro n G a w hm R
  refine wpIn_block (wpIn_mono (h n G a w hm R) ?_)
  rintro e a' w' ⟨σ', G', R', hE, hm', hQ⟩
  cases e with
  | exit j =>
    simp only [AExit.block] at hQ
    simp only [Exit.inBlock]
    split at hQ
    · rename_i hj; rw [if_pos hj]; exact ⟨σ', G', R', hE, hm', hQ⟩
    · rename_i hj; rw [if_neg hj]; exact ⟨σ', G', R', hE, hm', hQ⟩
  | _ => exact ⟨σ', G', R', hE, hm', hQ⟩
theorem AWp.loop {ι : Type} {c : Code} (μ : ι → Nat) (S : ι → St) (i0 : ι) (h : ∀ i, AWp P m c (AExit.then (fun σ' => ∃ j, μ j < μ i ∧ σ' = S j) Q) (S i)) : AWp P m (.loop c) Q (S i0) := by
  intro r n G a w hm R b k cs hro hb hr
  have key : ∀ (q : Nat) (i : ι), μ i = q → ∀ (G1 : Gh) (a : Act) (w1 : World), m ≤ G1.nh → Rel G1 (S i) a w1 → Ext m G w G1 w1 →
      ∃ e a' w', Post m G w Q e a' w' ∧ ArrivesIn (Machine.fenced P (Wd r)) P (lone (b.atR a (.code c :: .inLoop c :: k)) cs w1) b k cs e a' w' := by
    intro q
    induction q using Nat.strongRecOn with
    | _ q ih =>
      intro i hi G1 a w1 hm1 R1 hE1
      obtain ⟨e, a₁, w₁, hq, harr⟩ := h i r n G1 a w1 hm1 R1 b (.inLoop c :: k) cs hro hb hr
      obtain ⟨σ', G', R', hE, hm', hQ⟩ := hq
      cases e with
      | normal =>
        obtain ⟨j, hlt, rfl⟩ := hQ
        obtain ⟨e₂, a₂, w₂, hq₂, harr₂⟩ := ih (μ j) (hi ▸ hlt) j rfl G' a₁ w₁ hm' R' (hE1.trans hE)
        exact ⟨e₂, a₂, w₂, hq₂, .of_steps (StepsIn.trans harr (.one (fenced_calm hb hr rfl) stepR_inLoop)) harr₂⟩
      | exit id => exact ⟨_, a₁, w₁, ⟨σ', G', R', hE1.trans hE, hm', hQ⟩, .pass (x := .inLoop c) rfl (fun _ _ => .inl (by simp)) harr⟩
      | goto l => exact ⟨_, a₁, w₁, ⟨σ', G', R', hE1.trans hE, hm', hQ⟩, .pass (x := .inLoop c) rfl (fun _ _ => .inl (by simp)) harr⟩
      | ret => exact ⟨_, a₁, w₁, ⟨σ', G', R', hE1.trans hE, hm', hQ⟩, .pass (x := .inLoop c) rfl (fun _ _ => .inl (by simp)) harr⟩
      | panic ch => exact ⟨_, a₁, w₁, ⟨σ', G', R', hE1.trans hE, hm', hQ⟩, .pass (x := .inLoop c) rfl (fun _ _ => .inl (by simp)) harr⟩
      | outgrown => exact ⟨_, a₁, w₁, ⟨σ', G', R', hE1.trans hE, hm', hQ⟩, .pass (x := .inLoop c) rfl (fun _ _ => .inl (by simp)) harr⟩
  obtain ⟨e, a', w', hq, harr⟩ := key _ i0 rfl G a w hm R (Ext.refl _ _ _)
  exact ⟨e, a', w', hq, .of_steps (.one (fenced_calm hb hr rfl) stepR_loop) harr⟩
end
def wantA (ops : List Oper) (σ : St) (o : Oper) : Option Bool :=
  match o.guard with
  | none => some true
  | some (j, b) =>
    match (ops[j]?).bind (·.dst) with
    | none => some false
    | some d =>
      match σ.get d with
      | .d (.bool x) => some (x == b)
      | .tuple [] => some false
      | _ => none
theorem wantA_ok {ops : Array Oper} {σ : St} {o : Oper} {b : Bool} (h : wantA ops.toList σ o = some b) {G : Gh} {a : Act} {w : World} (R : Rel G σ a w) : Region.wanted o (yielded ops a.tmps) = b := by
  unfold wantA at h
  unfold Region.wanted
  cases hgu : o.guard with
  | none => simp [hgu] at h; simp [h]
  | some p =>
    obtain ⟨j, b'⟩ := p
    simp only [hgu] at h
    simp only [yielded]
    cases hd : (ops[j]?).bind (·.dst) with
    | none =>
      have hd' : (ops.toList[j]?).bind (·.dst) = none := by simpa using hd
      simp only [hd'] at h
      simp at h; subst h
      simp
    | some d =>
      have hd' : (ops.toList[j]?).bind (·.dst) = some d := by simpa using hd
      simp only [hd'] at h
      have hrep := R.slots d
      simp only [Option.bind_some]
      split at h
      · rename_i x hx
        rw [hx] at hrep
        simp at h
        generalize hv : a.tmps.getD d Go.undef = v at hrep
        cases hrep with | d _ _ _ hr =>
        cases hr
        have : a.tmps[d]? = some (.bool x) := by
          rw [Array.getD_eq_getD_getElem?] at hv
          cases he : a.tmps[d]? with
          | none => rw [he] at hv; simp [Go.undef] at hv
          | some y => rw [he] at hv; simpa using hv
        simp only [this]
        rw [← h]; cases x <;> cases b' <;> rfl
      · rename_i hx
        rw [hx] at hrep
        simp at h; subst h
        generalize hv : a.tmps.getD d Go.undef = v at hrep
        cases hrep with | tuple _ _ vs hs _ _ =>
        have : ∀ x, a.tmps[d]? ≠ some (.bool x) := by
          intro x he
          rw [Array.getD_eq_getD_getElem?, he] at hv
          simp at hv
        split
        · rename_i x he; exact absurd he (this x)
        · simp
      · simp at h
def AOps (P : Program) (m : Nat) (ops : Array Oper) (l : List Oper) (Q : Exit → St → Prop) (σ : St) : Prop :=
  ∀ (r : Option Nat) (n : Nat) (G : Gh) (a : Act) (w : World) (Q' : Exit → Act → World → Prop), m ≤ G.nh → Rel G σ a w → (∀ e a' w', Post m G w Q e a' w' → Q' e a' w') → wpListIn (Wd r) n P ops Q' l a w
section
variable {P : Program} {m : Nat} {Q : Exit → St → Prop} {σ : St} {ops : Array Oper} {o : Oper} {l : List Oper}
theorem AOps.nil (h : Q .normal σ) : AOps P m ops [] Q σ := fun _ _ G a w _ hm R hQ => hQ _ a w ⟨σ, G, R, Ext.refl _ _ _, hm, h⟩
theorem AOps.step {ss : Sets} {h' : Option (List Obj)} (hw : wantA ops.toList σ o = some true) (hs : StepOk P σ o ss h') (hlen : m ≤ (σ.upd ss h').heap.length) (h : AOps P m ops l Q (σ.upd ss h')) : AOps P m ops (o :: l) Q σ := by
  intro r n G a w Q' hm R hQ
  unfold wpListIn
  rw [if_pos (wantA_ok hw R)]
  refine hs r n m G a w Q' _ hm R fun G' a' w' R' hE => ?_
  exact h r n G' a' w' Q' (by rw [← R'.h.nh]; exact hlen) R' (fun e a'' w'' hp => hQ _ _ _ (hp.ext hE))
theorem AOps.skip {d : Nat} (hw : wantA ops.toList σ o = some false) (hd : o.dst = some d) (hlt : d < σ.n) (hb : (σ.get d).isBox = false) (h : AOps P m ops l Q (σ.upd [(d, .tuple [])] none)) : AOps P m ops (o :: l) Q σ := by
  intro r n G a w Q' hm R hQ
  unfold wpListIn
  rw [wantA_ok hw R, if_neg (by simp)]
  refine ⟨fun _ _ => trivial, ?_⟩
  rw [hd]
  exact h r n G _ w Q' hm (R.put (.tuple _ _ #[] rfl (fun i hi => by simp at hi) (fun c hc => by simp at hc)) (fun r off e => by cases e) hb hlt) hQ
theorem AOps.skip0 (hw : wantA ops.toList σ o = some false) (hd : o.dst = none) (h : AOps P m ops l Q σ) : AOps P m ops (o :: l) Q σ := by
  intro r n G a w Q' hm R hQ
  unfold wpListIn
  rw [wantA_ok hw R, if_neg (by simp)]
  refine ⟨fun _ _ => trivial, ?_⟩
  rw [hd]
  exact h r n G _ w Q' hm R hQ
theorem AWp.region {id : Nat} (h : AOps P m ops ops.toList Q σ) : AWp P m (.region id ops false) Q σ :=
  fun r n G a w hm R => wpIn_region_list (h r n G a w _ hm R (fun _ _ _ hp => hp))
end
theorem evBase_len {A : Ar} {T : Types} {an : Ann} {n : Nat} {g : Nat → AV} {H H' : List Obj} {o : Oper} {ss : Sets} (h : evBase A T an n g H o = some (ss, some H')) : H.length ≤ H'.length := by
  have hput : ∀ {dst : Option Tmp} {v : AV}, Am.put n g dst v ≠ some (ss, some H') := by
    intro dst v e; have := (put_some e).1; cases this
  have hputO : ∀ {dst : Option Tmp} {v : Option AV}, putO n g dst v ≠ some (ss, some H') := by
    intro dst v e; obtain ⟨x, _, e⟩ := putO_some e; exact hput e
  have hmap : ∀ {dst : Option Tmp} {v : AV} {q : Sets × Option (List Obj) → Sets}, Option.map (fun p => (q p, p.2)) (Am.put n g dst v) ≠ some (ss, some H') := by
    intro dst v q e
    simp only [Option.map_eq_some_iff] at e
    obtain ⟨⟨s1, h1⟩, e1, e2⟩ := e
    have := (put_some e1).1
    simp at e2; rw [this] at e2; exact absurd e2.2 (by simp)
  have hmap2 : ∀ {dst : Option Tmp} {v : AV} {q : Sets × Option (List Obj) → Sets} {H1 : List Obj}, H1.length = H.length → Option.map (fun p => (q p, some H1)) (Am.put n g dst v) = some (ss, some H') → H.length ≤ H'.length := by
    intro dst v q H1 hl e
    simp only [Option.map_eq_some_iff] at e
    obtain ⟨⟨s1, h1⟩, e1, e2⟩ := e
    simp at e2; rw [← e2.2, hl]; exact Nat.le_refl _
  cases hop : o.op <;> simp only [evBase, hop, blk_eq] at h
  all_goals (repeat' split at h)
  all_goals first
    | (cases h; done)
    | (exact absurd h hput)
    | (exact absurd h hputO)
    | (exact absurd h hmap)
    | (exact hmap2 (by simp) h)
    | (simp at h; done)
    | (simp at h; rw [← h.2]; simp; done)
    | (simp at h; obtain ⟨_, _, _, rfl⟩ := h; simp; done)
theorem evCap_len {A : Ar} {T : Types} {an : Ann} {n : Nat} {g : Nat → AV} {H H' : List Obj} {o : Oper} {ss : Sets} (h : evCap A T an n g H o = some (some (ss, some H'))) : H.length ≤ H'.length := by
  unfold evCap at h
  split at h
  · repeat' split at h
    all_goals first
      | (cases h; done)
      | (simp only [Option.some.injEq] at h; exact absurd (put_some h).1 (by simp))
      | (simp at h; done)
  · repeat' split at h
    all_goals first
      | (cases h; done)
      | (simp only [Option.some.injEq] at h; exact absurd (put_some h).1 (by simp))
      | (simp at h; done)
  · repeat' split at h
    all_goals first
      | (cases h; done)
      | (simp only [Option.some.injEq] at h; exact absurd (put_some h).1 (by simp))
      | (simp at h; done)
  · repeat' split at h
    all_goals first
      | (cases h; done)
      | (simp only [Option.some.injEq] at h; exact absurd (put_some h).1 (by simp))
      | (simp at h; done)
  · repeat' split at h
    all_goals first
      | (cases h; done)
      | (simp at h; done)
      | (simp only [Option.some.injEq, Option.map_eq_some_iff] at h
         obtain ⟨p, _, hp⟩ := h
         simp only [Prod.mk.injEq, Option.some.injEq] at hp
         rw [← hp.2]; simp)
  · cases h
theorem evCore_len {A : Ar} {T : Types} {an : Ann} {n : Nat} {g : Nat → AV} {H H' : List Obj} {o : Oper} {ss : Sets} (h : evCore A T an n g H o = some (ss, some H')) : H.length ≤ H'.length := by
  unfold evCore at h
  split at h
  · rename_i r hr
    subst h
    exact (evTail_none hr).elim
  split at h
  · rename_i r hr
    subst h
    exact evCap_len hr
  split at h
  · rename_i r hr
    subst h
    exact evGro_len hr
  split at h
  · rename_i r hr
    subst h
    exact evArr_len hr
  · split at h
    · rename_i r hr
      subst h
      exact evObj_len hr
    · exact evBase_len h
end Go.Am

set_option linter.unusedSimpArgs false
set_option linter.unusedSectionVars false
namespace Go.Am
open Go

mutual
def AV.inb (m : Nat) : AV → Bool
  | .ptr a _ | .map a | .mref a _ _ _ | .mcap a _ _ _ _ | .eptr a _ _ _ | .yield a => decide (a < m)
  | .gref a _ => decide (a + 2 < m)
  | .func _ as bs => inbL m as && inbL m bs
  | .agg cs | .tuple cs | .lbox cs => inbL m cs
  | _ => true
def inbL (m : Nat) : List AV → Bool
  | [] => true
  | c :: r => c.inb m && inbL m r
end
def Obj.inb (m : Nat) : Obj → Bool
  | .cells cs => inbL m cs
  | .loop L => inbL m (L.env.map (·.2))
  | _ => true
theorem inbL_get {m : Nat} : ∀ {cs : List AV}, inbL m cs = true → ∀ (i : Nat) (hi : i < cs.length), cs[i].inb m = true
  | c :: r, h, 0, _ => by simp [inbL] at h; exact h.1
  | c :: r, h, i + 1, hi => by simp [inbL] at h; exact inbL_get h.2 i (by simpa using hi)
theorem inbL_eget {m : Nat} : ∀ {e : List (Nat × AV)}, inbL m (e.map (·.2)) = true → ∀ t, (eget e t).inb m = true
  | [], _, _ => rfl
  | (s, v) :: r, h, t => by
    simp [inbL] at h
    simp only [eget]
    split
    · exact h.1
    · exact inbL_eget (by simpa using h.2) t
structure Sub (G G' : Gh) (w w' : World) (S : Loc → Prop) (m : Nat) : Prop where
  K : KLe G.K G'.K
  O : ∀ (b : Nat) (ℓ : Loc) (f : Nat), S ℓ → G.O b = some (ℓ, f) → G'.O b = some (ℓ, f) ∧ w'.heap[b]? = w.heap[b]?
  β : ∀ a, a < m → G'.β (.o a) = G.β (.o a)
  nh : m ≤ G'.nh
theorem RepV.sub {G G' : Gh} {w w' : World} (hG : Sane G) {m : Nat} {ℓ : Loc} {av : AV} {v : Value} (h : RepV G w ℓ av v) :
    ∀ {S : Loc → Prop}, Sub G G' w w' S m → S ℓ → av.inb m = true → av.isLocal = false → RepV G' w' ℓ av v := by
  have no : ∀ {S : Loc → Prop}, Sub G G' w w' S m → Sub G G' w w' (· = .no) m := fun hp =>
    ⟨hp.K, fun b ℓ f hr hO => absurd (hr ▸ rfl) (hG.no b ℓ f hO), hp.β, hp.nh⟩
  induction h with
  | undef ℓ v => exact fun _ _ _ _ => .undef ℓ v
  | abool ℓ b => exact fun _ _ _ _ => .abool ℓ b
  | d ℓ x v h => exact fun hp _ _ _ => .d ℓ x v (h.mono hp.K)
  | ptr ℓ a off ha => intro S hp _ hb _; simp [AV.inb] at hb; rw [← hp.β a hb]; exact .ptr ℓ a off (Nat.lt_of_lt_of_le hb hp.nh)
  | nilptr ℓ => exact fun _ _ _ _ => .nilptr ℓ
  | iptr ℓ cs b off vs hK h1 h => exact fun hp _ _ _ => .iptr ℓ cs b off vs (fun j hj => hp.K _ _ (hK j hj)) h1 (fun j hj => (h j hj).mono hp.K)
  | own ℓ k l v h ht =>
    intro S hp hS _ _
    refine .own ℓ k l v (h.mono hp.K) ?_
    intro a n cap hv hn
    obtain ⟨f, c, e, h1, h2, h3, h4⟩ := ht a n cap hv hn
    obtain ⟨h5, h6⟩ := hp.O _ _ _ hS h1
    exact ⟨f, c, e, h5, h2, h6.trans h3, h4⟩
  | lim ℓ k l v h ht => exact fun hp _ _ _ => .lim ℓ k l v (h.mono hp.K) ht
  | tail ℓ k l v h ht =>
    intro S hp hS _ _
    refine .tail ℓ k l v (h.mono hp.K) ?_
    intro a n cap hv hn
    obtain ⟨f, c, e, h1, h2, h3, h4⟩ := ht a n cap hv hn
    obtain ⟨h5, h6⟩ := hp.O _ _ _ hS h1
    exact ⟨f, c, e, h5, h2, h6.trans h3, h4⟩
  | func ℓ f as bs va vb ha hb _ _ hc hc' ih ih' =>
    intro S hp _ hbl _
    simp [AV.inb] at hbl
    exact .func ℓ f as bs va vb ha hb (fun i hi => ih i hi (no hp) rfl (inbL_get hbl.1 i hi) (hc _ (List.getElem_mem hi))) (fun i hi => ih' i hi (no hp) rfl (inbL_get hbl.2 i hi) (hc' _ (List.getElem_mem hi))) hc hc'
  | nilfunc ℓ => exact fun _ _ _ _ => .nilfunc ℓ
  | yield ℓ l hl => intro S hp _ hb _; simp [AV.inb] at hb; rw [← hp.β l hb]; exact .yield ℓ l (Nat.lt_of_lt_of_le hb hp.nh)
  | map ℓ a ha => intro S hp _ hb _; simp [AV.inb] at hb; rw [← hp.β a hb]; exact .map ℓ a (Nat.lt_of_lt_of_le hb hp.nh)
  | nilmap ℓ => exact fun _ _ _ _ => .nilmap ℓ
  | lbox t cs vs e hO hw hs _ hc ih => intro S _ _ _ hl; simp [AV.isLocal] at hl
  | place ℓ r off => intro S _ _ _ hl; simp [AV.isLocal] at hl
  | mref ℓ a k lo n b off cap ha h1 h2 h3 h4 => intro S hp _ hb _; simp [AV.inb] at hb; exact .mref ℓ a k lo n b off cap (Nat.lt_of_lt_of_le hb hp.nh) h1 h2 h3 (fun h => by rw [hp.β a hb]; exact h4 h)
  | mcap ℓ a k lo n c b off cap ha h1 h2 h3 h4 h5 => intro S hp _ hb _; simp [AV.inb] at hb; exact .mcap ℓ a k lo n c b off cap (Nat.lt_of_lt_of_le hb hp.nh) h1 h2 h3 h4 (fun h => by rw [hp.β a hb]; exact h5 h)
  | gref ℓ a k p ha hc hq => intro S hp _ hb _; simp [AV.inb] at hb; rw [← hp.β _ hb, ← hp.β _ (by omega : a + 1 < _)] at hc; rw [← hp.β _ hb, ← hp.β _ (by omega : a + 1 < _)]; exact .gref ℓ a k p (Nat.lt_of_lt_of_le hb hp.nh) hc (fun h => by rw [hp.β _ (by omega : a < _)]; exact hq (by rw [← hp.β _ (by omega : a + 1 < _)]; exact h))
  | eptr ℓ a k i j ha hi => intro S hp _ hb _; simp [AV.inb] at hb; rw [← hp.β a hb]; exact .eptr ℓ a k i j (Nat.lt_of_lt_of_le hb hp.nh) hi
  | agg ℓ cs vs hs _ hc hf ih =>
    intro S hp _ hbl _
    simp [AV.inb] at hbl
    exact .agg ℓ cs vs hs (fun i hi => ih i hi (no hp) rfl (inbL_get hbl i hi) (AV.isLocal_of_isCell (hc _ (List.getElem_mem hi)))) hc hf
  | tuple ℓ cs vs hs _ hc ih =>
    intro S hp _ hbl _
    simp [AV.inb] at hbl
    exact .tuple ℓ cs vs hs (fun i hi => ih i hi (no hp) rfl (inbL_get hbl i hi) (hc _ (List.getElem_mem hi))) hc
def Obj.okAt (m i : Nat) (ob : Obj) : Prop := ob.inb m = true ∧ ∀ k l, ob = .gro k l → i + 2 < m
theorem RepObj.sub {G G' : Gh} {w w' : World} (hG : Sane G) {i m : Nat} {ob : Obj} (h : RepObj G w i ob) (hi : i < m) {S : Loc → Prop} (hp : Sub G G' w w' S m) (hS : S (.o i)) (hSc : ∀ j, S (.oc i j)) (hb : ob.okAt m i) : RepObj G' w' i ob := by
  obtain ⟨hb, hbg⟩ := hb
  cases ob with
  | cells cs =>
    obtain ⟨vs, e, h1, h2, h3, h4, h5⟩ := h
    obtain ⟨h6, h7⟩ := hp.O _ _ _ hS h1
    have hβ := hp.β i hi
    rw [← hβ] at h2 h6 h7
    exact ⟨vs, e, h6, h7.trans h2, h3, fun j hj => (h4 j hj).sub hG hp (hSc j) (inbL_get hb j hj) (AV.isLocal_of_isCell (h5 _ (List.getElem_mem hj))), h5⟩
  | arr k l =>
    obtain ⟨vs, e, h1, h2, h3, h4, h8, h5⟩ := h
    obtain ⟨h6, h7⟩ := hp.O _ _ _ hS h1
    have hβ := hp.β i hi
    rw [← hβ] at h2 h6 h7
    exact ⟨vs, e, h6, h7.trans h2, h3, h4, h8, fun j hj => (h5 j hj).mono hp.K⟩
  | map agg ks es =>
    obtain ⟨ms, clock, h1, h2, h3⟩ := h
    obtain ⟨h6, h7⟩ := hp.O _ _ _ hS h1
    have hβ := hp.β i hi
    rw [← hβ] at h2 h6 h7
    exact ⟨ms, clock, h6, h7.trans h2, h3.mono hp.K⟩
  | loop L =>
    obtain ⟨fn, tmps, D, h1, h2, h3, h4, h5⟩ := h
    obtain ⟨h6, h7⟩ := hp.O _ _ _ hS h1
    have hβ := hp.β i hi
    rw [← hβ] at h2 h6 h7
    refine ⟨fn, tmps, D, h6, h7.trans h2, h3, fun t => ?_, h5⟩
    have hl : (eget L.env t).isLocal = false := by
      have := h5 t
      generalize eget L.env t = c at this
      cases c <;> first | rfl | (simp [AV.free] at this)
    exact (h4 t).sub hG (⟨hp.K, fun b ℓ f hr hO => absurd (hr ▸ rfl) (hG.no b ℓ f hO), hp.β, hp.nh⟩ : Sub G G' w w' (· = .no) m) rfl (inbL_eget hb t) hl
  | gro k l =>
    obtain ⟨g0, g1, g2, g3, g4⟩ := h
    have g0' := hbg k l rfl
    have b0 := hp.β i hi
    have b1 := hp.β (i + 1) (by omega)
    have b2 := hp.β (i + 2) g0'
    refine ⟨Nat.lt_of_lt_of_le g0' hp.nh, by rw [b2]; exact g1, by rw [b1]; exact g2, g3, fun hc => ?_⟩
    rw [b1] at hc
    obtain ⟨vs, e, h1, h2, h3, h8, h5⟩ := g4 hc
    obtain ⟨h6, h7⟩ := hp.O _ _ _ hS h1
    rw [← b0] at h2 h6 h7
    exact ⟨vs, e, h6, h7.trans h2, by rw [b1]; exact h3, h8, fun j hj => (h5 j hj).mono hp.K⟩
  | dead => trivial
def objsInb (m : Nat) : List Obj → Bool
  | [] => true
  | o :: r => o.inb m && (match o with | .gro .. => Nat.ble 2 r.length | _ => true) && objsInb m r
def callable (P : Program) (f : FuncId) : Bool :=
  match P.funcs[f]? with
  | some fn => fn.name != "runtime.NumGoroutine" && fn.body.isSome
  | none => false
def ACall (P : Program) (f : FuncId) (args : List AV) (H : List Obj) (r : AV) (H' : List Obj) : Prop :=
  callable P f = true ∧ r.isLocal = false ∧ r.inb H'.length = true ∧ objsInb H'.length H' = true ∧ H.length ≤ H'.length ∧ ∀ (n : Nat) (G : Gh) (w : World) (vs : Array Value), vs.size = args.length → (∀ (i : Nat) (hi : i < args.length), RepV G w .no args[i] (vs.getD i Go.undef)) → RelH G H w →
    (∀ b ℓ f, G.O b = some (ℓ, f) → ∃ i, ℓ.root = .o i) →
    CallsIn (Wd none) n P f vs w (fun e w' => ∃ v G', e = .returned v ∧ RepV G' w' .ret r v ∧ RelH G' H' w' ∧ Ext H.length G w G' w')
def envOf : Nat → List AV → List (Nat × AV)
  | _, [] => []
  | i, v :: r => (i, v) :: envOf (i + 1) r
theorem eget_envOf : ∀ (args : List AV) (i t : Nat), eget (envOf i args) t = if i ≤ t ∧ t < i + args.length then args.getD (t - i) .undef else .undef
  | [], i, t => by simp [envOf, eget]
  | v :: r, i, t => by
    simp only [envOf, eget, List.length_cons]
    by_cases h : i = t
    · subst h; simp
    · rw [if_neg h, eget_envOf r (i + 1) t]
      by_cases h2 : i + 1 ≤ t ∧ t < i + 1 + r.length
      · rw [if_pos h2, if_pos (by omega), show t - i = (t - (i + 1)) + 1 by omega]; simp
      · rw [if_neg h2, if_neg (by omega)]
def resOne (T : Types) (σ : St) (own : Bool) : ResultVar → Option AV
  | .tmp t => match σ.get t with
    | .lbox _ | .place .. => none
    | .lim k l => some (.d (.list k l))
    | .tail k l => some (.d (.list k l))
    | v => some (if own then v else v.copy)
  | .cell t ty => match σ.get t, T ty with
    | .lbox cs, some td => readAt td cs 0
    | .ptr i off, some td => match σ.heap[i]? with
      | some (.cells cs) => readAt td cs off
      | some (.arr _ l) => if off = 0 ∧ td.isAgg = true ∧ l.length = td.size ∧ l.all D.isOne = true then some (.d (.agg l)) else none
      | _ => none
    | _, _ => none
def resAV (T : Types) (σ : St) : List ResultVar → Option AV
  | [x] => resOne T σ true x
  | l => (l.mapM (resOne T σ false)).map .tuple
def FnPost (T : Types) (fn : Func) (m : Nat) (r : AV) (H' : List Obj) : Exit → St → Prop
  | .normal, σ | .ret, σ => resAV T σ fn.results.toList = some r ∧ r.inb H'.length = true ∧ objsInb H'.length H' = true ∧ m ≤ H'.length ∧ ∃ junk, σ.heap = H' ++ junk
  | _, _ => False
def objLoc (m : Nat) : Loc → Bool
  | .o i | .oc i _ => decide (i < m)
  | _ => false
def Gh.handed (G : Gh) (m : Nat) : Gh :=
  { K := G.K, β := G.β, nh := m
    O := fun b => match G.O b with
      | some (ℓ, f) => if objLoc m ℓ then some (ℓ, f) else none
      | none => none }
theorem handed_O {G : Gh} {m b : Nat} {ℓ : Loc} {f : Nat} (h : (G.handed m).O b = some (ℓ, f)) : G.O b = some (ℓ, f) ∧ objLoc m ℓ = true := by
  simp only [Gh.handed] at h
  split at h
  · split at h
    · rename_i ℓ' f' hO hl; simp at h; obtain ⟨rfl, rfl⟩ := h; exact ⟨hO, hl⟩
    · cases h
  · cases h
theorem handed_none {G : Gh} {m b : Nat} (h : ∀ ℓ f, G.O b = some (ℓ, f) → objLoc m ℓ = false) : (G.handed m).O b = none := by
  simp only [Gh.handed]
  split
  · rename_i ℓ f hO; rw [h ℓ f hO]; rfl
  · rfl
theorem objsInb_inb {m : Nat} : ∀ {H : List Obj}, objsInb m H = true → ∀ (i : Nat) (ob : Obj), H[i]? = some ob → ob.inb m = true
  | o :: r, h, 0, ob, e => by simp only [objsInb, Bool.and_eq_true] at h; simp at e; subst e; exact h.1.1
  | o :: r, h, i + 1, ob, e => by simp only [objsInb, Bool.and_eq_true] at h; exact objsInb_inb h.2 i ob (by simpa using e)
theorem objsInb_gro {m : Nat} : ∀ {H : List Obj}, objsInb m H = true → ∀ (i : Nat) (k : Nat) (l : List D), H[i]? = some (.gro k l) → i + 2 < H.length
  | o :: r, h, 0, k, l, e => by simp at e; subst e; simp only [objsInb, Bool.and_eq_true] at h; have := Nat.le_of_ble_eq_true h.1.2; simp; omega
  | o :: r, h, i + 1, k, l, e => by simp only [objsInb, Bool.and_eq_true] at h; have := objsInb_gro h.2 i k l (by simpa using e); simp; omega
theorem objsInb_get {m : Nat} {H : List Obj} (h : objsInb m H = true) (i : Nat) (ob : Obj) (e : H[i]? = some ob) (hl : H.length ≤ m := by first | exact Nat.le_refl _ | (simp; done) | (simp; omega) | omega) : ob.okAt m i :=
  ⟨objsInb_inb h i ob e, fun k l he => Nat.lt_of_lt_of_le (objsInb_gro h i k l (by rw [e, he])) hl⟩
theorem RelH.handed {G : Gh} {H rest : List Obj} {w : World} (R : RelH G (H ++ rest) w) (hc : objsInb H.length H = true) : RelH (G.handed H.length) H w := by
  have hm : H.length ≤ G.nh := by rw [← R.nh]; simp
  have hsub : Sub G (G.handed H.length) w w (fun ℓ => objLoc H.length ℓ = true) H.length :=
    ⟨KLe.refl _, fun b ℓ f hl hO => ⟨by simp [Gh.handed, hO, hl], rfl⟩, fun _ _ => rfl, Nat.le_refl _⟩
  refine ⟨⟨fun b ℓ f h => R.sane.no b ℓ f (handed_O h).1⟩, rfl, fun i ob hob => ?_, R.kept, fun b ℓ f h => R.disj b ℓ f (handed_O h).1⟩
  have hi : i < H.length := (List.getElem?_eq_some_iff.1 hob).1
  exact (R.objs i ob (by rw [List.getElem?_append_left hi]; exact hob)).sub R.sane hi hsub (by simp [objLoc, hi]) (fun j => by simp [objLoc, hi]) (objsInb_get hc i ob hob)
def Gh.foreign (G : Gh) (m b : Nat) : Bool :=
  match G.O b with
  | some (ℓ, _) => !objLoc m ℓ
  | none => false
def Gh.back (G G3 : Gh) (m k d q : Nat) : Gh :=
  { K := G3.K
    O := fun b => if G.foreign m b then G.O b else
      match G3.O b with
      | some (ℓ, f) => if objLoc k ℓ then some (ℓ, f) else if ℓ = .ret then some (.s d, f) else none
      | none => none
    β := fun
      | .o i => if i < k then G3.β (.o i) else G.β (.o i)
      | r => G.β r
    nh := k + q }
theorem back_O {G G3 : Gh} {m k d q b : Nat} {ℓ : Loc} {f : Nat} (h : (G.back G3 m k d q).O b = some (ℓ, f)) :
    (G.foreign m b = true ∧ G.O b = some (ℓ, f)) ∨ (G.foreign m b = false ∧ ∃ ℓ', G3.O b = some (ℓ', f) ∧ ((objLoc k ℓ' = true ∧ ℓ = ℓ') ∨ (ℓ' = .ret ∧ ℓ = .s d))) := by
  simp only [Gh.back] at h
  split at h
  · rename_i hf; exact .inl ⟨hf, h⟩
  · rename_i hf
    refine .inr ⟨by simpa using hf, ?_⟩
    split at h
    · rename_i ℓ' f' hO
      split at h
      · rename_i hl; simp at h; obtain ⟨rfl, rfl⟩ := h; exact ⟨_, hO, .inl ⟨hl, rfl⟩⟩
      · split at h
        · rename_i hr; simp at h; obtain ⟨rfl, rfl⟩ := h; exact ⟨_, hO, .inr ⟨hr, rfl⟩⟩
        · cases h
    · cases h
theorem Rel.backO {G G3 : Gh} {σ : St} {a : Act} {w w' : World} (R : Rel G σ a w) {H rest H' : List Obj} (hH : σ.heap = H ++ rest) (hr : rest = [] ∨ H'.length = H.length) (hHH : H.length ≤ H'.length)
    (R3 : RelH G3 H' w') (hE : Ext H.length (G.handed H.length) w G3 w') (hin : objsInb H'.length H' = true) {d : Option Nat} {r : AV} {v : Value} (hv : RepV G3 w' .ret r v) (hrl : r.isLocal = false) (hri : r.inb H'.length = true)
    (hd : ∀ x, d = some x → x < σ.n ∧ (σ.get x).isBox = false) :
    Rel (G.back G3 H.length H'.length (d.getD 0) rest.length) { σ with env := (match d with | some x => eset σ.env x r | none => σ.env), heap := H' ++ rest } (a.put d v) w' ∧
      ∀ m, m ≤ G.nh → Ext m G w (G.back G3 H.length H'.length (d.getD 0) rest.length) w' := by
  let Gf := G.back G3 H.length H'.length (d.getD 0) rest.length
  have hnh : G.nh = H.length + rest.length := by rw [← R.h.nh, hH]; simp
  
  have hfor : ∀ b ℓ f, G.O b = some (ℓ, f) → objLoc H.length ℓ = false → Gf.O b = some (ℓ, f) ∧ w'.heap[b]? = w.heap[b]? ∧ G3.O b = none := by
    intro b ℓ f hO hl
    have hc : (G.handed H.length).O b = none := handed_none fun ℓ' f' h' => by rw [hO] at h'; simp at h'; obtain ⟨rfl, _⟩ := h'; exact hl
    obtain ⟨h1, h2⟩ := hE.others b (R.h.disj b ℓ f hO).1 hc
    refine ⟨?_, h1, h2⟩
    have : G.foreign H.length b = true := by simp [Gh.foreign, hO, hl]
    simp only [Gf, Gh.back, this, if_true, hO]
  
  have hback : ∀ b ℓ f, G3.O b = some (ℓ, f) → (objLoc H'.length ℓ = true → Gf.O b = some (ℓ, f)) ∧ (ℓ = .ret → Gf.O b = some (.s (d.getD 0), f)) := by
    intro b ℓ f hO
    have hnf : G.foreign H.length b = false := by
      cases hG : G.O b with
      | none => simp [Gh.foreign, hG]
      | some p =>
        obtain ⟨ℓ', f'⟩ := p
        cases hl : objLoc H.length ℓ' with
        | true => simp [Gh.foreign, hG, hl]
        | false => rw [(hfor b ℓ' f' hG hl).2.2] at hO; cases hO
    constructor
    · intro hl; simp only [Gf, Gh.back, hnf, hO]; simp [hl]
    · rintro rfl; simp only [Gf, Gh.back, hnf, hO]; simp [objLoc]
  have hβ : ∀ i, i < G.nh → Gf.β (.o i) = G.β (.o i) := by
    intro i hi
    simp only [Gf, Gh.back]
    split
    · rename_i hk
      rcases Nat.lt_or_ge i H.length with h | h
      · exact hE.β i h
      · rcases hr with rfl | hr
        · simp at hnh; omega
        · omega
    · rfl
  have hp1 : Pres G Gf w w' (fun ℓ => objLoc H.length ℓ = false) :=
    ⟨hE.K, fun b ℓ f hl hO => ⟨(hfor b ℓ f hO hl).1, (hfor b ℓ f hO hl).2.1⟩, hβ, by simp only [Gf, Gh.back]; omega⟩
  have hp2 : Sub G3 Gf w' w' (fun ℓ => objLoc H'.length ℓ = true) H'.length :=
    ⟨KLe.refl _, fun b ℓ f hl hO => ⟨(hback b ℓ f hO).1 hl, rfl⟩, fun i hi => by simp [Gf, Gh.back, hi], by simp [Gf, Gh.back]⟩
  have hslots : ∀ t, RepV Gf w' (.s t) (σ.get t) (a.tmps.getD t Go.undef) := fun t => (R.slots t).pres R.h.sane hp1 rfl (fun _ _ _ => rfl) (fun _ _ _ => ⟨rfl, fun j => rfl⟩)
  refine ⟨⟨⟨⟨fun b ℓ f h => ?_⟩, by simp [Gf, Gh.back], fun i ob hob => ?_, R3.kept, fun b ℓ f h => ?_⟩, by cases d <;> simpa [Act.put] using R.size, ?_, ?_, ?_⟩, fun m hm => ?_⟩
  · rcases back_O h with ⟨_, hO⟩ | ⟨_, ℓ', hO, ⟨hl, rfl⟩ | ⟨rfl, rfl⟩⟩
    · exact R.h.sane.no b ℓ f hO
    · exact R3.sane.no b ℓ f hO
    · simp [Loc.root]
  · rcases Nat.lt_or_ge i H'.length with hi | hi
    · simp only [List.getElem?_append_left hi] at hob
      exact (R3.objs i ob hob).sub R3.sane hi hp2 (by simp [objLoc, hi]) (fun j => by simp [objLoc, hi]) (objsInb_get hin i ob hob)
    · simp only [List.getElem?_append_right hi] at hob
      have hlen : H'.length = H.length := by
        rcases hr with rfl | hr
        · simp at hob
        · exact hr
      have hob' : σ.heap[i]? = some ob := by rw [hH, List.getElem?_append_right (by omega), ← hlen]; exact hob
      exact (R.h.objs i ob hob').pres R.h.sane (by rw [← R.h.nh]; exact (List.getElem?_eq_some_iff.1 hob').1) hp1 (by simp [objLoc]; omega) (fun j => by simp [objLoc]; omega)
  · rcases back_O h with ⟨hf, hO⟩ | ⟨_, ℓ', hO, _⟩
    · obtain ⟨h1, h2⟩ := R.h.disj b ℓ f hO
      refine ⟨Nat.lt_of_lt_of_le h1 hE.size, fun j hj => ?_⟩
      have hl : objLoc H.length ℓ = false := by simpa [Gh.foreign, hO] using hf
      cases hK : Gf.K ⟨b, j, none⟩ with
      | none => rfl
      | some x =>
        rcases hE.new ⟨b, j, none⟩ x hK with h3 | ⟨p, h3⟩ | h3
        · rw [show (G.handed H.length).K = G.K from rfl, h2 j hj] at h3; cases h3
        · obtain ⟨ℓ', f'⟩ := p
          obtain ⟨h4, h5⟩ := handed_O h3
          rw [hO] at h4; simp at h4; obtain ⟨rfl, _⟩ := h4
          rw [hl] at h5; cases h5
        · simp at h3; omega
    · exact R3.disj b ℓ' f hO
  · intro t
    cases d with
    | none => exact hslots t
    | some d =>
    obtain ⟨hlt, hb⟩ := hd d rfl
    have hd' : d < a.tmps.size := by rw [R.size]; exact hlt
    simp only [Act.put, getD_set _ _ _ _ hd', St.get, eget_eset]
    split
    · rename_i e; subst e
      by_cases hfree : r.free = true
      · exact ((hv.anywhere hfree .no).sub R3.sane (⟨KLe.refl _, fun b ℓ f hl hO => absurd (hl ▸ rfl) (R3.sane.no b ℓ f hO), hp2.β, hp2.nh⟩ : Sub G3 Gf w' w' (fun ℓ => ℓ = .no) H'.length) rfl hri hrl).anywhere hfree _
      · cases r <;> first | (simp [AV.free] at hfree; done) | (simp [AV.isLocal] at hrl; done) | skip
        · cases hv with | own _ k l v h ht =>
          refine .own _ _ _ _ h ?_
          intro a' n cap e hn
          obtain ⟨f, c, e', h1, h2, h3, h4⟩ := ht a' n cap e hn
          exact ⟨f, c, e', (hback _ _ _ h1).2 rfl, h2, h3, h4⟩
        · cases hv with | lim _ k l v h ht =>
          exact .lim _ _ _ _ h ht
        · cases hv with | tail _ k l v h ht =>
          refine .tail _ _ _ _ h ?_
          intro a' n cap e hn
          obtain ⟨f, c, e', h1, h2, h3, h4⟩ := ht a' n cap e hn
          exact ⟨f, c, e', (hback _ _ _ h1).2 rfl, h2, h3, h4⟩
    · exact hslots t
  · intro t r' off ht
    cases d with
    | none => exact R.places t r' off ht
    | some d =>
    obtain ⟨hlt, hb⟩ := hd d rfl
    simp only [St.get, eget_eset] at ht ⊢
    split at ht
    · subst ht; simp [AV.isLocal] at hrl
    · obtain ⟨cs, hcs⟩ := R.places t r' off ht
      refine ⟨cs, ?_⟩
      split
      · rename_i e; subst e; rw [hcs] at hb; simp [AV.isBox] at hb
      · exact hcs
  · have hdf : (a.put d v).defers = a.defers := by cases d <;> rfl
    rw [hdf]
    refine ⟨R.df.1, fun x hx => ?_⟩
    obtain ⟨r0, h1, h2, h3⟩ := R.df.2 x hx
    obtain ⟨h4, h5, _⟩ := hfor _ _ _ h2 rfl
    exact ⟨r0, h1, h4, h5.trans h3⟩
  · refine ⟨hE.K, fun x v hx => ?_, fun b hb hO => ?_, hE.size, fun i hi => hβ i (by omega), hE.io⟩
    · rcases hE.new x v hx with h | ⟨p, h⟩ | h
      · exact .inl h
      · obtain ⟨ℓ, f⟩ := p; exact .inr (.inl ⟨_, (handed_O h).1⟩)
      · exact .inr (.inr h)
    · have hc : (G.handed H.length).O b = none := handed_none fun ℓ f h => by rw [hO] at h; cases h
      obtain ⟨h1, h2⟩ := hE.others b hb hc
      refine ⟨h1, ?_⟩
      have : G.foreign H.length b = false := by simp [Gh.foreign, hO]
      simp [Gh.back, this, h2]
theorem Rel.back {G G3 : Gh} {σ : St} {a : Act} {w w' : World} (R : Rel G σ a w) {H rest H' : List Obj} (hH : σ.heap = H ++ rest) (hr : rest = [] ∨ H'.length = H.length) (hHH : H.length ≤ H'.length)
    (R3 : RelH G3 H' w') (hE : Ext H.length (G.handed H.length) w G3 w') (hin : objsInb H'.length H' = true) {d : Nat} {r : AV} {v : Value} (hv : RepV G3 w' .ret r v) (hrl : r.isLocal = false) (hri : r.inb H'.length = true)
    (hlt : d < σ.n) (hb : (σ.get d).isBox = false) :
    Rel (G.back G3 H.length H'.length d rest.length) { σ with env := eset σ.env d r, heap := H' ++ rest } (a.put (some d) v) w' ∧
      ∀ m, m ≤ G.nh → Ext m G w (G.back G3 H.length H'.length d rest.length) w' := by
  have := R.backO (d := some d) hH hr hHH R3 hE hin hv hrl hri (fun x e => by cases e; exact ⟨hlt, hb⟩)
  exact this
theorem callsIn_wd {r : Option Nat} {n : Nat} {P : Program} {f : FuncId} {args : Array Value} {w : World} {R : Ending → World → Prop} (h : CallsIn (Wd none) n P f args w R) : CallsIn (Wd r) n P f args w R := h
def callOf (T : Types) (σ : St) (o : Oper) : Option (FuncId × List AV) :=
  match o.op with
  | .call { callee := .value x, args, argTypes } =>
    match (match x with | .func f => some (f, [], []) | .tmp t => (match σ.get t with | .func f as bs => some (f, as, bs) | _ => none) | _ => none), ((args.toList.zip argTypes.toList).mapM fun p => opv T σ.get p.2 p.1) with
    | some (f, as, bs), some vs => if args.size = argTypes.size then some (f, as ++ vs.map AV.copy ++ bs) else none
    | _, _ => none
  | _ => none
theorem mapM_some {α β : Type} {f : α → Option β} : ∀ {xs : List α} {ys : List β}, xs.mapM f = some ys → ys.length = xs.length ∧ ∀ (i : Nat) (hi : i < xs.length) (hi' : i < ys.length), f xs[i] = some ys[i]
  | [], ys, h => by simp at h; subst h; exact ⟨rfl, fun i hi => by simp at hi⟩
  | x :: r, ys, h => by
    simp only [List.mapM_cons, Option.bind_eq_bind, Option.bind_eq_some_iff, Option.pure_def, Option.some.injEq] at h
    obtain ⟨v, hv, l', hl', rfl⟩ := h
    obtain ⟨e1, e2⟩ := mapM_some hl'
    refine ⟨by simp [e1], fun i hi hi' => ?_⟩
    cases i with
    | zero => exact hv
    | succ i => exact e2 i (by simpa using hi) (by simpa using hi')
theorem rep_append {G : Gh} {w : World} {A B : List AV} {va vb : Array Value} (ha : va.size = A.length) (hb : vb.size = B.length) (h1 : ∀ (i : Nat) (hi : i < A.length), RepV G w .no A[i] (va.getD i Go.undef))
    (h2 : ∀ (i : Nat) (hi : i < B.length), RepV G w .no B[i] (vb.getD i Go.undef)) : (va ++ vb).size = (A ++ B).length ∧ ∀ (i : Nat) (hi : i < (A ++ B).length), RepV G w .no (A ++ B)[i] ((va ++ vb).getD i Go.undef) := by
  refine ⟨by simp [ha, hb], fun i hi => ?_⟩
  simp at hi
  by_cases c : i < A.length
  · rw [List.getElem_append_left c]
    simpa [Array.getD_eq_getD_getElem?, Array.getElem?_append_left (show i < va.size by omega)] using h1 i c
  · rw [List.getElem_append_right (by omega)]
    have := h2 (i - A.length) (by omega)
    simpa [Array.getD_eq_getD_getElem?, Array.getElem?_append_right (show va.size ≤ i by omega), ha] using this
theorem less_get (σ : St) : Less σ.get σ := fun _ => .inl rfl
section
variable {P : Program} {T : Types} {m : Nat} {Q : Exit → St → Prop} {σ : St} {ops : Array Oper} {o : Oper} {l : List Oper}
theorem callOf_ok {f : FuncId} {args : List AV} (h : callOf T σ o = some (f, args)) (hc : callable P f = true) {G : Gh} {a : Act} {w : World} (R : Rel G σ a w) :
    (∀ c, o.op ≠ .defer c) ∧ ∃ vs : Array Value, (execOp a.eval o).run P w = .ok (.enter f vs) w ∧ vs.size = args.length ∧ ∀ (i : Nat) (hi : i < args.length), RepV G w .no args[i] (vs.getD i Go.undef) := by
  unfold callOf at h
  split at h
  · rename_i x xs ts hop
    refine ⟨by simp [hop], ?_⟩
    split at h
    · rename_i f' as bs vs hfn hvs
      split at h
      · rename_i hsz
        simp at h
        obtain ⟨rfl, rfl⟩ := h
        obtain ⟨e1, e2⟩ := mapM_some hvs
        
        have hfv : ∃ va vb : Array Value, a.eval x = .func (.func f') va vb ∧ va.size = as.length ∧ vb.size = bs.length ∧
            (∀ (i : Nat) (hi : i < as.length), RepV G w .no as[i] (va.getD i Go.undef)) ∧ ∀ (i : Nat) (hi : i < bs.length), RepV G w .no bs[i] (vb.getD i Go.undef) := by
          cases x with
          | func q =>
            simp at hfn
            obtain ⟨rfl, rfl, rfl⟩ := hfn
            exact ⟨#[], #[], rfl, rfl, rfl, fun i hi => by simp at hi, fun i hi => by simp at hi⟩
          | tmp t =>
            simp only at hfn
            split at hfn
            · rename_i f'' as' bs' hg
              simp at hfn
              obtain ⟨rfl, rfl, rfl⟩ := hfn
              have hrep := R.slots t
              rw [hg] at hrep
              show ∃ va vb : Array Value, a.tmps.getD t Go.undef = _ ∧ _
              generalize a.tmps.getD t Go.undef = v at hrep
              cases hrep with | func _ _ _ _ va vb ha hb h1 h2 _ _ => exact ⟨va, vb, rfl, ha, hb, h1, h2⟩
            · cases hfn
          | _ => simp at hfn
        obtain ⟨va, vb, hx, ha, hb, h1, h2⟩ := hfv
        have hcall : (callFunc f' (va ++ xs.map a.eval ++ vb)).run P w = .ok (.enter f' (va ++ xs.map a.eval ++ vb)) w := by
          unfold callable at hc
          unfold callFunc
          simp only [Sem.run_bind, run_program, Result.andThen_ok]
          split at hc
          · rename_i fn hfn'
            simp at hc
            rw [hfn']
            simp [hc.1, Option.isSome_iff_ne_none.1 hc.2]
          · cases hc
        have hlv : (xs.map a.eval).size = (vs.map AV.copy).length := by simp [e1]; omega
        have hmid : ∀ (i : Nat) (hi : i < (vs.map AV.copy).length), RepV G w .no (vs.map AV.copy)[i] ((xs.map a.eval).getD i Go.undef) := by
          intro i hi
          simp at hi
          have hz : i < (xs.toList.zip ts.toList).length := by omega
          have := (opv_ok (less_get σ) R (e2 i hz hi) .no).1.copy .no
          have hxs : i < xs.size := by simp at hz; omega
          simpa [Array.getD_eq_getD_getElem?, hxs] using this
        obtain ⟨k1, k2⟩ := rep_append ha hlv h1 hmid
        obtain ⟨k3, k4⟩ := rep_append k1 hb k2 h2
        have hrun : (execOp a.eval o).run P w = .ok (.enter f' (va ++ xs.map a.eval ++ vb)) w := by
          simp only [execOp, hop, Sem.run_bind, resolve, hx, Deferred.ofValue, Sem.run_pure, Result.andThen_ok, invoke]
          exact hcall
        refine ⟨va ++ xs.map a.eval ++ vb, hrun, ?_⟩
        rw [List.append_assoc] at k3 k4
        exact ⟨k3, k4⟩
      · cases h
    · cases h
  · cases h
theorem AOps.call {f : FuncId} {args : List AV} {H rest H' : List Obj} {r : AV} {d : Nat} (hw : wantA ops.toList σ o = some true) (hcall : callOf T σ o = some (f, args)) (hH : σ.heap = H ++ rest)
    (hr : rest = [] ∨ H'.length = H.length) (hin : objsInb H.length H = true) (hargs : inbL H.length args = true) (hd : o.dst = some d) (hlt : d < σ.n) (hb : (σ.get d).isBox = false)
    (hfr : args.all AV.free = true) (hc : ACall P f args H r H') (h : AOps P m ops l Q { σ with env := eset σ.env d r, heap := H' ++ rest }) : AOps P m ops (o :: l) Q σ := by
  intro rr n G a w Q' hm' R hQ
  unfold wpListIn
  rw [if_pos (wantA_ok hw R)]
  obtain ⟨hcb, hrl, hri, hin', hHH, hcc⟩ := hc
  obtain ⟨hnd, vs, hrun, hvs, hrep⟩ := callOf_ok hcall hcb R
  have RH : RelH G (H ++ rest) w := by rw [← hH]; exact R.h
  have hRh := RH.handed hin
  have hfr' : ∀ c ∈ args, c.free = true := by simpa using hfr
  have hsub : Sub G (G.handed H.length) w w (fun ℓ => ℓ = .no) H.length :=
    ⟨KLe.refl _, fun b ℓ f hl hO => absurd (hl ▸ rfl) (R.h.sane.no b ℓ f hO), fun _ _ => rfl, Nat.le_refl _⟩
  refine ⟨fun _ _ => trivial, ?_⟩
  rw [Oper.semAt_eq _ _ _ hnd, hrun]
  refine ⟨fun hh => by simp [Wd] at hh, ?_⟩
  refine CallsIn.mono (callsIn_wd (hcc (n - 1) (G.handed H.length) w vs hvs (fun i hi => ?_) hRh (fun b ℓ f hO => ?_))) ?_
  · exact (hrep i hi).sub R.h.sane hsub rfl (inbL_get hargs i hi) (AV.free_isLocal (hfr' _ (List.getElem_mem hi)))
  · have := (handed_O hO).2
    cases ℓ <;> simp [objLoc] at this
    · rename_i i; exact ⟨i, rfl⟩
    · rename_i i j; exact ⟨i, rfl⟩
  · rintro e w' ⟨v, G3, rfl, hv, R3, hE⟩
    obtain ⟨R', hext⟩ := R.back hH hr hHH R3 hE hin' hv hrl hri hlt hb
    show wpListIn _ _ _ _ _ _ (a.put o.dst v) w'
    rw [hd]
    refine h rr n _ _ w' Q' ?_ R' (fun e a' w'' hp => hQ e a' w'' (hp.ext (hext m hm')))
    have hnh : G.nh = H.length + rest.length := by rw [← R.h.nh, hH]; simp
    simp [Gh.back]; omega
end
def DfOnly (G : Gh) (w w' : World) : Prop := w'.heap.size = w.heap.size ∧ (∀ b, G.O b ≠ some (.df, 0) → w'.heap[b]? = w.heap[b]?) ∧ w'.os = w.os ∧ w'.output = w.output ∧ (∀ a, a.block < w.heap.size → w'.frozen? a = w.frozen? a) ∧ w'.tape = w.tape ∧ w.drawn ≤ w'.drawn
theorem leaves_marks {P : Program} {n : Nat} {fn : Func} {tmps : Array Value} {R : Ending → World → Prop} {G : Gh} : ∀ (ds : List Deferred) (w : World), RelF G ds w →
    (∀ w', DfOnly G w w' → ∃ v, (results fn tmps).run P w' = .ok v w' ∧ R (.returned v) w') → LeavesInM (Wd none) n P fn tmps R ds .returning w
  | [], w, _, h => by
    obtain ⟨v, h1, h2⟩ := h w ⟨rfl, fun _ _ => rfl, rfl, rfl, fun _ _ => rfl, rfl, Nat.le_refl _⟩
    exact ⟨v, h1, h2⟩
  | d :: ds, w, hF, h => by
    obtain ⟨hnd, hall⟩ := hF
    obtain ⟨r, rfl, hO, hw⟩ := hall d (by simp)
    have hlt : r < w.heap.size := (Array.getElem?_eq_some_iff.1 hw).1
    let w1 : World := { w with heap := w.heap.setIfInBounds r (.deferred none) }
    have hother : ∀ b, b ≠ r → w1.heap[b]? = w.heap[b]? := by
      intro b hb; show (w.heap.setIfInBounds r _)[b]? = _; rw [Array.getElem?_setIfInBounds_ne (Ne.symm hb)]
    have htake : (Instr.takeDeferred r).run P w = .ok [] w1 := by
      simp [Instr.takeDeferred, getObj, setObj, Sem.run, hw, w1]
    refine ⟨by simp, .inl ⟨r, w1, rfl, htake, ?_⟩⟩
    simp at hnd
    refine leaves_marks (G := G) ds w1 ⟨hnd.2, fun d hd => ?_⟩ ?_
    · obtain ⟨r', rfl, h1, h2⟩ := hall d (by simp [hd])
      refine ⟨r', rfl, h1, ?_⟩
      rw [hother r' ?_]; exact h2
      rintro rfl
      exact hnd.1 _ hd rfl
    · rintro w' ⟨hs, hb, hio1, hio2, hio3, hio4, hio5⟩
      refine h w' ⟨by rw [hs]; simp [w1], fun b hne => ?_, hio1, hio2, fun a ha => (hio3 a (by simpa [w1] using ha)).trans ?_, hio4, hio5⟩
      · rw [hb b hne, hother b ?_]
        rintro rfl; exact hne hO
      · by_cases hab : a.block = r
        · unfold World.frozen?
          rw [hab, hw, show w1.heap[r]? = some (.deferred none) by simp [w1, hlt]]
        · unfold World.frozen?
          rw [hother _ hab]
def resAct (tmps : Array Value) : ResultVar → Sem Value
  | .tmp t => pure (tmps.getD t Go.undef)
  | .cell a t => do loadVar t (← asAddr (tmps.getD a Go.undef))
theorem resOne_ok {P : Program} {T : Types} (hT : TOk P T) {G : Gh} {σ : St} {a : Act} {w : World} (R : Rel G σ a w) {own : Bool} {x : ResultVar} {av : AV} (h : resOne T σ own x = some av) :
    ∃ v, (resAct a.tmps x).run P w = .ok v w ∧ av.isLocal = false ∧ ((av.free = true ∧ ∀ ℓ, RepV G w ℓ av v) ∨ ∃ t k l, own = true ∧ av = .own k l ∧ RepV G w (.s t) (.own k l) v) := by
  cases x with
  | tmp t =>
    simp only [resOne] at h
    have hrep := R.slots t
    refine ⟨a.tmps.getD t Go.undef, by simp [resAct], ?_⟩
    have key : ∀ v, σ.get t = v → v.isLocal = false → (∀ k l, v ≠ .lim k l) → (∀ k l, v ≠ .tail k l) → some (if own then v else v.copy) = some av → av.isLocal = false ∧ ((av.free = true ∧ ∀ ℓ, RepV G w ℓ av (a.tmps.getD t Go.undef)) ∨ ∃ t' k l, own = true ∧ av = .own k l ∧ RepV G w (.s t') (.own k l) (a.tmps.getD t Go.undef)) := by
      intro v hv hl hnl hnt he
      rw [hv] at hrep
      simp at he; subst he
      cases own with
      | false => exact ⟨AV.copy_isLocal _, .inl ⟨AV.copy_free _, fun ℓ => hrep.copy ℓ⟩⟩
      | true =>
        refine ⟨hl, ?_⟩
        by_cases hf : v.free = true
        · exact .inl ⟨hf, fun ℓ => hrep.anywhere hf ℓ⟩
        · cases v <;> first | (simp [AV.free] at hf; done) | (simp [AV.isLocal] at hl; done) | (exact absurd rfl (hnl _ _)) | (exact absurd rfl (hnt _ _)) | skip
          exact .inr ⟨t, _, _, rfl, rfl, hrep⟩
    split at h
    · cases h
    · cases h
    · rename_i k l hgl
      cases h
      rw [hgl] at hrep
      exact ⟨rfl, .inl ⟨rfl, fun ℓ => hrep.copy ℓ⟩⟩
    · rename_i k l hgl
      cases h
      rw [hgl] at hrep
      exact ⟨rfl, .inl ⟨rfl, fun ℓ => hrep.copy ℓ⟩⟩
    · rename_i v h1 h2 h3 h4
      refine key _ rfl ?_ (fun k l e => h3 k l e) (fun k l e => h4 k l e) h
      generalize σ.get t = c at h1 h2
      cases c <;> first | rfl | (exact absurd rfl (h1 _)) | (exact absurd rfl (h2 _ _))
  | cell t ty =>
    simp only [resOne] at h
    split at h
    · rename_i cs td hcs htd
      obtain ⟨vs, e, hO, hw, hs, hh, hc, hat⟩ := box_rep R hcs
      obtain ⟨v, hv, hfree, hrep⟩ := load_run hT htd R (A := .slot t 0 cs) (b := G.β (.s t)) (off := 0) ⟨hcs, rfl⟩ h
      exact ⟨v, by simp [resAct, hat, asAddr, hv], AV.free_isLocal hfree, .inl ⟨hfree, hrep⟩⟩
    · rename_i i off td hcs htd
      split at h
      · rename_i cs hob
        have hsl := R.slots t
        rw [hcs] at hsl
        generalize hat : a.tmps.getD t Go.undef = v0 at hsl
        cases hsl with | ptr _ _ _ hi =>
        obtain ⟨v, hv, hfree, hrep⟩ := load_run hT htd R (A := .obj i off) (b := G.β (.o i)) (off := off) ⟨hi, rfl⟩ ⟨_, cs, hob, rfl, h⟩
        exact ⟨v, by simp [resAct, hat, asAddr, hv], AV.free_isLocal hfree, .inl ⟨hfree, hrep⟩⟩
      · rename_i k l hob
        split at h
        · rename_i hc
          obtain ⟨rfl, hagg, hlen, hone⟩ := hc
          cases h
          have hsl := R.slots t
          rw [hcs] at hsl
          generalize hat : a.tmps.getD t Go.undef = v0 at hsl
          cases hsl with | ptr _ _ _ hi =>
          have hfl : D.flat l = l := flat_one (List.all_eq_true.1 hone)
          have hrd : readAt td ((D.flat l).map .d) 0 = some (.d (.agg l)) := by
            have hdo : ∀ m : List D, dataOf (m.map .d) = some m := by
              intro m
              induction m with
              | nil => rfl
              | cons x r ih => simp [dataOf, ih]
            unfold readAt cut
            rw [hfl, if_pos (by simp [hlen])]
            simp only [hagg, if_true]
            rw [show (l.map AV.d).drop 0 = l.map AV.d from rfl, List.take_of_length_le (by simp [hlen])]
            unfold mkAgg
            rw [hdo]
          obtain ⟨v, hv, hfree, hrep⟩ := load_run hT htd R (A := .obj i 0) (b := G.β (.o i)) (off := 0) ⟨hi, rfl⟩ ⟨_, _, hob, rfl, hrd⟩
          exact ⟨v, by simp [resAct, hat, asAddr, hv], AV.free_isLocal hfree, .inl ⟨hfree, hrep⟩⟩
        · cases h
      · cases h
    · cases h
theorem results_eq (fn : Func) (tmps : Array Value) : results fn tmps = (do
    let vs ← fn.results.mapM (resAct tmps)
    pure (if h : vs.size = 1 then vs[0] else .tuple vs)) := by
  unfold results resAct
  rfl
theorem resL_ok {P : Program} {T : Types} (hT : TOk P T) {G : Gh} {σ : St} {a : Act} {w : World} (R : Rel G σ a w) : ∀ (l : List ResultVar) (avs : List AV), l.mapM (resOne T σ false) = some avs →
    ∃ vs : List Value, (l.mapM (resAct a.tmps)).run P w = .ok vs w ∧ vs.length = l.length ∧ avs.length = l.length ∧ (∀ c ∈ avs, c.isLocal = false) ∧ ∀ (i : Nat) (hi : i < avs.length), RepV G w .no avs[i] (vs.getD i Go.undef)
  | [], avs, h => by simp at h; subst h; exact ⟨[], by simp, rfl, rfl, fun c hc => by simp at hc, fun i hi => by simp at hi⟩
  | x :: r, avs, h => by
    simp only [List.mapM_cons, Option.bind_eq_bind, Option.bind_eq_some_iff, Option.pure_def, Option.some.injEq] at h
    obtain ⟨av, hav, l', hl', rfl⟩ := h
    obtain ⟨vs, h1, h2, h3, h4, h5⟩ := resL_ok hT R r l' hl'
    obtain ⟨v, e1, e2, e3⟩ := resOne_ok hT R hav
    refine ⟨v :: vs, by simp [List.mapM_cons, e1, h1], by simp [h2], by simp [h3], ?_, fun i hi => ?_⟩
    · intro c hc
      rcases List.mem_cons.1 hc with rfl | hc
      · exact e2
      · exact h4 c hc
    · cases i with
      | zero =>
        rcases e3 with ⟨_, e3⟩ | ⟨_, _, _, e, _⟩
        · simpa using e3 .no
        · cases e
      | succ i => simpa using h5 i (by simpa using hi)
theorem ACall.leaveP {P : Program} {T : Types} (hT : TOk P T) {fn : Func} {H H' : List Obj} {r : AV} (hrl : r.isLocal = false) (hri : r.inb H'.length = true) (hin : objsInb H'.length H' = true)
    {n : Nat} {G : Gh} {w : World} {e : Exit} {a' : Act} {w' : World} (hp : Post H.length G w (FnPost T fn H.length r H') e a' w') :
    (e = .normal ∨ e = .ret) ∧ LeavesInM (Wd none) n P fn a'.tmps (fun e w' => ∃ v G', e = .returned v ∧ RepV G' w' .ret r v ∧ RelH G' H' w' ∧ Ext H.length G w G' w') a'.defers .returning w' := by
  obtain ⟨σ', G', R', hE, hm, hq⟩ := hp
  
  have fin : ∀ (hq : resAV T σ' fn.results.toList = some r ∧ r.inb H'.length = true ∧ objsInb H'.length H' = true ∧ H.length ≤ H'.length ∧ ∃ junk, σ'.heap = H' ++ junk),
      LeavesInM (Wd none) n P fn a'.tmps (fun e w' => ∃ v G', e = .returned v ∧ RepV G' w' .ret r v ∧ RelH G' H' w' ∧ Ext H.length G w G' w') a'.defers .returning w' := by
    rintro ⟨hres, _, _, _, junk, hjunk⟩
    refine leaves_marks (G := G') _ _ R'.df ?_
    rintro wf ⟨hfs, hfb, hfio⟩
    have hpr : Pres G' G' w' wf (fun ℓ => ℓ ≠ .df) := ⟨KLe.refl _, fun b ℓ f hℓ hO => ⟨hO, hfb b (fun hf' => by rw [hO] at hf'; simp at hf'; exact hℓ hf'.1)⟩, fun _ _ => rfl, Nat.le_refl _⟩
    have hkept : ∀ x v, G'.K x = some v → wf.cell? x = some v := by
      intro x v hx
      have hc := R'.h.kept x v hx
      have hne : G'.O x.block ≠ some (.df, 0) := by
        intro hO
        have hsp : x.spot = none := by
          unfold World.cell? at hc
          split at hc
          · split at hc
            · cases hc
            · rename_i hsp; simpa using hsp
          · cases hc
        have := (R'.h.disj _ _ _ hO).2 x.off (Nat.zero_le _)
        obtain ⟨xb, xo, xs⟩ := x
        simp at hsp; subst hsp
        rw [this] at hx; cases hx
      unfold World.cell? at *
      rwa [hfb _ hne]
    have R2 : Rel G' σ' { tmps := a'.tmps, defers := [] } wf := by
      refine ⟨⟨R'.h.sane, R'.h.nh, fun i ob hob => (R'.h.objs i ob hob).pres R'.h.sane (by rw [← R'.h.nh]; exact (List.getElem?_eq_some_iff.1 hob).1) hpr (by simp) (by simp), hkept, fun b ℓ f hO => by rw [hfs]; exact R'.h.disj b ℓ f hO⟩, R'.size,
        fun t => (R'.slots t).pres R'.h.sane hpr (by simp) (fun _ _ _ => rfl) (fun _ _ _ => ⟨rfl, by simp⟩), R'.places, ⟨by simp, fun d hd => by simp at hd⟩⟩
    have hE2 : Ext H.length G w G' wf := by
      refine ⟨hE.K, hE.new, fun b hb hO' => ?_, by rw [hfs]; exact hE.size, hE.β, hfio.1.trans hE.io.1, hfio.2.1.trans hE.io.2.1, fun a ha => (hfio.2.2.1 a (Nat.lt_of_lt_of_le ha hE.size)).trans (hE.io.2.2.1 a ha), hfio.2.2.2.1.trans hE.io.2.2.2.1, Nat.le_trans hE.io.2.2.2.2 hfio.2.2.2.2⟩
      obtain ⟨h1, h2⟩ := hE.others b hb hO'
      exact ⟨(hfb b (fun hf => by rw [h2] at hf; cases hf)).trans h1, h2⟩
    
    have cutG : ∀ (G2 : Gh), RelH G2 σ'.heap wf → H'.length ≤ G2.nh → Ext H.length G w G2 wf → RelH { G2 with nh := H'.length } H' wf ∧ Ext H.length G w { G2 with nh := H'.length } wf ∧
        ∀ ℓ v, RepV G2 wf ℓ r v → RepV { G2 with nh := H'.length } wf ℓ r v := by
      intro G2 RH2 hle hEE
      have hsub : Sub G2 { G2 with nh := H'.length } wf wf (fun _ => True) H'.length := ⟨KLe.refl _, fun b ℓ f _ hO => ⟨hO, rfl⟩, fun _ _ => rfl, Nat.le_refl _⟩
      refine ⟨⟨⟨RH2.sane.no⟩, rfl, fun i ob hob => ?_, RH2.kept, RH2.disj⟩, ⟨hEE.K, hEE.new, hEE.others, hEE.size, hEE.β, hEE.io⟩, fun ℓ v hv => hv.sub RH2.sane hsub trivial hri hrl⟩
      have hi : i < H'.length := (List.getElem?_eq_some_iff.1 hob).1
      exact (RH2.objs i ob (by rw [hjunk, List.getElem?_append_left hi]; exact hob)).sub RH2.sane hi hsub trivial (fun _ => trivial) (objsInb_get hin i ob hob)
    have hle : H'.length ≤ G'.nh := by rw [← R'.h.nh, hjunk]; simp
    rw [results_eq]
    simp only [resAV] at hres
    split at hres
    · rename_i x hx
      obtain ⟨v, h1, h2, h3⟩ := resOne_ok hT R2 hres
      have hrun : (do let vs ← fn.results.mapM (resAct a'.tmps); pure (if h : vs.size = 1 then vs[0] else Value.tuple vs) : Sem Value).run P wf = .ok v wf := by
        have : fn.results = #[x] := by cases hfr2 : fn.results; simp_all
        rw [this]
        simp [h1]
      rcases h3 with ⟨hfree, h3⟩ | ⟨t, k, l, _, rfl, h3⟩
      · obtain ⟨k1, k2, k3⟩ := cutG G' R2.h hle hE2
        exact ⟨v, hrun, v, _, rfl, k3 _ _ (h3 .ret), k1, k2⟩
      · cases h3 with | own _ _ _ _ hr ht =>
        have hmv := G'.move_pres wf (.s t) .ret
        have RHm : RelH (G'.move (.s t) .ret) σ'.heap wf := R2.h.move _ _ (by simp [Loc.root]) (fun i ob hob => (R2.h.objs i ob hob).pres R2.h.sane (by rw [← R2.h.nh]; exact (List.getElem?_eq_some_iff.1 hob).1) hmv (by simp) (by simp))
        obtain ⟨k1, k2, k3⟩ := cutG (G'.move (.s t) .ret) RHm hle (hE2.trans (Ext.move _ _ _ _ _))
        exact ⟨v, hrun, v, _, rfl, k3 _ _ (.own _ _ _ _ hr ht.move), k1, k2⟩
    · rename_i l hl
      simp at hres
      obtain ⟨avs, hav, rfl⟩ := hres
      obtain ⟨vs, h1, h2, h3, h4, h5⟩ := resL_ok hT R2 _ _ hav
      obtain ⟨k1, k2, k3⟩ := cutG G' R2.h hle hE2
      have hrun : (do let vs ← fn.results.mapM (resAct a'.tmps); pure (if h : vs.size = 1 then vs[0] else Value.tuple vs) : Sem Value).run P wf = .ok (.tuple vs.toArray) wf := by
        have hne : vs.length ≠ 1 := by
          intro h; rw [h2] at h
          obtain ⟨x, hx⟩ := List.length_eq_one_iff.1 h
          exact hl x hx
        simp [Array.mapM_eq_mapM_toList, h1, hne]
      exact ⟨.tuple vs.toArray, hrun, _, _, rfl, k3 _ _ (.tuple _ _ _ (by simp [h2, h3]) (fun i hi => by simpa [List.getD, Array.getD_eq_getD_getElem?] using h5 i hi) h4), k1, k2⟩
  cases e with
  | normal => exact ⟨.inl rfl, fin hq⟩
  | ret => exact ⟨.inr rfl, fin hq⟩
  | _ => exact hq.elim
theorem ACall.enterW {P : Program} {T : Types} (hT : TOk P T) {f : FuncId} {fn : Func} {c : Code} {args : List AV} {H H' : List Obj} {r : AV} (hf : P.funcs[f]? = some fn) (hb : fn.body = some c) (hname : fn.name ≠ "runtime.NumGoroutine")
    (hn : args.length ≤ fn.ntmps) (hfr : args.all AV.free = true) (hrl : r.isLocal = false) (hri : r.inb H'.length = true) (hin : objsInb H'.length H' = true) (hHH : H.length ≤ H'.length)
    (n : Nat) (G : Gh) (w : World) (h : ∀ a, Rel G { env := envOf 0 args, heap := H, n := fn.ntmps } a w → c.wpIn (Wd none) n P (Post H.length G w (FnPost T fn H.length r H')) a w)
    (vs : Array Value) (hvs : vs.size = args.length) (hrep : ∀ (i : Nat) (hi : i < args.length), RepV G w .no args[i] (vs.getD i Go.undef)) (RH : RelH G H w) :
    CallsIn (Wd none) n P f vs w (fun e w' => ∃ v G', e = .returned v ∧ RepV G' w' .ret r v ∧ RelH G' H' w' ∧ Ext H.length G w G' w') := by
  have hfr' : ∀ c ∈ args, c.free = true := by simpa using hfr
  refine callsIn_of_wp_marks hf hb trivial ?_ rfl
  have hsz : (vs ++ Array.replicate (fn.ntmps - vs.size) Go.undef).size = fn.ntmps := by simp; omega
  have R : Rel G { env := envOf 0 args, heap := H, n := fn.ntmps } { tmps := vs ++ Array.replicate (fn.ntmps - vs.size) Go.undef, defers := [] } w := by
    refine ⟨RH, hsz, fun t => ?_, fun t r off ht => ?_, ⟨by simp, fun d hd => by simp at hd⟩⟩
    · simp only [St.get, eget_envOf]
      split
      · rename_i ht
        simp at ht
        have := (hrep t (by omega)).anywhere (hfr' _ (List.getElem_mem (by omega))) (.s t)
        simpa [List.getD, show t < args.length by omega, Array.getD_eq_getD_getElem?, Array.getElem?_append_left (show t < vs.size by omega)] using this
      · exact .undef _ _
    · simp only [St.get, eget_envOf] at ht
      split at ht
      · rename_i hlt
        simp at hlt
        have : args[t]'(by omega) ∈ args := List.getElem_mem _
        have h2 := hfr' _ this
        simp [List.getD, show t < args.length by omega] at ht
        rw [ht] at h2; simp [AV.free] at h2
      · cases ht
  refine wpIn_mono (h _ R) ?_
  intro e a' w' hp
  obtain ⟨he, hl⟩ := ACall.leaveP (n := n) hT hrl hri hin hp
  rcases he with rfl | rfl
  · exact hl
  · exact hl
theorem ACall.enterT {P : Program} {T : Types} (hT : TOk P T) {f : FuncId} {fn : Func} {c : Code} {args : List AV} {H H' : List Obj} {r : AV} (hf : P.funcs[f]? = some fn) (hb : fn.body = some c) (hname : fn.name ≠ "runtime.NumGoroutine")
    (hn : args.length ≤ fn.ntmps) (hfr : args.all AV.free = true) (hrl : r.isLocal = false) (hri : r.inb H'.length = true) (hin : objsInb H'.length H' = true) (hHH : H.length ≤ H'.length)
    (h : AWpT P H.length c (FnPost T fn H.length r H') { env := envOf 0 args, heap := H, n := fn.ntmps }) : ACall P f args H r H' :=
  ⟨by simp [callable, hf, hb, hname], hrl, hri, hin, hHH, fun n G w vs hvs hrep RH _ =>
    ACall.enterW hT hf hb hname hn hfr hrl hri hin hHH n G w (fun a R => h n G a w (by rw [RH.nh]; exact Nat.le_refl _) R) vs hvs hrep RH⟩
theorem ACall.enter {P : Program} {T : Types} (hT : TOk P T) {f : FuncId} {fn : Func} {c : Code} {args : List AV} {H H' : List Obj} {r : AV} (hf : P.funcs[f]? = some fn) (hb : fn.body = some c) (hname : fn.name ≠ "runtime.NumGoroutine")
    (hn : args.length ≤ fn.ntmps) (hfr : args.all AV.free = true) (hrl : r.isLocal = false) (hri : r.inb H'.length = true) (hin : objsInb H'.length H' = true) (hHH : H.length ≤ H'.length)
    (h : AWp P H.length c (FnPost T fn H.length r H') { env := envOf 0 args, heap := H, n := fn.ntmps }) : ACall P f args H r H' :=
  ACall.enterT hT hf hb hname hn hfr hrl hri hin hHH (AWpT.of h)
end Go.Am

set_option linter.unusedSimpArgs false
set_option linter.unusedSectionVars false
namespace Go.Am
open Go
def callY (T : Types) (σ : St) (o : Oper) : Option (Nat × List AV) :=
  match o.op with
  | .call { callee := .value (.tmp t), args, argTypes } =>
    match σ.get t, ((args.toList.zip argTypes.toList).mapM fun p => opv T σ.get p.2 p.1) with
    | .yield l, some vs => if args.size = argTypes.size then some (l, vs.map AV.copy) else none
    | _, _ => none
  | _ => none
inductive Out where
  | done (σ : St)
  | yield (l : Nat) (args : List AV) (o : Oper) (rest : List Oper) (σ : St)
  | call (f : FuncId) (args : List AV) (o : Oper) (rest : List Oper) (σ : St)
  | stuck
def runP (A : Ar) (T : Types) (an : Ann) (all : List Oper) : List Oper → St → Out
  | [], σ => .done σ
  | o :: os, σ =>
    match wantA all σ o with
    | some true =>
      match callOf T σ o with
      | some (f, args) => .call f args o os σ
      | none =>
        match callY T σ o with
        | some (l, args) => .yield l args o os σ
        | none =>
          match evCore A T an σ.n σ.get σ.heap o with
          | some (ss, h) => runP A T an all os (σ.upd ss h)
          | none => .stuck
    | some false =>
      match o.dst with
      | some d => if decide (d < σ.n) && !(σ.get d).isBox then runP A T an all os (σ.upd [(d, .tuple [])] none) else .stuck
      | none => runP A T an all os σ
    | none => .stuck
theorem upd_len {A : Ar} {T : Types} {an : Ann} {σ : St} {o : Oper} {ss : Sets} {h : Option (List Obj)} (he : evCore A T an σ.n σ.get σ.heap o = some (ss, h)) : σ.heap.length ≤ (σ.upd ss h).heap.length := by
  cases h with
  | none => exact Nat.le_refl _
  | some H' => exact evCore_len he
section
variable {P : Program} {T : Types} {m : Nat} {Q : Exit → St → Prop} {ops : Array Oper} {an : Ann}
def Resume (P : Program) (m : Nat) (ops : Array Oper) (T : Types) (Q : Exit → St → Prop) : Out → Prop
  | .done σ => Q .normal σ
  | .call f args o rest σ => callOf T σ o = some (f, args) → wantA ops.toList σ o = some true → AOps P m ops (o :: rest) Q σ
  | .yield l args o rest σ => callY T σ o = some (l, args) → wantA ops.toList σ o = some true → AOps P m ops (o :: rest) Q σ
  | .stuck => False
theorem AOps.run (hT : TOk P T) : ∀ (l : List Oper) (σ : St), m ≤ σ.heap.length → Resume P m ops T (fun e σ' => m ≤ σ'.heap.length → Q e σ') (runP Ar.std T an ops.toList l σ) → AOps P m ops l Q σ
  | [], σ, hm, h => AOps.nil (h hm)
  | o :: os, σ, hm, h => by
    unfold runP at h
    cases hw : wantA ops.toList σ o with
    | none => simp [hw, Resume] at h
    | some b =>
      cases b with
      | true =>
        simp only [hw] at h
        cases hc : callOf T σ o with
        | some p =>
          obtain ⟨f, args⟩ := p
          simp only [hc] at h
          have := h hc hw
          intro r n G a w Q' hm' R hQ
          exact this r n G a w Q' hm' R (fun e a' w' hp => by
            obtain ⟨σ', G', R', hE, hm'', hq⟩ := hp
            exact hQ e a' w' ⟨σ', G', R', hE, hm'', hq (by rw [R'.h.nh]; exact hm'')⟩)
        | none =>
          simp only [hc] at h
          cases hy : callY T σ o with
          | some p =>
            obtain ⟨l, args⟩ := p
            simp only [hy] at h
            have := h hy hw
            intro r n G a w Q' hm' R hQ
            exact this r n G a w Q' hm' R (fun e a' w' hp => by
              obtain ⟨σ', G', R', hE, hm'', hq⟩ := hp
              exact hQ e a' w' ⟨σ', G', R', hE, hm'', hq (by rw [R'.h.nh]; exact hm'')⟩)
          | none =>
          simp only [hy] at h
          cases he : evCore Ar.std T an σ.n σ.get σ.heap o with
          | none => simp [he, Resume] at h
          | some q =>
            obtain ⟨ss, h'⟩ := q
            simp only [he] at h
            have hlen := upd_len he
            exact AOps.step hw (evCore_ok hT (less_get σ) (fun _ _ => rfl) (fun _ _ h => h) (fun _ => rfl) he) (by omega) (AOps.run hT os _ (by omega) h)
      | false =>
        simp only [hw] at h
        cases hd : o.dst with
        | none => simp only [hd] at h; exact AOps.skip0 hw hd (AOps.run hT os σ hm h)
        | some d =>
          simp only [hd] at h
          split at h
          · rename_i hc
            simp at hc
            exact AOps.skip hw hd hc.1 hc.2 (AOps.run hT os _ hm h)
          · exact h.elim
theorem AOps.done (hT : TOk P T) {l : List Oper} {σ σ' : St} (h : ∀ A : Ar, A = Ar.std → runP A T an ops.toList l σ = .done σ') (hm : m ≤ σ.heap.length) (hq : Q .normal σ') : AOps P m ops l Q σ :=
  AOps.run (an := an) hT l σ hm (by rw [h _ rfl]; exact fun _ => hq)
end
def AV.noPlace : AV → AV
  | .place .. => .undef
  | v => v
def keepE (e : List (Nat × AV)) : List Nat → List (Nat × AV)
  | [] => []
  | t :: r => (t, (eget e t).noPlace) :: keepE e r
def St.keep (σ : St) (ts : List Nat) : St := { σ with env := keepE σ.env ts }
theorem eget_keepE (e : List (Nat × AV)) : ∀ (ts : List Nat) (t : Nat), eget (keepE e ts) t = (eget e t).noPlace ∨ eget (keepE e ts) t = .undef
  | [], t => .inr rfl
  | s :: r, t => by
    simp only [keepE, eget]
    split
    · rename_i h; subst h; exact .inl rfl
    · exact eget_keepE e r t
theorem Rel.keep {G : Gh} {σ : St} {a : Act} {w : World} (R : Rel G σ a w) (ts : List Nat) : Rel G (σ.keep ts) a w := by
  refine ⟨R.h, R.size, fun t => ?_, fun t r off ht => ?_, R.df⟩
  · rcases eget_keepE σ.env ts t with h | h
    · simp only [St.keep, St.get, h]
      have := R.slots t
      simp only [St.get] at this
      generalize eget σ.env t = c at this
      cases c <;> first | exact this | exact .undef _ _
    · simp only [St.keep, St.get, h]; exact .undef _ _
  · simp only [St.keep, St.get] at ht
    rcases eget_keepE σ.env ts t with h | h
    · rw [h] at ht
      generalize eget σ.env t = c at ht
      cases c <;> simp [AV.noPlace] at ht
    · rw [h] at ht; cases ht
section
variable {P : Program} {T : Types} {m : Nat} {Q : Exit → St → Prop} {σ : St}
theorem AWp.keep (ts : List Nat) {c : Code} (h : AWp P m c Q (σ.keep ts)) : AWp P m c Q σ := fun r n G a w hm R => h r n G a w hm (R.keep ts)
def St.drop (σ : St) (k : Nat) : St := { σ with heap := σ.heap.take k }
end
end Go.Am
