/- Own text: AmPure, AmOps. -/
import Derived.Test.YtalfdjihejohoaaAmRep
/- Types as the program has them; operands; operations that leave memory as it is. -/
namespace Go.Am
open Go

/-- A zero cell. -/
def zeroCell : AV → Value → Bool
  | .d (.int k n), .int k' n' => decide (k = k' ∧ n = n')
  | .d (.bool b), .bool b' => b == b'
  | .d (.str s), .string s' => decide (s.data = s'.data)
  | .d .nilIface, .nilIface => true
  | .own _ [], .slice none 0 0 => true
  | .nilptr, .pointer none => true
  | .nilmap, .map none => true
  | .nilfunc, .nilFunc => true
  | _, _ => false

theorem zeroCell_ok {c : AV} {v : Value} (h : zeroCell c v = true) : (∀ G w ℓ, RepV G w ℓ c v) ∧ c.isCell = true ∧ v.oneCell' = true := by
  unfold zeroCell at h
  split at h <;> simp at h
  case h_1 => obtain ⟨rfl, rfl⟩ := h; exact ⟨fun G w ℓ => .d _ _ _ (.int _ _), rfl, rfl⟩
  case h_2 => subst h; exact ⟨fun G w ℓ => .d _ _ _ (.bool _), rfl, rfl⟩
  case h_3 s s' => obtain rfl : s = s' := by cases s; cases s'; simp_all
                   exact ⟨fun G w ℓ => .d _ _ _ (.str _), rfl, rfl⟩
  case h_4 => exact ⟨fun G w ℓ => .d _ _ _ .nilIface, rfl, rfl⟩
  case h_5 => exact ⟨fun G w ℓ => .own _ _ _ _ (.nil _) (fun a n cap e => by cases e), rfl, rfl⟩
  case h_6 => exact ⟨fun G w ℓ => .nilptr _, rfl, rfl⟩
  case h_7 => exact ⟨fun G w ℓ => .nilmap _, rfl, rfl⟩
  case h_8 => exact ⟨fun G w ℓ => .nilfunc _, rfl, rfl⟩

def uOk : TU → TypeDesc → Bool
  | .slice e, .slice e' => e == e'
  | .array n e, .array n' e' => n == n' && e == e'
  | .struct fs, .struct fields => fields.toList.map (fun f => (f.type, f.offset)) == fs
  | .map k e, .map k' e' => k == k' && e == e'
  | .int k, .int k' => decide (k = k')
  | .bool, .bool => true
  | .string, .string => true
  | .other, d => !(d matches .struct _ | .array _ _)
  | _, _ => false

def zKind (agg : Bool) : Value → Bool
  | .agg _ => agg
  | .tuple _ => false
  | _ => !agg
/-- Values of structs are compared field by field. -/
def eqKnown (P : Program) (t : TypeId) (d : TypeDesc) : Bool :=
  decide (8 ≤ P.depth) &&
  match d with
  | .struct fields => !P.stoodInHeld t && fields.all fun f => f.name != "_"
  | _ => true
def tdOk (P : Program) (t : TypeId) (td : TD) : Bool :=
  match P.info? t, P.underlying t with
  | some i, some d =>
    (i.size == td.size && decide (i.bytes ≤ 4096) && uOk td.u d && eqKnown P t d) &&
    (match i.zero with
     | some z => z.cells.size == td.size && td.zero.length == td.size && ((td.zero.zip z.cells.toList).all fun p => zeroCell p.1 p.2) && zKind td.isAgg z
     | none => false)
  | _, _ => false

structure TOk (P : Program) (T : Types) : Prop where
  ok : ∀ t td, T t = some td → tdOk P t td = true

def tlook : List (TypeId × TD) → Types
  | [], _ => none
  | (s, d) :: r, t => if s = t then some d else tlook r t
theorem TOk.of_list {P : Program} {l : List (TypeId × TD)} (h : l.all (fun p => tdOk P p.1 p.2) = true) : TOk P (tlook l) := by
  refine ⟨?_⟩
  induction l with
  | nil => intro t td h; simp [tlook] at h
  | cons p r ih =>
    intro t td ht
    simp only [List.all_cons, Bool.and_eq_true] at h
    obtain ⟨s, d⟩ := p
    simp only [tlook] at ht
    split at ht
    · cases ht; rename_i hs; subst hs; exact h.1
    · exact ih h.2 t td ht

section
variable {P : Program} {T : Types} (hT : TOk P T)
include hT

theorem TOk.info {t : TypeId} {td : TD} (h : T t = some td) :
    ∃ i d, P.info? t = some i ∧ P.underlying t = some d ∧ i.size = td.size ∧ i.bytes ≤ 4096 ∧ uOk td.u d = true ∧
      ∃ z, i.zero = some z ∧ z.cells.size = td.size ∧ td.zero.length = td.size ∧ ∀ (j : Nat) (hj : j < td.zero.length), zeroCell td.zero[j] (z.cells.getD j Go.undef) = true := by
  have h := hT.ok t td h
  unfold tdOk at h
  split at h
  · rename_i i d hi hd
    split at h
    · rename_i z hz
      simp only [Bool.and_eq_true, beq_iff_eq, decide_eq_true_eq, List.all_eq_true] at h
      obtain ⟨⟨⟨⟨h1, h2⟩, h3⟩, _⟩, ⟨⟨h4, h5⟩, h6⟩, _⟩ := h
      refine ⟨i, d, hi, hd, h1, h2, h3, z, hz, h4, h5, fun j hj => ?_⟩
      have hj' : j < z.cells.size := by omega
      have := h6 (td.zero[j], z.cells[j]) (by
        refine List.mem_iff_getElem.2 ⟨j, by simp; omega, ?_⟩
        simp)
      simpa [Array.getD, hj'] using this
    · simp at h
  · simp at h

theorem TOk.zeroKind {t : TypeId} {td : TD} (h : T t = some td) {i : TypeInfo} (hi : P.info? t = some i) {z : Value} (hz : i.zero = some z) : zKind td.isAgg z = true := by
  have h := hT.ok t td h
  unfold tdOk at h
  split at h
  · rename_i i' d hi' hd
    rw [hi] at hi'; cases hi'
    rw [hz] at h
    simp only [Bool.and_eq_true] at h
    exact h.2.2
  · simp at h
theorem TOk.eqKnown {t : TypeId} {td : TD} (h : T t = some td) : ∃ d, P.underlying t = some d ∧ Am.eqKnown P t d = true := by
  have h := hT.ok t td h
  unfold tdOk at h
  split at h
  · rename_i i d hi hd
    simp only [Bool.and_eq_true] at h
    exact ⟨d, hd, h.1.2⟩
  · simp at h
theorem TOk.size {t : TypeId} {td : TD} (h : T t = some td) (w : World) : (sizeOf t).run P w = .ok td.size w := by
  obtain ⟨i, d, hi, _, hs, _⟩ := hT.info h
  simp [sizeOf, typeInfo, hi, hs]
theorem TOk.under {t : TypeId} {td : TD} (h : T t = some td) : ∃ d, P.underlying t = some d ∧ uOk td.u d = true := by
  obtain ⟨i, d, _, hd, _, _, hu, _⟩ := hT.info h
  exact ⟨d, hd, hu⟩
theorem TOk.slice {t e : TypeId} {sz : Nat} {z : List AV} (h : T t = some ⟨sz, .slice e, z⟩) : P.underlying t = some (.slice e) := by
  obtain ⟨d, hd, hu⟩ := hT.under h
  cases d <;> simp [uOk] at hu
  subst hu; exact hd
theorem TOk.array {t e : TypeId} {n sz : Nat} {z : List AV} (h : T t = some ⟨sz, .array n e, z⟩) : P.underlying t = some (.array n e) := by
  obtain ⟨d, hd, hu⟩ := hT.under h
  cases d <;> simp [uOk] at hu
  obtain ⟨rfl, rfl⟩ := hu; exact hd
theorem TOk.int {t : TypeId} {sz : Nat} {k : IntKind} {z : List AV} (h : T t = some ⟨sz, .int k, z⟩) : P.underlying t = some (.int k) := by
  obtain ⟨d, hd, hu⟩ := hT.under h
  cases d <;> simp [uOk] at hu
  subst hu; exact hd
theorem TOk.struct {t : TypeId} {sz : Nat} {fs : List (TypeId × Nat)} {z : List AV} (h : T t = some ⟨sz, .struct fs, z⟩) :
    ∃ fields, P.underlying t = some (.struct fields) ∧ fields.toList.map (fun f => (f.type, f.offset)) = fs := by
  obtain ⟨d, hd, hu⟩ := hT.under h
  cases d <;> simp [uOk] at hu
  exact ⟨_, hd, hu⟩
theorem TOk.isAgg {t : TypeId} {td : TD} (h : T t = some td) (w : World) : (isAgg t).run P w = .ok td.isAgg w := by
  obtain ⟨d, hd, hu⟩ := hT.under h
  unfold Go.isAgg Go.underlying
  simp only [Sem.run_bind, run_program, Result.andThen_ok, hd, Sem.run_pure]
  obtain ⟨sz, u, z⟩ := td
  cases u <;> cases d <;> simp [uOk] at hu <;> simp [TD.isAgg]
end

/-! ### Values -/
theorem RepD.oneCell {K : Addr → Option Value} {x : D} {v : Value} (h : RepD K x v) (hx : ∀ l, x ≠ .agg l) : v.oneCell' = true := by
  cases h <;> first | rfl | (exact absurd rfl (hx _))
theorem RepV.oneCell {G : Gh} {w : World} {ℓ : Loc} {c : AV} {v : Value} (h : RepV G w ℓ c v) (hc : c.isCell = true) : v.oneCell' = true := by
  cases h <;> first | rfl | (simp [AV.isCell] at hc; done) | skip
  case d x h => exact h.oneCell (by rintro l rfl; simp [AV.isCell] at hc)
  case own k l h ht => exact h.oneCell (by rintro l h; cases h)
  case lim k l h ht => exact h.oneCell (by rintro l h; cases h)
theorem AV.copy_isLocal (c : AV) : c.copy.isLocal = false := by cases c <;> rfl
theorem AV.copy_isCell {c : AV} (h : c.isCell = true) : c.copy.isCell = true := by cases c <;> first | exact h | rfl | (simp [AV.isCell] at h)
theorem RepV.copy {G : Gh} {w : World} {ℓ : Loc} {c : AV} {v : Value} (h : RepV G w ℓ c v) (ℓ' : Loc) : RepV G w ℓ' c.copy v := by
  cases h with
  | undef => exact .undef _ _
  | abool _ b => exact .abool _ b
  | d _ x v h => exact .d _ _ _ h
  | ptr _ a off ha => exact .ptr _ _ _ ha
  | nilptr => exact .nilptr _
  | iptr _ cs b off vs hK h1 h => exact .iptr _ _ _ _ _ hK h1 h
  | own _ k l v h ht => exact .d _ _ _ h
  | lim _ k l v h ht => exact .d _ _ _ h
  | func _ f as bs va vb ha hb h h' hc hc' => exact .func _ _ _ _ _ _ ha hb h h' hc hc'
  | nilfunc => exact .nilfunc _
  | yield _ l hl => exact .yield _ _ hl
  | map _ a ha => exact .map _ _ ha
  | nilmap => exact .nilmap _
  | lbox => exact .undef _ _
  | place => exact .undef _ _
  | mref _ a k lo n b off cap ha h1 h2 h3 h4 => exact .mref _ _ _ _ _ _ _ _ ha h1 h2 h3 h4
  | eptr _ a k i j ha hi => exact .eptr _ _ _ _ _ ha hi
  | agg _ cs vs hs h hc hf => exact .agg _ _ _ hs h hc hf
  | tuple _ cs vs hs h hc => exact .tuple _ _ _ hs h hc
theorem AV.copy_free (c : AV) : c.copy.free = true := by cases c <;> rfl
theorem AV.copy_of_free {c : AV} (h : c.free = true) : c.copy = c := by cases c <;> first | rfl | (simp [AV.free] at h)
theorem RepV.anywhere {G : Gh} {w : World} {ℓ : Loc} {c : AV} {v : Value} (h : RepV G w ℓ c v) (hc : c.free = true) (ℓ' : Loc) : RepV G w ℓ' c v := by
  have := h.copy ℓ'
  rwa [AV.copy_of_free hc] at this

/-- The abstract environment that operations look at: what slots hold, or less. -/
def Less (g : Nat → AV) (σ : St) : Prop := ∀ t, g t = σ.get t ∨ g t = .undef
theorem Less.rep {g : Nat → AV} {σ : St} {G : Gh} {a : Act} {w : World} (hg : Less g σ) (R : Rel G σ a w) (t : Nat) : RepV G w (.s t) (g t) (a.tmps.getD t Go.undef) := by
  rcases hg t with h | h
  · rw [h]; exact R.slots t
  · rw [h]; exact .undef _ _
theorem Less.eq {g : Nat → AV} {σ : St} (hg : Less g σ) {t : Nat} {c : AV} (h : g t = c) (hc : c ≠ .undef) : σ.get t = c := by
  rcases hg t with h' | h'
  · rw [← h', h]
  · rw [h'] at h; exact absurd h.symm hc

theorem constAV_ok {T : Types} {t : TypeId} {v : Value} {c : AV} (h : constAV T t v = some c) (G : Gh) (w : World) (ℓ : Loc) : RepV G w ℓ c v ∧ c.isLocal = false := by
  unfold constAV at h
  split at h <;> simp at h
  case h_1 => subst h; exact ⟨.d _ _ _ (.bool _), rfl⟩
  case h_2 => subst h; exact ⟨.d _ _ _ (.int _ _), rfl⟩
  case h_3 => subst h; exact ⟨.d _ _ _ (.str _), rfl⟩
  case h_4 => obtain ⟨k, _, rfl⟩ := h; exact ⟨.own _ _ _ _ (.nil _) (fun a n cap e => by cases e), rfl⟩
  case h_5 => subst h; exact ⟨.nilptr _, rfl⟩
  case h_6 => subst h; exact ⟨.nilmap _, rfl⟩
  case h_7 => subst h; exact ⟨.nilfunc _, rfl⟩
  case h_8 => subst h; exact ⟨.d _ _ _ .nilIface, rfl⟩

theorem opv_ok {T : Types} {g : Nat → AV} {σ : St} {G : Gh} {a : Act} {w : World} (hg : Less g σ) (R : Rel G σ a w) {t : TypeId} {x : Operand} {c : AV} (h : opv T g t x = some c) (ℓ : Loc) :
    RepV G w ℓ c (a.eval x) ∧ c.isLocal = false := by
  cases x with
  | tmp i => simp [opv] at h; subst h; exact ⟨(hg.rep R i).copy ℓ, AV.copy_isLocal _⟩
  | const v => exact constAV_ok h G w ℓ
  | func f => simp [opv] at h; subst h; exact ⟨.func _ _ _ _ #[] #[] rfl rfl (fun i hi => by simp at hi) (fun i hi => by simp at hi) (by simp) (by simp), rfl⟩
  | global k => simp [opv] at h

theorem dataOf_some : ∀ {cs : List AV} {ds : List D}, dataOf cs = some ds → ds.length = cs.length ∧
    ∀ (i : Nat) (hi : i < cs.length) (hi' : i < ds.length) (G : Gh) (w : World) (ℓ : Loc) (v : Value), RepV G w ℓ cs[i] v → RepD G.K ds[i] v
  | [], ds, h => by simp [dataOf] at h; subst h; exact ⟨rfl, fun i hi => by simp at hi⟩
  | c :: r, ds, h => by
    unfold dataOf at h
    split at h
    · rename_i heq; cases heq
    · rename_i x r' heq; cases heq
      cases hr : dataOf r with
      | none => simp [hr] at h
      | some es =>
        simp [hr] at h; subst h
        obtain ⟨h1, h2⟩ := dataOf_some hr
        refine ⟨by simp [h1], fun i hi hi' G w ℓ v hv => ?_⟩
        cases i with
        | zero => cases hv; assumption
        | succ i => exact h2 i (by simpa using hi) (by simpa using hi') G w ℓ v hv
    · rename_i k l r' heq; cases heq
      cases hr : dataOf r with
      | none => simp [hr] at h
      | some es =>
        simp [hr] at h; subst h
        obtain ⟨h1, h2⟩ := dataOf_some hr
        refine ⟨by simp [h1], fun i hi hi' G w ℓ v hv => ?_⟩
        cases i with
        | zero => cases hv; assumption
        | succ i => exact h2 i (by simpa using hi) (by simpa using hi') G w ℓ v hv
    · rename_i k l r' heq; cases heq
      cases hr : dataOf r with
      | none => simp [hr] at h
      | some es =>
        simp [hr] at h; subst h
        obtain ⟨h1, h2⟩ := dataOf_some hr
        refine ⟨by simp [h1], fun i hi hi' G w ℓ v hv => ?_⟩
        cases i with
        | zero => cases hv; assumption
        | succ i => exact h2 i (by simpa using hi) (by simpa using hi') G w ℓ v hv
    · simp at h

theorem mkAgg_ok {cs : List AV} {G : Gh} {w : World} {vs : Array Value} (hs : vs.size = cs.length) (h : ∀ (i : Nat) (hi : i < cs.length), ∃ ℓ, RepV G w ℓ cs[i] (vs.getD i Go.undef))
    (hc : ∀ c ∈ cs, c.isCell = true) (ℓ : Loc) : RepV G w ℓ (mkAgg cs) (.agg vs) ∧ (mkAgg cs).free = true := by
  unfold mkAgg
  cases hd : dataOf cs with
  | some ds =>
    obtain ⟨h1, h2⟩ := dataOf_some hd
    refine ⟨.d _ _ _ (.agg _ _ (by omega) (fun i hi => ?_) ?_), rfl⟩
    · obtain ⟨ℓ', hv⟩ := h i (by omega)
      exact h2 i (by omega) hi G w ℓ' _ hv
    · intro v hv
      obtain ⟨i, hi, rfl⟩ := Array.mem_iff_getElem.1 hv
      obtain ⟨ℓ', hv⟩ := h i (by omega)
      have := hv.oneCell (hc _ (List.getElem_mem (by omega)))
      simpa [Array.getD, hi] using this
  | none =>
    refine ⟨.agg _ _ _ (by simpa using hs) (fun i hi => ?_) ?_ ?_, rfl⟩
    · obtain ⟨ℓ', hv⟩ := h i (by simpa using hi)
      simpa using hv.copy .no
    · intro c hc'
      obtain ⟨c', h1, rfl⟩ := List.mem_map.1 hc'
      exact AV.copy_isCell (hc _ h1)
    · intro c hc'
      obtain ⟨c', h1, rfl⟩ := List.mem_map.1 hc'
      exact AV.copy_free _

/-- The cells of a represented value. -/
theorem RepV.cells {G : Gh} {w : World} {ℓ : Loc} {c : AV} {v : Value} (h : RepV G w ℓ c v) (hfree : c.free = true) (hundef : c ≠ .undef) (ht : ∀ l, c ≠ .tuple l) :
    v.cells.size = c.cells.length ∧ ∀ (i : Nat) (hi : i < c.cells.length) (ℓ' : Loc), RepV G w ℓ' c.cells[i] (v.cells.getD i Go.undef) := by
  have one : ∀ {c : AV} {v : Value}, RepV G w ℓ c v → c.free = true → c.cells = [c] → v.cells = #[v] → v.cells.size = c.cells.length ∧ ∀ (i : Nat) (hi : i < c.cells.length) (ℓ' : Loc), RepV G w ℓ' c.cells[i] (v.cells.getD i Go.undef) := by
    intro c v h hf h1 h2
    refine ⟨by rw [h1, h2]; rfl, fun i hi ℓ' => ?_⟩
    have : i = 0 := by rw [h1] at hi; simpa using hi
    subst this
    simp only [h1, h2]
    exact h.anywhere hf ℓ'
  cases h with
  | undef => exact absurd rfl hundef
  | abool _ b => exact one (.abool _ b) rfl rfl rfl
  | d _ x v h =>
    cases h with
    | agg cs vs hs h h1 =>
      refine ⟨by simpa [Value.cells, AV.cells] using hs, fun i hi ℓ' => ?_⟩
      simp only [AV.cells, List.length_map] at hi
      simpa [AV.cells, Value.cells] using RepV.d ℓ' _ _ (h i hi)
    | bool b => exact one (.d _ _ _ (.bool b)) rfl rfl rfl
    | int k n => exact one (.d _ _ _ (.int k n)) rfl rfl rfl
    | str s => exact one (.d _ _ _ (.str s)) rfl rfl rfl
    | nilIface => exact one (.d _ _ _ .nilIface) rfl rfl rfl
    | iface t x v h => exact one (.d _ _ _ (.iface t x v h)) rfl rfl rfl
    | nil k => exact one (.d _ _ _ (.nil k)) rfl rfl rfl
    | none0 k a => exact one (.d _ _ _ (.none0 k a)) rfl rfl rfl
    | list k l b off cap vs hu hc hK h1 h => exact one (.d _ _ _ (.list k l b off cap vs hu hc hK h1 h)) rfl rfl rfl
  | ptr _ a off ha => exact one (.ptr _ a off ha) rfl rfl rfl
  | nilptr => exact one (.nilptr _) rfl rfl rfl
  | iptr _ cs b off vs hK h1 h => exact one (.iptr _ cs b off vs hK h1 h) rfl rfl rfl
  | own => simp [AV.free] at hfree
  | lim => simp [AV.free] at hfree
  | func _ f as bs va vb ha hb h h' hc hc' => exact one (.func _ f as bs va vb ha hb h h' hc hc') rfl rfl rfl
  | nilfunc => exact one (.nilfunc _) rfl rfl rfl
  | yield _ l hl => exact one (.yield _ l hl) rfl rfl rfl
  | map _ a ha => exact one (.map _ a ha) rfl rfl rfl
  | nilmap => exact one (.nilmap _) rfl rfl rfl
  | lbox => simp [AV.free] at hfree
  | place => simp [AV.free] at hfree
  | mref _ a k lo n b off cap ha h1 h2 h3 h4 => exact one (.mref _ a k lo n b off cap ha h1 h2 h3 h4) rfl rfl rfl
  | eptr _ a k i j ha hi => exact one (.eptr _ a k i j ha hi) rfl rfl rfl
  | agg _ cs vs hs h hc hf =>
    refine ⟨by simpa [Value.cells, AV.cells] using hs, fun i hi ℓ' => ?_⟩
    simp only [AV.cells] at hi
    exact (h i hi).anywhere (hf _ (List.getElem_mem hi)) ℓ'
  | tuple => exact absurd rfl (ht _)

theorem isCell_of_rep {K : Addr → Option Value} {cs : List D} {vs : Nat → Value} (h1 : ∀ j, j < cs.length → (vs j).oneCell' = true) (hh : ∀ (j : Nat) (hj : j < cs.length), RepD K cs[j] (vs j)) :
    ∀ c ∈ cs.map AV.d, c.isCell = true := by
  intro c hc
  obtain ⟨x, hx, rfl⟩ := List.mem_map.1 hc
  obtain ⟨j, hj, rfl⟩ := List.mem_iff_getElem.1 hx
  have e1 := h1 j hj
  have e2 := hh j hj
  generalize cs[j] = x at e2
  generalize vs j = v at e1 e2
  cases x <;> first | rfl | skip
  cases e2
  simp [Value.oneCell'] at e1

/-! ### Reading out of cells -/
theorem Addr.add_none (b off n : Nat) : (⟨b, off, none⟩ : Addr).add n = ⟨b, off + n, none⟩ := by
  unfold Addr.add
  split <;> simp_all

theorem cut_some {α : Type} {cs : List α} {off n : Nat} {l : List α} (h : cut cs off n = some l) : off + n ≤ cs.length ∧ l.length = n ∧
    ∀ (i : Nat) (hi : i < l.length) (hi' : off + i < cs.length), l[i] = cs[off + i] := by
  unfold cut at h
  split at h
  · rename_i hle
    simp at h; subst h
    refine ⟨hle, by simp; omega, fun i hi hi' => ?_⟩
    simp
  · simp at h

section
variable {P : Program} {T : Types} (hT : TOk P T)
include hT

theorem loadVar_ok {t : TypeId} {td : TD} (ht : T t = some td) {G : Gh} {w : World} {b o off : Nat} {cs : List AV} {vs : Nat → Value}
    (hw : ∀ j, j < cs.length → w.cell? ⟨b, o + j, none⟩ = some (vs j)) (hr : ∀ (j : Nat) (hj : j < cs.length), ∃ ℓ, RepV G w ℓ cs[j] (vs j)) (hc : ∀ c ∈ cs, c.isCell = true)
    {av : AV} (h : readAt td cs off = some av) :
    ∃ v, (loadVar t ⟨b, o + off, none⟩).run P w = .ok v w ∧ av.free = true ∧ ∀ ℓ, RepV G w ℓ av v := by
  unfold readAt at h
  cases hcut : cut cs off td.size with
  | none => simp [hcut] at h
  | some l =>
    simp only [hcut] at h
    obtain ⟨h1, h2, h3⟩ := cut_some hcut
    unfold loadVar
    simp only [Sem.run_bind, hT.isAgg ht, Result.andThen_ok]
    by_cases hagg : td.isAgg = true
    · simp only [hagg, if_true, Option.some.injEq] at h
      subst h
      have hl := run_loadCells (P := P) w ⟨b, o + off, none⟩ td.size (fun j => vs (off + j)) (fun j hj => by
        rw [Addr.add_none, show o + off + j = o + (off + j) by omega]; exact hw _ (by omega))
      simp only [hagg, if_true, Sem.run_bind, hT.size ht, Result.andThen_ok, hl, Sem.run_pure]
      refine ⟨_, rfl, ?_⟩
      have := fun ℓ => mkAgg_ok (G := G) (w := w) (cs := l) (vs := ((List.range td.size).map fun j => vs (off + j)).toArray) (by simp [h2]) (fun i hi => by
        obtain ⟨ℓ', hv⟩ := hr (off + i) (by omega)
        refine ⟨ℓ', ?_⟩
        rw [h3 i hi (by omega)]
        simpa [show i < td.size by omega] using hv) (fun c hm => by
          obtain ⟨i, hi, rfl⟩ := List.mem_iff_getElem.1 hm
          rw [h3 i hi (by omega)]
          exact hc _ (List.getElem_mem _)) ℓ
      exact ⟨(this .no).2, fun ℓ => (this ℓ).1⟩
    · simp only [hagg, Bool.false_eq_true, if_false] at h ⊢
      cases l with
      | nil => simp at h
      | cons c r =>
        simp at h; subst h
        have hoff : off < cs.length := by simp at h2; omega
        have h0 := h3 0 (by simp) hoff
        simp at h0
        refine ⟨vs off, by simp [hw off hoff], AV.copy_free _, fun ℓ => ?_⟩
        obtain ⟨ℓ', hv⟩ := hr off hoff
        rw [h0]
        exact hv.copy ℓ

theorem part_ok {t : TypeId} {td : TD} (ht : T t = some td) {G : Gh} {w : World} {off : Nat} {cs : List AV} {vs : Array Value} (hs : vs.size = cs.length)
    (hr : ∀ (j : Nat) (hj : j < cs.length), ∃ ℓ, RepV G w ℓ cs[j] (vs.getD j Go.undef)) (hc : ∀ c ∈ cs, c.isCell = true)
    {av : AV} (h : readAt td cs off = some av) :
    ∃ v, (part t vs off).run P w = .ok v w ∧ av.free = true ∧ ∀ ℓ, RepV G w ℓ av v := by
  unfold readAt at h
  cases hcut : cut cs off td.size with
  | none => simp [hcut] at h
  | some l =>
    simp only [hcut] at h
    obtain ⟨h1, h2, h3⟩ := cut_some hcut
    unfold part
    simp only [Sem.run_bind, hT.isAgg ht, Result.andThen_ok]
    by_cases hagg : td.isAgg = true
    · simp only [hagg, if_true, Option.some.injEq] at h
      subst h
      simp only [hagg, if_true, Sem.run_bind, hT.size ht, Result.andThen_ok, Sem.run_pure]
      refine ⟨_, rfl, ?_⟩
      have := fun ℓ => mkAgg_ok (G := G) (w := w) (cs := l) (vs := vs.extract off (off + td.size)) (by simp [h2]; omega) (fun i hi => by
        obtain ⟨ℓ', hv⟩ := hr (off + i) (by omega)
        refine ⟨ℓ', ?_⟩
        rw [h3 i hi (by omega)]
        rw [Array.getD_eq_getD_getElem?] at hv ⊢
        rw [Array.getElem?_extract, if_pos (by omega)]
        exact hv) (fun c hm => by
          obtain ⟨i, hi, rfl⟩ := List.mem_iff_getElem.1 hm
          rw [h3 i hi (by omega)]
          exact hc _ (List.getElem_mem _)) ℓ
      exact ⟨(this .no).2, fun ℓ => (this ℓ).1⟩
    · simp only [hagg, Bool.false_eq_true, if_false] at h ⊢
      cases l with
      | nil => simp at h
      | cons c r =>
        simp at h; subst h
        have hoff : off < cs.length := by simp at h2; omega
        have h0 := h3 0 (by simp) hoff
        simp at h0
        obtain ⟨ℓ', hv⟩ := hr off hoff
        have hget : vs[off]? = some (vs.getD off Go.undef) := by simp [Array.getD_eq_getD_getElem?, show off < vs.size by omega]
        refine ⟨vs.getD off Go.undef, by rw [hget]; simp, AV.copy_free _, fun ℓ => ?_⟩
        rw [h0]
        exact hv.copy ℓ
end
end Go.Am

/- Operations that leave memory as it is: each does in the world what it does on abstract states. -/
set_option linter.unusedSimpArgs false
set_option linter.unusedSectionVars false
namespace Go.Am
open Go

/-- The widest fence, in a round or not. -/
def Wd (r : Option Nat) : Fence := { fn := fun _ => True, depth := none, alive := false, round := r }
theorem room_wd (r : Option Nat) (n : Nat) : (Wd r).room n := fun _ h => by simp [Wd] at h

section
variable {P : Program} {r : Option Nat} {n : Nat} {o : Oper} {a : Act} {w w' : World} {next : Act → World → Prop} {Q : Exit → Act → World → Prop}
theorem wp_value {v : Value} (hd : ∀ c, o.op ≠ .defer c) (h : (execOp a.eval o).run P w = .ok (.value v) w') (hn : next (a.put o.dst v) w') : o.wpIn (Wd r) n P a w next Q := by
  refine ⟨fun _ _ => trivial, ?_⟩
  rw [Oper.semAt_eq _ _ _ hd, h]; exact hn
theorem wp_skip' (hd : ∀ c, o.op ≠ .defer c) (h : (execOp a.eval o).run P w = .ok .skip w') (hn : next (a.put o.dst Go.undef) w') : o.wpIn (Wd r) n P a w next Q := by
  refine ⟨fun _ _ => trivial, ?_⟩
  rw [Oper.semAt_eq _ _ _ hd, h]; exact hn
end

def St.upd (σ : St) (ss : Sets) (h : Option (List Obj)) : St := { σ with env := esets σ.env ss, heap := h.getD σ.heap }

/-- An operation does what is said, in whatever world. -/
def StepOk (P : Program) (σ : St) (o : Oper) (ss : Sets) (h : Option (List Obj)) : Prop :=
  ∀ (r : Option Nat) (n m : Nat) (G : Gh) (a : Act) (w : World) (Q : Exit → Act → World → Prop) (next : Act → World → Prop), m ≤ G.nh → Rel G σ a w →
    (∀ G' a' w', Rel G' (σ.upd ss h) a' w' → Ext m G w G' w' → next a' w') → o.wpIn (Wd r) n P a w next Q

theorem getD_set (a : Array Value) (d t : Nat) (v : Value) (hd : d < a.size) : (a.setIfInBounds d v).getD t Go.undef = if d = t then v else a.getD t Go.undef := by
  by_cases h : d = t
  · subst h; simp [Array.getD, hd]
  · simp only [h, if_false, Array.getD_eq_getD_getElem?, Array.getElem?_setIfInBounds_ne h]

theorem Rel.put {G : Gh} {σ : St} {a : Act} {w : World} (R : Rel G σ a w) {d : Nat} {v : Value} {av : AV} (hv : RepV G w (.s d) av v) (hp : ∀ r off, av = .place r off → ∃ cs, σ.get r = .lbox cs)
    (hb : (σ.get d).isBox = false) (hd : d < σ.n) : Rel G (σ.upd [(d, av)] none) (a.put (some d) v) w where
  h := R.h
  size := by simpa [Act.put, St.upd] using R.size
  slots t := by
    have hd' : d < a.tmps.size := by rw [R.size]; exact hd
    simp only [Act.put, getD_set _ _ _ _ hd', St.upd, St.get, esets, List.foldl_cons, List.foldl_nil, eget_eset]
    split
    · rename_i h; subst h; exact hv
    · exact R.slots t
  places t r off ht := by
    simp only [St.upd, St.get, esets, List.foldl_cons, List.foldl_nil, eget_eset] at ht ⊢
    have key : ∃ cs, σ.get r = .lbox cs := by
      split at ht
      · exact hp r off ht
      · exact R.places t r off ht
    obtain ⟨cs, hcs⟩ := key
    refine ⟨cs, ?_⟩
    split
    · rename_i h; subst h; rw [hcs] at hb; simp [AV.isBox] at hb
    · exact hcs
  df := R.df

theorem put_some {n : Nat} {g : Nat → AV} {dst : Option Tmp} {v : AV} {ss : Sets} {h : Option (List Obj)} (hp : Am.put n g dst v = some (ss, h)) :
    h = none ∧ ((dst = none ∧ ss = []) ∨ ∃ d, dst = some d ∧ ss = [(d, v)] ∧ d < n ∧ (g d).isBox = false) := by
  unfold Am.put at hp
  cases dst with
  | none => simp at hp; exact ⟨hp.2.symm, .inl ⟨rfl, hp.1⟩⟩
  | some d =>
    simp only at hp
    split at hp
    · rename_i hc
      simp at hc hp
      exact ⟨hp.2.symm, .inr ⟨d, rfl, hp.1.symm, hc.1, hc.2⟩⟩
    · simp at hp

/-- An operation that yields a value and leaves memory as it is. -/
theorem stepOk_pure {P : Program} {σ : St} {g : Nat → AV} {o : Oper} {v : AV} {ss : Sets} {h : Option (List Obj)} (hgd : ∀ d, o.dst = some d → g d = σ.get d)
    (hput : Am.put σ.n g o.dst v = some (ss, h)) (hd : ∀ c, o.op ≠ .defer c)
    (hp : ∀ r off, v = .place r off → ∃ cs, σ.get r = .lbox cs)
    (hrun : ∀ G a w, Rel G σ a w → ∃ val, (execOp a.eval o).run P w = .ok (.value val) w ∧ ∀ d, RepV G w (.s d) v val) : StepOk P σ o ss h := by
  intro r n m G a w Q next hm R hn
  obtain ⟨val, he, hv⟩ := hrun G a w R
  obtain ⟨rfl, ⟨hdst, rfl⟩ | ⟨d, hdst, rfl, hlt, hb⟩⟩ := put_some hput
  · refine wp_value hd he (hn G _ _ ?_ (Ext.refl m G w))
    rw [hdst]
    simpa [Act.put, St.upd, esets] using R
  · refine wp_value hd he (hn G _ _ ?_ (Ext.refl m G w))
    rw [hdst]
    exact R.put (hv d) hp (by rw [← hgd d hdst]; exact hb) hlt

theorem putO_some {n : Nat} {g : Nat → AV} {dst : Option Tmp} {v : Option AV} {r : Sets × Option (List Obj)} (hp : putO n g dst v = some r) : ∃ x, v = some x ∧ Am.put n g dst x = some r := by
  unfold putO at hp
  cases v with
  | none => simp at hp
  | some x => exact ⟨x, rfl, hp⟩

theorem AV.free_place {v : AV} (h : v.isLocal = false) {σ : St} : ∀ r off, v = .place r off → ∃ cs, σ.get r = .lbox cs := by
  rintro r off rfl; simp [AV.isLocal] at h
theorem AV.free_isLocal {v : AV} (h : v.free = true) : v.isLocal = false := by cases v <;> first | rfl | (simp [AV.free] at h)

section
variable {P : Program} {T : Types} (hT : TOk P T) {σ : St} {g : Nat → AV} {o : Oper} {ss : Sets} {h' : Option (List Obj)} {H : List Obj} {an : Ann}
  (hg : Less g σ) (hgd : ∀ d, o.dst = some d → g d = σ.get d) (h : evBase Ar.std T an σ.n g H o = some (ss, h'))
include hg hgd h

theorem step_pick {c x y : Operand} (hop : o.op = .pick c x y) : StepOk P σ o ss h' := by
  simp only [evBase, hop] at h
  split at h
  · rename_i t vx vy hc hx hy
    have hl : (pickAV t vx.copy vy.copy).free = true := by
      unfold pickAV; split
      · rfl
      · cases t <;> simp [AV.copy_free]
    refine stepOk_pure hgd h (by simp [hop]) (AV.free_place (AV.free_isLocal hl)) ?_
    intro G a w R
    have h1 := (opv_ok hg R hc .no).1
    have h2 := (opv_ok hg R hx .no).1.copy .no
    have h3 := (opv_ok hg R hy .no).1.copy .no
    cases h1 with | d _ _ _ h1 =>
    generalize hec : a.eval c = vc at h1
    cases h1
    refine ⟨if t then a.eval x else a.eval y, by simp [execOp, hop, hec, asBool], fun d => ?_⟩
    refine RepV.anywhere (ℓ := .no) ?_ hl _
    unfold pickAV
    split
    · rename_i b1 b2 e1 e2
      rw [e1] at h2; rw [e2] at h3
      cases h2 with | d _ _ _ h2 => cases h3 with | d _ _ _ h3 =>
      generalize a.eval x = vx' at h2
      generalize a.eval y = vy' at h3
      cases h2; cases h3
      cases t
      · exact .d _ _ _ (.bool _)
      · exact .d _ _ _ (.bool _)
    · cases t
      · exact h3
      · exact h2
  · simp at h

theorem step_unOp {t : TypeId} {x : Operand} (hop : o.op = .unOp .not t x) : StepOk P σ o ss h' := by
  simp only [evBase, hop] at h
  split at h
  · rename_i b hx
    refine stepOk_pure hgd h (by simp [hop]) (AV.free_place rfl) ?_
    intro G a w R
    have h1 := (opv_ok hg R hx .no).1
    cases h1 with | d _ _ _ h1 =>
    generalize hec : a.eval x = vc at h1
    cases h1
    exact ⟨.bool !b, by simp [execOp, hop, hec, Op.unary], fun d => .d _ _ _ (.bool _)⟩
  · simp at h

theorem step_extract {x : Operand} {i : Nat} (hop : o.op = .extract x i) : StepOk P σ o ss h' := by
  simp only [evBase, hop] at h
  split at h
  · rename_i vs hx
    obtain ⟨v, hv, hp⟩ := putO_some h
    simp at hv
    obtain ⟨c, hc, rfl⟩ := hv
    refine stepOk_pure hgd hp (by simp [hop]) (AV.free_place (AV.copy_isLocal _)) ?_
    intro G a w R
    have h1 := (opv_ok hg R hx .no).1
    generalize hec : a.eval x = vc at h1
    cases h1 with | tuple _ _ vs' hs hh hl =>
    obtain ⟨hi, rfl⟩ := List.getElem?_eq_some_iff.1 hc
    have hi' : i < vs'.size := by omega
    have := hh i hi
    refine ⟨vs'[i], by simp [execOp, hop, hec, Instr.extract, hi'], fun d => ?_⟩
    simpa [Array.getD, hi'] using this.copy (.s d)
  · simp at h

theorem step_makeFunc {f : FuncId} {x y : Array Operand} (hop : o.op = .makeFunc (.func f) x y) : StepOk P σ o ss h' := by
  simp only [evBase, hop] at h
  split at h
  · rename_i l1 l2 h1 h2
    have key : ∀ (xs : Array Operand) (l : List AV), xs.toList.mapM (opv T g 0) = some l → ∀ G a w, Rel G σ a w →
        (xs.map a.eval).size = (l.map AV.copy).length ∧ (∀ (i : Nat) (hi : i < (l.map AV.copy).length), RepV G w .no (l.map AV.copy)[i] ((xs.map a.eval).getD i Go.undef)) := by
      intro xs l hl G a w R
      have : ∀ (ys : List Operand) (l : List AV), ys.mapM (opv T g 0) = some l → ys.length = l.length ∧ ∀ (i : Nat) (hi : i < l.length) (hi' : i < ys.length), opv T g 0 ys[i] = some l[i] := by
        intro ys
        induction ys with
        | nil => intro l hl; simp at hl; subst hl; exact ⟨rfl, fun i hi => by simp at hi⟩
        | cons y r ih =>
          intro l hl
          simp only [List.mapM_cons, Option.bind_eq_bind, Option.bind_eq_some_iff, Option.pure_def, Option.some.injEq] at hl
          obtain ⟨v, hv, l', hl', rfl⟩ := hl
          obtain ⟨e1, e2⟩ := ih l' hl'
          refine ⟨by simp [e1], fun i hi hi' => ?_⟩
          cases i with
          | zero => exact hv
          | succ i => exact e2 i (by simpa using hi) (by simpa using hi')
      obtain ⟨e1, e2⟩ := this _ _ hl
      refine ⟨by simpa using e1, fun i hi => ?_⟩
      have hi1 : i < l.length := by simpa using hi
      have hi2 : i < xs.size := by simp at e1; omega
      have := (opv_ok hg R (e2 i hi1 (by simpa using hi2)) .no).1.copy .no
      simpa [Array.getD, hi2] using this
    refine stepOk_pure hgd h (by simp [hop]) (AV.free_place rfl) ?_
    intro G a w R
    obtain ⟨e1, e2⟩ := key x l1 h1 G a w R
    obtain ⟨e3, e4⟩ := key y l2 h2 G a w R
    refine ⟨.func (.func f) (x.map a.eval) (y.map a.eval), by simp [execOp, hop, Instr.makeFunc], fun d => .func _ _ _ _ _ _ e1 e3 e2 e4 ?_ ?_⟩
    · intro c hc; obtain ⟨c', _, rfl⟩ := List.mem_map.1 hc; exact AV.copy_isLocal _
    · intro c hc; obtain ⟨c', _, rfl⟩ := List.mem_map.1 hc; exact AV.copy_isLocal _
  · simp at h

theorem step_binOp {op : BinOp} {t t' : TypeId} {x y : Operand} (hop : o.op = .binOp op t x y t') : StepOk P σ o ss h' := by
  simp only [evBase, hop] at h
  split at h
  · rename_i k1 z1 k2 z2 hx hy
    have key : ∀ (dd : D), (∀ (G : Gh) (w : World), ∃ val, (Go.binOp op t (.int k1 z1) (.int k2 z2)).run P w = .ok val w ∧ RepD G.K dd val) → putO σ.n g o.dst (some (.d dd)) = some (ss, h') → StepOk P σ o ss h' := by
      intro dd hkey hp
      refine stepOk_pure hgd hp (by simp [hop]) (AV.free_place rfl) ?_
      intro G a w R
      have h1 := (opv_ok hg R hx .no).1
      have h2 := (opv_ok hg R hy .no).1
      cases h1 with | d _ _ _ h1 =>
      cases h2 with | d _ _ _ h2 =>
      generalize hec : a.eval x = vx at h1
      generalize hed : a.eval y = vy at h2
      cases h1; cases h2
      obtain ⟨val, hval, hrep⟩ := hkey G w
      have hgua : (eqGuard op t x y (.int k1 z1) (.int k2 z2)).run P w = .ok () w := by
        unfold eqGuard
        cases op <;> simp
      exact ⟨val, by simp [execOp, hop, hec, hed, hgua, hval], fun d => .d _ _ _ hrep⟩
    have shifts : (op = .shl ∨ op = .shr) → putO σ.n g o.dst ((shiftOp Ar.std op k1 z1 z2).map .d) = some (ss, h') → StepOk P σ o ss h' := by
      intro ho h
      obtain ⟨v, hv, hp⟩ := putO_some h
      simp at hv
      obtain ⟨dd, hdd, rfl⟩ := hv
      refine key dd (fun G w => ?_) hp
      unfold shiftOp at hdd
      split at hdd
      · cases hdd
      · rename_i hn
        simp [Ar.std] at hn
        rcases ho with rfl | rfl <;> simp [Ar.std] at hdd <;> subst hdd
        · exact ⟨_, by simp [Go.binOp, Op.shift, show ¬ z2 < 0 by omega], .int _ _⟩
        · exact ⟨_, by simp [Go.binOp, Op.shift, show ¬ z2 < 0 by omega], .int _ _⟩
    split at h
    · exact shifts (.inl rfl) h
    · exact shifts (.inr rfl) h
    · rename_i hns1 hns2
      split at h
      · rename_i hk
        subst hk
        obtain ⟨v, hv, hp⟩ := putO_some h
        simp at hv
        obtain ⟨dd, hdd, rfl⟩ := hv
        refine key dd (fun G w => ?_) hp
        cases op
        case quo =>
          simp only [intOp] at hdd
          split at hdd
          · cases hdd
          · rename_i hz
            simp [Ar.std] at hz
            simp [Ar.std] at hdd; subst hdd
            exact ⟨_, by simp [Go.binOp, Op.intDiv, hz], .int _ _⟩
        case rem =>
          simp only [intOp] at hdd
          split at hdd
          · cases hdd
          · rename_i hz
            simp [Ar.std] at hz
            simp [Ar.std] at hdd; subst hdd
            exact ⟨_, by simp [Go.binOp, Op.intDiv, hz], .int _ _⟩
        case and => simp [intOp] at hdd; subst hdd; refine ⟨_, ?_, .int _ _⟩; simp only [Go.binOp, Op.intBits, Ar.std, bitsStd, ne_eq, not_true_eq_false, if_false]; rfl
        case or => simp [intOp] at hdd; subst hdd; refine ⟨_, ?_, .int _ _⟩; simp only [Go.binOp, Op.intBits, Ar.std, bitsStd, ne_eq, not_true_eq_false, if_false]; rfl
        case xor => simp [intOp] at hdd; subst hdd; refine ⟨_, ?_, .int _ _⟩; simp only [Go.binOp, Op.intBits, Ar.std, bitsStd, ne_eq, not_true_eq_false, if_false]; rfl
        case andNot => simp [intOp] at hdd; subst hdd; refine ⟨_, ?_, .int _ _⟩; simp only [Go.binOp, Op.intBits, Ar.std, bitsStd, ne_eq, not_true_eq_false, if_false]; rfl
        all_goals simp [intOp, Ar.std] at hdd
        all_goals subst hdd
        all_goals refine ⟨_, by simp [Go.binOp, Op.intArith, Op.intCmp]; rfl, ?_⟩
        all_goals first | exact .int _ _ | exact .bool _
      · simp at h
  · simp at h

include hT in
theorem step_convert {s t : TypeId} {x : Operand} (hop : o.op = .convert s t x) : StepOk P σ o ss h' := by
  simp only [evBase, hop] at h
  split at h
  · rename_i td0 sz k z kk zz hs0 hx hy
    refine stepOk_pure hgd h (by simp [hop]) (AV.free_place rfl) ?_
    intro G a w R
    obtain ⟨ds, hds, _⟩ := hT.under hs0
    have hu := hT.int hx
    have h1 := (opv_ok hg R hy .no).1
    cases h1 with | d _ _ _ h1 =>
    generalize hec : a.eval x = vx at h1
    cases h1
    refine ⟨.int k (k.wrap zz), ?_, fun d => .d _ _ _ (.int _ _)⟩
    simp [execOp, hop, hec, Go.convert, Go.underlying, hds, hu, Conv.intToInt]
  · simp at h
end

theorem fieldOf_some {T : Types} {t : TypeId} {f : Nat} {ft off sz : Nat} (h : fieldOf T t f = some (ft, off, sz)) : ∃ s fs z td, T t = some ⟨s, .struct fs, z⟩ ∧ fs[f]? = some (ft, off) ∧ T ft = some td ∧ td.size = sz := by
  unfold fieldOf at h
  split at h
  · rename_i s fs z ht
    split at h
    · rename_i ft' off' hf
      simp at h
      obtain ⟨td, h1, rfl, rfl, rfl⟩ := h
      exact ⟨_, _, _, td, ht, hf, h1, rfl⟩
    · simp at h
  · simp at h

/-! ### Addresses -/
/-- What an address is in the world. -/
def AdrRep (G : Gh) (σ : St) (A : Adr) (v : Value) : Prop :=
  match A with
  | .slot r off cs => σ.get r = .lbox cs ∧ v = .pointer (some ⟨G.β (.s r), off, none⟩)
  | .obj a off => a < G.nh ∧ v = .pointer (some ⟨G.β (.o a), off, none⟩)
  | .cells cs => ∃ (b off : Nat) (vs : Nat → Value), v = .pointer (some ⟨b, off, none⟩) ∧ (∀ j, j < cs.length → G.K ⟨b, off + j, none⟩ = some (vs j)) ∧ (∀ j, j < cs.length → (vs j).oneCell' = true) ∧ ∀ (j : Nat) (hj : j < cs.length), RepD G.K cs[j] (vs j)

theorem adr_ok {g : Nat → AV} {σ : St} {G : Gh} {a : Act} {w : World} (hg : Less g σ) (R : Rel G σ a w) {x : Operand} {A : Adr} (h : adr g x = some A) : AdrRep G σ A (a.eval x) := by
  unfold adr at h
  split at h
  · rename_i i
    have hrep := hg.rep R i
    split at h
    · rename_i cs hgi
      simp at h; subst h
      rw [hgi] at hrep
      refine ⟨hg.eq hgi (by simp), ?_⟩
      show a.tmps.getD i Go.undef = _
      generalize a.tmps.getD i Go.undef = v at hrep
      cases hrep; rfl
    · rename_i r off hgi
      rw [hgi] at hrep
      split at h
      · rename_i cs hgr
        simp at h; subst h
        refine ⟨hg.eq hgr (by simp), ?_⟩
        show a.tmps.getD i Go.undef = _
        generalize a.tmps.getD i Go.undef = v at hrep
        cases hrep; rfl
      · simp at h
    · rename_i b off hgi
      simp at h; subst h
      rw [hgi] at hrep
      show AdrRep G σ _ (a.tmps.getD i Go.undef)
      generalize a.tmps.getD i Go.undef = v at hrep
      cases hrep with | ptr _ _ _ ha => exact ⟨ha, rfl⟩
    · rename_i cs hgi
      simp at h; subst h
      rw [hgi] at hrep
      show AdrRep G σ _ (a.tmps.getD i Go.undef)
      generalize a.tmps.getD i Go.undef = v at hrep
      cases hrep with | iptr _ _ b off vs hK h1 hh => exact ⟨b, off, vs, rfl, hK, h1, hh⟩
    · simp at h
  · simp at h

theorem AdrRep.pointer {G : Gh} {σ : St} {A : Adr} {v : Value} (h : AdrRep G σ A v) : ∃ b off, v = .pointer (some ⟨b, off, none⟩) := by
  cases A with
  | slot r off cs => exact ⟨_, _, h.2⟩
  | obj a off => exact ⟨_, _, h.2⟩
  | cells cs => obtain ⟨b, off, vs, h, _⟩ := h; exact ⟨_, _, h⟩
theorem AdrRep.up {G : Gh} {σ : St} {w : World} {A : Adr} {b off : Nat} (h : AdrRep G σ A (.pointer (some ⟨b, off, none⟩))) (n : Nat) (ℓ : Loc) : RepV G w ℓ (A.up n) (.pointer (some ⟨b, off + n, none⟩)) := by
  cases A with
  | slot r o cs => obtain ⟨_, h⟩ := h; injection h with h; injection h with h; injection h with h1 h2; subst h1 h2; exact .place _ _ _
  | obj a o => obtain ⟨ha, h⟩ := h; injection h with h; injection h with h; injection h with h1 h2; subst h1 h2; exact .ptr _ _ _ ha
  | cells cs =>
    obtain ⟨b', o, vs, h, hK, h1, hh⟩ := h; injection h with h; injection h with h; injection h with e1 e2; subst e1 e2
    refine .iptr _ _ _ _ (fun j => vs (n + j)) (fun j hj => ?_) (fun j hj => h1 _ (by simp at hj; omega)) (fun j hj => ?_)
    · rw [show off + n + j = off + (n + j) by omega]; exact hK _ (by simp at hj; omega)
    · simpa using hh (n + j) (by simp at hj; omega)
theorem AdrRep.up_place {G : Gh} {σ : St} {A : Adr} {v : Value} (h : AdrRep G σ A v) (n : Nat) : ∀ r off, A.up n = .place r off → ∃ cs, σ.get r = .lbox cs := by
  intro r off e
  cases A with
  | slot r' o cs => simp [Adr.up] at e; obtain ⟨rfl, _⟩ := e; exact ⟨cs, h.1⟩
  | obj a o => simp [Adr.up] at e
  | cells cs => simp [Adr.up] at e

section
variable {P : Program} {T : Types} (hT : TOk P T) {σ : St} {g : Nat → AV} {o : Oper} {ss : Sets} {h' : Option (List Obj)} {H : List Obj} {an : Ann}
  (hg : Less g σ) (hgd : ∀ d, o.dst = some d → g d = σ.get d) (h : evBase Ar.std T an σ.n g H o = some (ss, h'))
include hT hg hgd h

theorem step_fieldAddr {t : TypeId} {x : Operand} {f : Nat} (hop : o.op = .fieldAddr t x f) : StepOk P σ o ss h' := by
  simp only [evBase, hop] at h
  split at h
  · rename_i ft off sz A hf hA
    split at h
    · simp at h
    · rename_i hsz
      obtain ⟨s, fs, z, td, ht, hfs, hft, rfl⟩ := fieldOf_some hf
      obtain ⟨fields, hu, hmap⟩ := hT.struct ht
      have hfield : ∃ fld, fields[f]? = some fld ∧ fld.type = ft ∧ fld.offset = off := by
        rw [← hmap] at hfs
        simp at hfs
        obtain ⟨fld, h1, h2, h3⟩ := hfs
        exact ⟨fld, h1, h2, h3⟩
      obtain ⟨fld, h1, rfl, rfl⟩ := hfield
      intro r n m G a w Q next hm R hn
      have hAr := adr_ok hg R hA
      refine stepOk_pure hgd h (by simp [hop]) (hAr.up_place _) ?_ r n m G a w Q next hm R hn
      intro G a w R
      have hAr := adr_ok hg R hA
      obtain ⟨b, of, hp⟩ := hAr.pointer
      rw [hp] at hAr
      refine ⟨.pointer (some ⟨b, of + fld.offset, none⟩), ?_, fun d => hAr.up _ _⟩
      simp [execOp, hop, hp, Instr.fieldAt, Go.underlying, hu, h1, Instr.sureAddr, fieldPlace, hT.size hft, hsz, Addr.add_none]
  · simp at h

omit hT hg hgd h in
theorem flat_get {k : Nat} : ∀ {l : List D} (_ : uniform k l) {i : Nat} {y : D} (_ : l[i]? = some y) (j : Nat), j < k → (D.flat l)[i * k + j]? = y.cells[j]?
  | [], _, i, y, h, _, _ => by simp at h
  | x :: r, hu, 0, y, h, j, hj => by
    simp at h; subst h
    have hx : x.cells.length = k := hu _ (by simp)
    simp only [D.flat, List.flatMap_cons, Nat.zero_mul, Nat.zero_add]
    rw [List.getElem?_append_left (by omega)]
  | x :: r, hu, i + 1, y, h, j, hj => by
    have hx : x.cells.length = k := hu _ (by simp)
    have ih := flat_get (l := r) (fun z hz => hu z (by simp [hz])) (i := i) (y := y) (by simpa using h) j hj
    simp only [D.flat, List.flatMap_cons] at ih ⊢
    rw [List.getElem?_append_right (by rw [Nat.add_mul]; omega), ← ih]
    congr 1
    rw [Nat.add_mul]; omega

omit hT hg hgd h in
theorem listElem {G : Gh} {k : Nat} {l : List D} {b off cap : Nat} (hr : RepD G.K (.list k l) (.slice (some ⟨b, off, none⟩) l.length cap)) {i : Nat} {y : D} (hy : l[i]? = some y) (w : World) (ℓ : Loc) :
    RepV G w ℓ (.iptr y.cells) (.pointer (some ⟨b, off + i * k, none⟩)) := by
  generalize hv : Value.slice (some ⟨b, off, none⟩) l.length cap = v at hr
  cases hr with
  | nil => simp at hv
  | none0 => simp at hy
  | list k l b' off' cap' vs hu hc hK h1c hh =>
    simp at hv
    obtain ⟨⟨rfl, rfl⟩, _⟩ := hv
    have hyk : y.cells.length = k := hu y (List.mem_of_getElem? hy)
    have key : ∀ j, j < k → ∃ h : i * k + j < (D.flat l).length, ∀ hj : j < y.cells.length, (D.flat l)[i * k + j] = y.cells[j] := by
      intro j hj
      have e := flat_get hu hy j hj
      rw [List.getElem?_eq_getElem (by omega : j < y.cells.length)] at e
      obtain ⟨h1, h2⟩ := List.getElem?_eq_some_iff.1 e
      exact ⟨h1, fun _ => h2⟩
    refine .iptr _ _ _ _ (fun j => vs (i * k + j)) (fun j hj => ?_) (fun j hj => h1c _ (key j (by omega)).1) (fun j hj => ?_)
    · obtain ⟨h1, _⟩ := key j (by omega)
      rw [show off + i * k + j = off + (i * k + j) by omega]
      exact hK _ h1
    · obtain ⟨h1, h2⟩ := key j (by omega)
      have := hh _ h1
      rwa [h2 hj] at this

omit hT hg hgd h in
theorem RepD.slice {K : Addr → Option Value} {k : Nat} {l : List D} {v : Value} (h : RepD K (.list k l) v) :
    (l = [] ∧ ∃ a, v = .slice a 0 0) ∨ ∃ b off cap, v = .slice (some ⟨b, off, none⟩) l.length cap := by
  cases h with
  | nil => exact .inl ⟨rfl, none, rfl⟩
  | none0 k a => exact .inl ⟨rfl, some a, rfl⟩
  | list k l b off cap vs => exact .inr ⟨b, off, cap, rfl⟩

omit hT hgd h in
/-- What a slot holds that is a list. -/
theorem list_of_slot {G : Gh} {a : Act} {w : World} (R : Rel G σ a w) {i k : Nat} {l : List D} (hgi : g i = .d (.list k l) ∨ g i = .own k l) : RepD G.K (.list k l) (a.eval (.tmp i)) := by
  have hrep := hg.rep R i
  rcases hgi with hgi | hgi <;> rw [hgi] at hrep <;> cases hrep <;> assumption

theorem step_indexAddr {t : TypeId} {x i : Operand} (hop : o.op = .indexAddr t x i) : StepOk P σ o ss h' := by
  simp only [evBase, hop, idxLo_std, idxHi_std, idxNat_std] at h
  split at h
  · rename_i sz m e zc kz z ht hi
    split at h
    · rename_i td A hte hA
      split at h
      · rename_i hb
        simp [Ar.std] at hb
        intro r n m' G a w Q next hm R hn
        have hAr := adr_ok hg R hA
        refine stepOk_pure hgd h (by simp [hop]) (hAr.up_place _) ?_ r n m' G a w Q next hm R hn
        intro G a w R
        have hAr := adr_ok hg R hA
        obtain ⟨b, of, hp⟩ := hAr.pointer
        rw [hp] at hAr
        have h1 := (opv_ok hg R hi .no).1
        cases h1 with | d _ _ _ h1 =>
        generalize hei : a.eval i = vi at h1
        cases h1
        refine ⟨.pointer (some ⟨b, of + z.toNat * td.size, none⟩), ?_, fun d => hAr.up _ _⟩
        simp [execOp, hop, hp, hei, Instr.indexAt, asIntOf, Go.underlying, hT.array ht, Instr.sureAddr, hb, hT.size hte, Addr.add_none]
      · simp at h
    · simp at h
  · rename_i sz e zc kz z ht hi
    split at h
    · rename_i td hte
      have key : ∀ {k : Nat} {l : List D}, (∀ G a w, Rel G σ a w → RepD G.K (.list k l) (a.eval x)) →
          (if (decide (0 ≤ z) && decide (k = td.size)) = true then match Ar.std.lget l z.toNat with | some y => Am.put σ.n g o.dst (.iptr y.cells) | none => none else none) = some (ss, h') → StepOk P σ o ss h' := by
        intro k l hlist h
        split at h
        · rename_i hb
          simp [Ar.std] at hb
          split at h
          · rename_i y hy
            simp only [Ar.std] at hy
            refine stepOk_pure hgd h (by simp [hop]) (AV.free_place rfl) ?_
            intro G a w R
            have hl := hlist G a w R
            have h1 := (opv_ok hg R hi .no).1
            cases h1 with | d _ _ _ h1 =>
            generalize hei : a.eval i = vi at h1
            cases h1
            rcases hl.slice with ⟨rfl, _⟩ | ⟨b, off, cap, hv⟩
            · simp at hy
            · rw [hv] at hl
              have hlt : z.toNat < l.length := (List.getElem?_eq_some_iff.1 hy).1
              have hz : 0 ≤ z ∧ z < (l.length : Int) := ⟨hb.1, by omega⟩
              refine ⟨.pointer (some ⟨b, off + z.toNat * td.size, none⟩), ?_, fun d => by rw [← hb.2]; exact listElem hl hy w _⟩
              simp [execOp, hop, hv, hei, Instr.indexAt, asIntOf, Go.underlying, hT.slice ht, hz, hT.size hte, Addr.add_none]
          · simp at h
        · simp at h
      split at h
      · rename_i k l hx
        cases x with
        | tmp i' => exact key (fun G a w R => list_of_slot hg R (.inl hx)) h
        | _ => simp at hx
      · rename_i k l hx
        cases x with
        | tmp i' => exact key (fun G a w R => list_of_slot hg R (.inr hx)) h
        | _ => simp at hx
      · simp at h
    · simp at h
  · simp at h

theorem step_field {t : TypeId} {x : Operand} {f : Nat} (hop : o.op = .field t x f) : StepOk P σ o ss h' := by
  simp only [evBase, hop] at h
  split at h
  · rename_i ft off sz hf
    obtain ⟨s, fs, z, td, ht, hfs, hft, rfl⟩ := fieldOf_some hf
    obtain ⟨fields, hu, hmap⟩ := hT.struct ht
    have hfield : ∃ fld, fields[f]? = some fld ∧ fld.type = ft ∧ fld.offset = off := by
      rw [← hmap] at hfs
      simp at hfs
      obtain ⟨fld, h1, h2, h3⟩ := hfs
      exact ⟨fld, h1, h2, h3⟩
    obtain ⟨fld, hfl, rfl, rfl⟩ := hfield
    simp only [hft] at h
    cases hx : opv T g t x with
    | none => simp [hx] at h
    | some v =>
      simp only [hx] at h
      split at h
      · rename_i hag
        obtain ⟨av, hav, hp⟩ := putO_some h
        have hread : ∀ (G : Gh) (a : Act) (w : World), Rel G σ a w → ∃ vs, a.eval x = .agg vs ∧ ∃ val, (part fld.type vs fld.offset).run P w = .ok val w ∧ av.free = true ∧ ∀ ℓ, RepV G w ℓ av val := by
          intro G a w R
          have hr := (opv_ok hg R hx (.no)).1
          generalize a.eval x = xv at hr
          cases v with
          | d y =>
            cases y with
            | agg ds =>
              cases hr with | d _ _ _ hd =>
              cases hd with | agg _ vs hs hh h1 =>
              refine ⟨vs, rfl, part_ok hT hft (cs := ds.map .d) (by simpa using hs) (fun j hj => ⟨.no, by simpa using RepV.d .no _ _ (hh j (by simpa using hj))⟩) ?_ hav⟩
              refine isCell_of_rep (vs := fun j => vs.getD j Go.undef) (fun j hj => h1 _ ?_) hh
              simp [Array.getD, hs, hj]
            | _ => simp [AV.isAggr] at hag
          | agg cs =>
            cases hr with | agg _ _ vs hs hh hc hf =>
            exact ⟨vs, rfl, part_ok hT hft hs (fun j hj => ⟨.no, hh j hj⟩) hc hav⟩
          | _ => simp [AV.isAggr] at hag
        have hfree : (∃ G a w, Rel G σ a w) → av.free = true := by
          rintro ⟨G, a, w, R⟩
          obtain ⟨vs, _, val, _, h3, _⟩ := hread G a w R
          exact h3
        intro r n m G a w Q next hm R hn
        exact stepOk_pure hgd hp (by simp [hop]) (AV.free_place (AV.free_isLocal (hfree ⟨G, a, w, R⟩))) (fun G a w R => by
          obtain ⟨vs, h1, val, h2, h3, h4⟩ := hread G a w R
          exact ⟨val, by simp [execOp, hop, Instr.field, Go.underlying, hu, h1, hfl, asAgg, h2], fun d => h4 _⟩) r n m G a w Q next hm R hn
      · simp at h
  · simp at h

omit hT hgd h in
theorem listOf_ok {t : TypeId} {x : Operand} {k : Nat} {l : List D} (hl : listOf T g t x = some (k, l)) {G : Gh} {a : Act} {w : World} (R : Rel G σ a w) : RepD G.K (.list k l) (a.eval x) := by
  unfold listOf at hl
  split at hl
  · rename_i k' l' hx
    simp at hl; obtain ⟨rfl, rfl⟩ := hl
    have := (opv_ok hg R hx .no).1
    cases this; assumption
  · rename_i k' l' hx
    simp at hl; obtain ⟨rfl, rfl⟩ := hl
    have := (opv_ok hg R hx .no).1
    cases this; assumption
  · simp at hl

theorem step_len {args : Array Operand} {ts : Array TypeId} (hop : o.op = .call { callee := .builtin .len, args := args, argTypes := ts }) : StepOk P σ o ss h' := by
  simp only [evBase, hop] at h
  split at h
  · rename_i x t hargs hts
    obtain rfl : args = #[x] := by cases args; simp_all
    obtain rfl : ts = #[t] := by cases ts; simp_all
    split at h
    · rename_i sz e z ht
      split at h
      · rename_i k l hl
        refine stepOk_pure hgd h (by simp [hop]) (AV.free_place rfl) ?_
        intro G a w R
        have hr := listOf_ok hg hl R
        have hsl : ∃ b cap, a.eval x = .slice b l.length cap := by
          rcases hr.slice with ⟨rfl, oa, hv⟩ | ⟨b, off, cap, hv⟩
          · exact ⟨_, _, hv⟩
          · exact ⟨_, _, hv⟩
        obtain ⟨b, cap, hv⟩ := hsl
        refine ⟨.int .i64 l.length, ?_, fun d => .d _ _ _ (.int _ _)⟩
        simp [execOp, hop, resolve, invoke, Go.builtin, Builtin.len_, hv, Go.underlying, hT.slice ht, goInt]
      · simp at h
    · simp at h
  · simp at h

omit hT hgd h in
theorem bound_some {d : Int} {x : Operand} {z : Int} (hb : bound g T d (some x) = some z) {G : Gh} {a : Act} {w : World} (R : Rel G σ a w) : ∃ k, a.eval x = .int k z := by
  unfold bound at hb
  simp only at hb
  split at hb
  · rename_i k z' hx
    simp at hb; subst hb
    have := (opv_ok hg R hx .no).1
    cases this with | d _ _ _ h =>
    generalize a.eval x = v at h
    cases h; exact ⟨_, rfl⟩
  · simp at hb

end

theorem flat_length {k : Nat} : ∀ {l : List D}, uniform k l → (D.flat l).length = l.length * k
  | [], _ => by simp [D.flat]
  | x :: r, hu => by
    have ih := flat_length (l := r) (fun z hz => hu z (by simp [hz]))
    have hx : x.cells.length = k := hu _ (by simp)
    simp only [D.flat, List.flatMap_cons, List.length_append, List.length_cons] at ih ⊢
    rw [ih, hx, Nat.add_mul]; omega
theorem flat_append (l m : List D) : D.flat (l ++ m) = D.flat l ++ D.flat m := by simp [D.flat]
theorem flat_drop {k : Nat} {l : List D} (hu : uniform k l) (n : Nat) : D.flat (l.drop n) = (D.flat l).drop (n * k) := by
  by_cases hn : n ≤ l.length
  · have this : (D.flat (l.take n)).length = n * k := by
      rw [flat_length (k := k) (fun x hx => hu x (List.mem_of_mem_take hx))]; simp [Nat.min_eq_left hn]
    have e : D.flat l = D.flat (l.take n) ++ D.flat (l.drop n) := by rw [← flat_append, List.take_append_drop]
    rw [e, List.drop_left' this]
  · rw [List.drop_of_length_le (by omega), List.drop_of_length_le]
    · rfl
    · rw [flat_length hu]; exact Nat.mul_le_mul_right k (by omega)
theorem flat_take {k : Nat} {l : List D} (hu : uniform k l) (n : Nat) : D.flat (l.take n) = (D.flat l).take (n * k) := by
  by_cases hn : n ≤ l.length
  · have this : (D.flat (l.take n)).length = n * k := by
      rw [flat_length (k := k) (fun x hx => hu x (List.mem_of_mem_take hx))]; simp [Nat.min_eq_left hn]
    have e : D.flat l = D.flat (l.take n) ++ D.flat (l.drop n) := by rw [← flat_append, List.take_append_drop]
    rw [e, List.take_left' this]
  · rw [List.take_of_length_le (by omega), List.take_of_length_le]
    rw [flat_length hu]; exact Nat.mul_le_mul_right k (by omega)
theorem uniform.sub {k : Nat} {l : List D} (hu : uniform k l) (n m : Nat) : uniform k ((l.drop n).take m) := fun x hx => hu x (List.mem_of_mem_drop (List.mem_of_mem_take hx))

/-- Part of a list. -/
theorem RepD.sub {K : Addr → Option Value} {k : Nat} {l : List D} {b off cap : Nat} (hr : RepD K (.list k l) (.slice (some ⟨b, off, none⟩) l.length cap)) {lo hi cap' : Nat} (h1 : lo ≤ hi) (h2 : hi ≤ l.length)
    (h3 : hi - lo ≤ cap') : RepD K (.list k ((l.drop lo).take (hi - lo))) (.slice (some ⟨b, off + lo * k, none⟩) (hi - lo) cap') := by
  generalize hv : Value.slice (some ⟨b, off, none⟩) l.length cap = v at hr
  cases hr with
  | nil => simp at hv
  | none0 =>
    simp at h2
    subst h2
    obtain rfl : lo = 0 := by omega
    simpa using RepD.list (K := K) k [] b off cap' (fun _ => Go.undef) (fun x hx => by simp at hx) (by simp) (fun j hj => by simp [D.flat] at hj) (fun j hj => by simp [D.flat] at hj) (fun j hj => by simp [D.flat] at hj)
  | list k l b' off' cap'' vs hu hc hK h1c hh =>
    simp at hv
    obtain ⟨⟨rfl, rfl⟩, _⟩ := hv
    have hlen : ((l.drop lo).take (hi - lo)).length = hi - lo := by simp; omega
    have hfl : D.flat ((l.drop lo).take (hi - lo)) = ((D.flat l).drop (lo * k)).take ((hi - lo) * k) := by
      rw [flat_take (k := k) (fun x hx => hu x (List.mem_of_mem_drop hx)), flat_drop hu]
    have hflen := flat_length hu
    have := RepD.list (K := K) k ((l.drop lo).take (hi - lo)) b (off + lo * k) cap' (fun j => vs (lo * k + j)) (hu.sub _ _) (by omega) (fun j hj => ?_) (fun j hj => ?_) (fun j hj => ?_)
    · rwa [hlen] at this
    · rw [flat_length (hu.sub _ _), hlen] at hj
      have hlt : lo * k + j < (D.flat l).length := by
        rw [hflen]
        calc lo * k + j < lo * k + (hi - lo) * k := by omega
          _ = hi * k := by rw [← Nat.add_mul]; congr 1; omega
          _ ≤ l.length * k := Nat.mul_le_mul_right k h2
      rw [show off + lo * k + j = off + (lo * k + j) by omega]
      exact hK _ hlt
    · rw [hfl] at hj
      exact h1c _ (by simp at hj; omega)
    · have hj' := hj
      rw [hfl] at hj'
      have hlt : lo * k + j < (D.flat l).length := by
        simp at hj'; omega
      have := hh (lo * k + j) hlt
      have e : (D.flat ((l.drop lo).take (hi - lo)))[j] = (D.flat l)[lo * k + j] := by
        simp only [hfl, List.getElem_take, List.getElem_drop]
      rw [e]; exact this

/-- A list that is empty. -/
theorem RepD.empty (K : Addr → Option Value) (k : Nat) (b off cap : Nat) : RepD K (.list k []) (.slice (some ⟨b, off, none⟩) 0 cap) :=
  .list k [] b off cap (fun _ => Go.undef) (fun x hx => by simp at hx) (Nat.zero_le _) (fun j hj => by simp [D.flat] at hj) (fun j hj => by simp [D.flat] at hj) (fun j hj => by simp [D.flat] at hj)

section
variable {P : Program} {T : Types} (hT : TOk P T) {σ : St} {g : Nat → AV} {o : Oper} {ss : Sets} {h' : Option (List Obj)} {H : List Obj} {an : Ann}
  (hg : Less g σ) (hgd : ∀ d, o.dst = some d → g d = σ.get d) (h : evBase Ar.std T an σ.n g H o = some (ss, h'))
include hT hg hgd h

omit hT hg hgd h in
theorem run_sliceBounds {w : World} {len cap nl nh m : Nat} {low high max : Option Value} (hlo : (low = none ∧ nl = 0) ∨ ∃ k, low = some (.int k nl))
    (hhi : (high = none ∧ nh = len) ∨ ∃ k, high = some (.int k nh)) (hmx : (max = none ∧ m = cap) ∨ ((∃ k, max = some (.int k m)) ∧ high.isSome = true))
    (h1 : nl ≤ nh) (h2 : nh ≤ m) (h3 : m ≤ cap) : (Instr.sliceBounds true len cap low high max).run P w = .ok (nl, nh, m) w := by
  have h4 : nh ≤ cap := by omega
  have c1 := Nat.not_lt.2 h1
  have c2 := Nat.not_lt.2 h2
  have c3 := Nat.not_lt.2 h3
  have c4 := Nat.not_lt.2 h4
  rcases hmx with ⟨rfl, rfl⟩ | ⟨⟨km, rfl⟩, hhs⟩
  · rcases hhi with ⟨rfl, rfl⟩ | ⟨kh, rfl⟩ <;> rcases hlo with ⟨rfl, rfl⟩ | ⟨kl, rfl⟩ <;> simp [Instr.sliceBounds, Instr.sliceBound, asIntOf, h1, h4, c1, c4]
  · rcases hhi with ⟨rfl, rfl⟩ | ⟨kh, rfl⟩
    · simp at hhs
    · rcases hlo with ⟨rfl, rfl⟩ | ⟨kl, rfl⟩ <;> simp [Instr.sliceBounds, Instr.sliceBound, asIntOf, h1, h2, h3, c1, c2, c3]

omit hT hg hgd h in
theorem elemSize_some {t : TypeId} {k : Nat} (he : elemSize T t = some k) : ∃ sz e z td, T t = some ⟨sz, .slice e, z⟩ ∧ T e = some td ∧ td.size = k := by
  unfold elemSize at he
  split at he
  · rename_i sz e z ht
    simp at he
    obtain ⟨td, h1, h2⟩ := he
    exact ⟨_, _, _, td, ht, h1, h2⟩
  · simp at he

theorem step_slice {t : TypeId} {x : Operand} {lo hi mx : Option Operand} (hop : o.op = .slice t x lo hi mx) : StepOk P σ o ss h' := by
  simp only [evBase, hop] at h
  split at h
  · rename_i es hes
    obtain ⟨sz, e, z, td, ht, hte, rfl⟩ := elemSize_some hes
    split at h
    · rename_i k l hl
      split at h
      · simp at h
      rename_i hk
      obtain rfl : k = td.size := by simpa using hk
      split at h
      · rename_i zh zl hbh hbl
        split at h
        · rename_i hb
          simp [Ar.std] at hb
          obtain ⟨⟨⟨hb0, hb1⟩, hb2⟩, hb3⟩ := hb
          obtain ⟨nl, rfl⟩ := Int.eq_ofNat_of_zero_le hb0
          obtain ⟨nh, rfl⟩ := Int.eq_ofNat_of_zero_le (Int.le_trans hb0 hb1)
          have hnl : nl ≤ nh := by omega
          have hnh : nh ≤ l.length := by omega
          -- what the operation does
          have key : ∀ G a w, Rel G σ a w → ∀ (b : Option Addr) (cap m : Nat), a.eval x = .slice b l.length cap → nh ≤ m → m ≤ cap →
              ((mx = none ∧ m = cap) ∨ ∃ y kk, mx = some y ∧ a.eval y = .int kk m) →
              (execOp a.eval o).run P w = .ok (.value (.slice (if m = nl then b else b.map (·.add (nl * td.size))) (nh - nl) (m - nl))) w := by
            intro G a w R b cap m hx h1 h2 hm
            have hrun := run_sliceBounds (P := P) (w := w) (len := l.length) (cap := cap) (nl := nl) (nh := nh) (m := m) (low := lo.map a.eval) (high := hi.map a.eval) (max := mx.map a.eval)
              (by cases lo with
                | none => simp [bound] at hbl; exact .inl ⟨rfl, by omega⟩
                | some y => obtain ⟨kk, e⟩ := bound_some hg hbl R; exact .inr ⟨kk, by simp [e]⟩)
              (by cases hi with
                | none => simp [bound, Ar.std] at hbh; exact .inl ⟨rfl, by omega⟩
                | some y => obtain ⟨kk, e⟩ := bound_some hg hbh R; exact .inr ⟨kk, by simp [e]⟩)
              (by rcases hm with ⟨rfl, rfl⟩ | ⟨y, kk, rfl, e⟩
                  · exact .inl ⟨rfl, rfl⟩
                  · refine .inr ⟨⟨kk, by simp [e]⟩, ?_⟩
                    rcases hb3 with hb3 | hb3
                    · simp at hb3
                    · cases hi <;> simp_all) hnl h1 h2
            simp [execOp, hop, Instr.sliceAt, Instr.slice, Go.underlying, hT.slice ht, hx, hrun, hT.size hte]
          have hnl0 : (nl : Int).toNat = nl := by omega
          have hnh0 : (nh : Int).toNat = nh := by omega
          cases mx with
          | none =>
            simp only [Ar.std, hnl0, hnh0] at h
            refine stepOk_pure hgd h (by simp [hop]) (AV.free_place rfl) ?_
            intro G a w R
            have hr := listOf_ok hg hl R
            rcases hr.slice with ⟨rfl, oa, hv⟩ | ⟨b, off, cap, hv⟩
            · refine ⟨_, key G a w R oa 0 0 (by simpa using hv) (by simpa using hnh) (by omega) (.inl ⟨rfl, rfl⟩), fun d => .d _ _ _ ?_⟩
              have e1 : nh = 0 := by simpa using hnh
              have e2 : nl = 0 := by omega
              subst e1 e2
              simpa using RepD.zero _ td.size oa
            · rw [hv] at hr
              have hcap : l.length ≤ cap := by
                generalize hv' : Value.slice (some ⟨b, off, none⟩) l.length cap = v at hr
                cases hr with
                | nil => simp at hv'
                | none0 => simp
                | list k l b' off' cap' vs hu hc => simp at hv'; omega
              refine ⟨_, key G a w R _ cap cap hv (by omega) (Nat.le_refl _) (.inl ⟨rfl, rfl⟩), fun d => .d _ _ _ ?_⟩
              by_cases hm : cap = nl
              · have e1 : nh - nl = 0 := by omega
                rw [if_pos hm, e1, show cap - nl = 0 by omega]
                simpa using RepD.empty G.K td.size b off 0
              · simp only [if_neg hm, Option.map_some, Addr.add_none]
                exact hr.sub hnl hnh (by omega)
          | some y =>
            simp only at h
            cases hby : bound g T 0 (some y) with
            | none => simp [hby] at h
            | some zm =>
              simp only [hby] at h
              split at h
              · rename_i hzm
                simp [Ar.std] at hzm
                subst hzm
                simp only [Ar.std, hnl0, hnh0] at h
                refine stepOk_pure hgd h (by simp [hop]) (AV.free_place rfl) ?_
                intro G a w R
                have hr := listOf_ok hg hl R
                obtain ⟨kk, hey⟩ := bound_some hg hby R
                rcases hr.slice with ⟨rfl, oa, hv⟩ | ⟨b, off, cap, hv⟩
                · have e1 : nh = 0 := by simpa using hnh
                  have e2 : nl = 0 := by omega
                  subst e1 e2
                  refine ⟨_, key G a w R oa 0 0 (by simpa using hv) (by omega) (by omega) (.inr ⟨y, kk, rfl, by simpa using hey⟩), fun d => .lim _ _ _ _ (by simpa using RepD.zero _ td.size oa) ?_⟩
                  intro aa n cap e; simp at e; omega
                · rw [hv] at hr
                  have hcap : l.length ≤ cap := by
                    generalize hv' : Value.slice (some ⟨b, off, none⟩) l.length cap = v at hr
                    cases hr with
                    | nil => simp at hv'
                    | none0 => simp
                    | list k l b' off' cap' vs hu hc => simp at hv'; omega
                  refine ⟨_, key G a w R _ cap nh hv (Nat.le_refl _) (by omega) (.inr ⟨y, kk, rfl, hey⟩), fun d => .lim _ _ _ _ ?_ ?_⟩
                  · by_cases hm : nh = nl
                    · have e1 : nh - nl = 0 := by omega
                      rw [if_pos hm, e1]
                      simpa using RepD.empty G.K td.size b off 0
                    · simp only [if_neg hm, Option.map_some, Addr.add_none]
                      exact hr.sub hnl hnh (Nat.le_refl _)
                  · intro aa n cap' e
                    simp at e; omega
              · simp at h
        · simp at h
      · simp at h
    · simp at h
  · split at h
    · rename_i sz m e zc cs ht hA
      split at h
      · rename_i td hte
        split at h
        · rename_i hb
          obtain ⟨hb1, hb2, hb3⟩ := hb
          refine stepOk_pure hgd h (by simp [hop]) (AV.free_place rfl) ?_
          intro G a w R
          obtain ⟨b, off, vs, hp, hK, h1, hh⟩ := adr_ok hg R hA
          have hone : ∀ (l : List D), l.all D.isOne = true → uniform 1 l ∧ D.flat l = l := by
            intro l
            induction l with
            | nil => intro _; exact ⟨fun x hx => by simp at hx, rfl⟩
            | cons y r ih =>
              intro hl
              simp only [List.all_cons, Bool.and_eq_true] at hl
              obtain ⟨i1, i2⟩ := ih hl.2
              have hy : y.cells = [y] := by cases y <;> first | rfl | (simp [D.isOne] at hl)
              refine ⟨fun x hx => ?_, by unfold D.flat at i2 ⊢; rw [List.flatMap_cons, hy, i2]; rfl⟩
              rcases List.mem_cons.1 hx with rfl | hx
              · rw [hy]; rfl
              · exact i1 x hx
          obtain ⟨u1, u2⟩ := hone cs hb3
          refine ⟨.slice (some ⟨b, off, none⟩) m m, ?_, fun d => .d _ _ _ ?_⟩
          · have e1 : ∀ q : Nat, ({ block := b, off := off, spot := none } : Addr).add (q * 0) = ⟨b, off, none⟩ := fun q => by rw [Nat.mul_zero]; rfl
            simp [execOp, hop, hp, Instr.sliceAt, Go.underlying, hT.array ht, Instr.sureAddr, Instr.sliceBounds, hT.size hte]
            try (intro; rfl)
          · have := RepD.list (K := G.K) 1 cs b off m vs u1 (by omega) (by rw [u2]; exact hK) (by rw [u2]; exact h1) (by simp only [u2]; exact hh)
            rwa [hb2] at this
        · simp at h
      · simp at h
    · simp at h
end
end Go.Am
