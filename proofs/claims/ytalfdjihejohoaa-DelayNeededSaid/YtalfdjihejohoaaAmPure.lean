/- Types as the program has them; operands; operations that leave memory as it is. -/
import Derived.Test.YtalfdjihejohoaaAmRep
namespace Go.Am
open Go

/-- A zero cell. -/
def zeroCell : AV → Value → Bool
  | .d (.int k n), .int k' n' => decide (k = k' ∧ n = n')
  | .d (.bool b), .bool b' => b == b'
  | .d (.str s), .string s' => decide (s.data = s'.data)
  | .d .nilIface, .nilIface => true
  | .own _ [], .slice none 0 0 => true
  | .nilptr, .pointer none => true
  | .nilmap, .map none => true
  | .nilfunc, .nilFunc => true
  | _, _ => false

theorem zeroCell_ok {c : AV} {v : Value} (h : zeroCell c v = true) : (∀ G w ℓ, RepV G w ℓ c v) ∧ c.isCell = true ∧ v.oneCell' = true := by
  unfold zeroCell at h
  split at h <;> simp at h
  case h_1 => obtain ⟨rfl, rfl⟩ := h; exact ⟨fun G w ℓ => .d _ _ _ (.int _ _), rfl, rfl⟩
  case h_2 => subst h; exact ⟨fun G w ℓ => .d _ _ _ (.bool _), rfl, rfl⟩
  case h_3 s s' => obtain rfl : s = s' := by cases s; cases s'; simp_all
                   exact ⟨fun G w ℓ => .d _ _ _ (.str _), rfl, rfl⟩
  case h_4 => exact ⟨fun G w ℓ => .d _ _ _ .nilIface, rfl, rfl⟩
  case h_5 => exact ⟨fun G w ℓ => .own _ _ _ _ (.nil _) (fun a n cap e => by cases e), rfl, rfl⟩
  case h_6 => exact ⟨fun G w ℓ => .nilptr _, rfl, rfl⟩
  case h_7 => exact ⟨fun G w ℓ => .nilmap _, rfl, rfl⟩
  case h_8 => exact ⟨fun G w ℓ => .nilfunc _, rfl, rfl⟩

def uOk : TU → TypeDesc → Bool
  | .slice e, .slice e' => e == e'
  | .array n e, .array n' e' => n == n' && e == e'
  | .struct fs, .struct fields => fields.toList.map (fun f => (f.type, f.offset)) == fs
  | .map k e, .map k' e' => k == k' && e == e'
  | .int k, .int k' => decide (k = k')
  | .bool, .bool => true
  | .string, .string => true
  | .other, d => !(d matches .struct _ | .array _ _)
  | _, _ => false

def zKind (agg : Bool) : Value → Bool
  | .agg _ => agg
  | .tuple _ => false
  | _ => !agg
/-- Values of structs are compared field by field. -/
def eqKnown (P : Program) (t : TypeId) (d : TypeDesc) : Bool :=
  decide (8 ≤ P.depth) &&
  match d with
  | .struct fields => !P.stoodInHeld t && fields.all fun f => f.name != "_"
  | _ => true
def tdOk (P : Program) (t : TypeId) (td : TD) : Bool :=
  match P.info? t, P.underlying t with
  | some i, some d =>
    (i.size == td.size && decide (i.bytes ≤ 4096) && uOk td.u d && eqKnown P t d) &&
    (match i.zero with
     | some z => z.cells.size == td.size && td.zero.length == td.size && ((td.zero.zip z.cells.toList).all fun p => zeroCell p.1 p.2) && zKind td.isAgg z
     | none => false)
  | _, _ => false

structure TOk (P : Program) (T : Types) : Prop where
  ok : ∀ t td, T t = some td → tdOk P t td = true

def tlook : List (TypeId × TD) → Types
  | [], _ => none
  | (s, d) :: r, t => if s = t then some d else tlook r t
theorem TOk.of_list {P : Program} {l : List (TypeId × TD)} (h : l.all (fun p => tdOk P p.1 p.2) = true) : TOk P (tlook l) := by
  refine ⟨?_⟩
  induction l with
  | nil => intro t td h; simp [tlook] at h
  | cons p r ih =>
    intro t td ht
    simp only [List.all_cons, Bool.and_eq_true] at h
    obtain ⟨s, d⟩ := p
    simp only [tlook] at ht
    split at ht
    · cases ht; rename_i hs; subst hs; exact h.1
    · exact ih h.2 t td ht

section
variable {P : Program} {T : Types} (hT : TOk P T)
include hT

theorem TOk.info {t : TypeId} {td : TD} (h : T t = some td) :
    ∃ i d, P.info? t = some i ∧ P.underlying t = some d ∧ i.size = td.size ∧ i.bytes ≤ 4096 ∧ uOk td.u d = true ∧
      ∃ z, i.zero = some z ∧ z.cells.size = td.size ∧ td.zero.length = td.size ∧ ∀ (j : Nat) (hj : j < td.zero.length), zeroCell td.zero[j] (z.cells.getD j Go.undef) = true := by
  have h := hT.ok t td h
  unfold tdOk at h
  split at h
  · rename_i i d hi hd
    split at h
    · rename_i z hz
      simp only [Bool.and_eq_true, beq_iff_eq, decide_eq_true_eq, List.all_eq_true] at h
      obtain ⟨⟨⟨⟨h1, h2⟩, h3⟩, _⟩, ⟨⟨h4, h5⟩, h6⟩, _⟩ := h
      refine ⟨i, d, hi, hd, h1, h2, h3, z, hz, h4, h5, fun j hj => ?_⟩
      have hj' : j < z.cells.size := by omega
      have := h6 (td.zero[j], z.cells[j]) (by
        refine List.mem_iff_getElem.2 ⟨j, by simp; omega, ?_⟩
        simp)
      simpa [Array.getD, hj'] using this
    · simp at h
  · simp at h

theorem TOk.zeroKind {t : TypeId} {td : TD} (h : T t = some td) {i : TypeInfo} (hi : P.info? t = some i) {z : Value} (hz : i.zero = some z) : zKind td.isAgg z = true := by
  have h := hT.ok t td h
  unfold tdOk at h
  split at h
  · rename_i i' d hi' hd
    rw [hi] at hi'; cases hi'
    rw [hz] at h
    simp only [Bool.and_eq_true] at h
    exact h.2.2
  · simp at h
theorem TOk.eqKnown {t : TypeId} {td : TD} (h : T t = some td) : ∃ d, P.underlying t = some d ∧ Am.eqKnown P t d = true := by
  have h := hT.ok t td h
  unfold tdOk at h
  split at h
  · rename_i i d hi hd
    simp only [Bool.and_eq_true] at h
    exact ⟨d, hd, h.1.2⟩
  · simp at h
theorem TOk.size {t : TypeId} {td : TD} (h : T t = some td) (w : World) : (sizeOf t).run P w = .ok td.size w := by
  obtain ⟨i, d, hi, _, hs, _⟩ := hT.info h
  simp [sizeOf, typeInfo, hi, hs]
theorem TOk.under {t : TypeId} {td : TD} (h : T t = some td) : ∃ d, P.underlying t = some d ∧ uOk td.u d = true := by
  obtain ⟨i, d, _, hd, _, _, hu, _⟩ := hT.info h
  exact ⟨d, hd, hu⟩
theorem TOk.slice {t e : TypeId} {sz : Nat} {z : List AV} (h : T t = some ⟨sz, .slice e, z⟩) : P.underlying t = some (.slice e) := by
  obtain ⟨d, hd, hu⟩ := hT.under h
  cases d <;> simp [uOk] at hu
  subst hu; exact hd
theorem TOk.array {t e : TypeId} {n sz : Nat} {z : List AV} (h : T t = some ⟨sz, .array n e, z⟩) : P.underlying t = some (.array n e) := by
  obtain ⟨d, hd, hu⟩ := hT.under h
  cases d <;> simp [uOk] at hu
  obtain ⟨rfl, rfl⟩ := hu; exact hd
theorem TOk.int {t : TypeId} {sz : Nat} {k : IntKind} {z : List AV} (h : T t = some ⟨sz, .int k, z⟩) : P.underlying t = some (.int k) := by
  obtain ⟨d, hd, hu⟩ := hT.under h
  cases d <;> simp [uOk] at hu
  subst hu; exact hd
theorem TOk.struct {t : TypeId} {sz : Nat} {fs : List (TypeId × Nat)} {z : List AV} (h : T t = some ⟨sz, .struct fs, z⟩) :
    ∃ fields, P.underlying t = some (.struct fields) ∧ fields.toList.map (fun f => (f.type, f.offset)) = fs := by
  obtain ⟨d, hd, hu⟩ := hT.under h
  cases d <;> simp [uOk] at hu
  exact ⟨_, hd, hu⟩
theorem TOk.isAgg {t : TypeId} {td : TD} (h : T t = some td) (w : World) : (isAgg t).run P w = .ok td.isAgg w := by
  obtain ⟨d, hd, hu⟩ := hT.under h
  unfold Go.isAgg Go.underlying
  simp only [Sem.run_bind, run_program, Result.andThen_ok, hd, Sem.run_pure]
  obtain ⟨sz, u, z⟩ := td
  cases u <;> cases d <;> simp [uOk] at hu <;> simp [TD.isAgg]
end

/-! ### Values -/
theorem RepD.oneCell {K : Addr → Option Value} {x : D} {v : Value} (h : RepD K x v) (hx : ∀ l, x ≠ .agg l) : v.oneCell' = true := by
  cases h <;> first | rfl | (exact absurd rfl (hx _))
theorem RepV.oneCell {G : Gh} {w : World} {ℓ : Loc} {c : AV} {v : Value} (h : RepV G w ℓ c v) (hc : c.isCell = true) : v.oneCell' = true := by
  cases h <;> first | rfl | (simp [AV.isCell] at hc; done) | skip
  case d x h => exact h.oneCell (by rintro l rfl; simp [AV.isCell] at hc)
  case own k l h ht => exact h.oneCell (by rintro l h; cases h)
  case lim k l h ht => exact h.oneCell (by rintro l h; cases h)
theorem AV.copy_isLocal (c : AV) : c.copy.isLocal = false := by cases c <;> rfl
theorem AV.copy_isCell {c : AV} (h : c.isCell = true) : c.copy.isCell = true := by cases c <;> first | exact h | rfl | (simp [AV.isCell] at h)
theorem RepV.copy {G : Gh} {w : World} {ℓ : Loc} {c : AV} {v : Value} (h : RepV G w ℓ c v) (ℓ' : Loc) : RepV G w ℓ' c.copy v := by
  cases h with
  | undef => exact .undef _ _
  | abool _ b => exact .abool _ b
  | d _ x v h => exact .d _ _ _ h
  | ptr _ a off ha => exact .ptr _ _ _ ha
  | nilptr => exact .nilptr _
  | iptr _ cs b off vs hK h1 h => exact .iptr _ _ _ _ _ hK h1 h
  | own _ k l v h ht => exact .d _ _ _ h
  | lim _ k l v h ht => exact .d _ _ _ h
  | func _ f as bs va vb ha hb h h' hc hc' => exact .func _ _ _ _ _ _ ha hb h h' hc hc'
  | nilfunc => exact .nilfunc _
  | yield _ l hl => exact .yield _ _ hl
  | map _ a ha => exact .map _ _ ha
  | nilmap => exact .nilmap _
  | lbox => exact .undef _ _
  | place => exact .undef _ _
  | mref _ a k lo n b off cap ha h1 h2 h3 h4 => exact .mref _ _ _ _ _ _ _ _ ha h1 h2 h3 h4
  | eptr _ a k i j ha hi => exact .eptr _ _ _ _ _ ha hi
  | agg _ cs vs hs h hc hf => exact .agg _ _ _ hs h hc hf
  | tuple _ cs vs hs h hc => exact .tuple _ _ _ hs h hc
theorem AV.copy_free (c : AV) : c.copy.free = true := by cases c <;> rfl
theorem AV.copy_of_free {c : AV} (h : c.free = true) : c.copy = c := by cases c <;> first | rfl | (simp [AV.free] at h)
theorem RepV.anywhere {G : Gh} {w : World} {ℓ : Loc} {c : AV} {v : Value} (h : RepV G w ℓ c v) (hc : c.free = true) (ℓ' : Loc) : RepV G w ℓ' c v := by
  have := h.copy ℓ'
  rwa [AV.copy_of_free hc] at this

/-- The abstract environment that operations look at: what slots hold, or less. -/
def Less (g : Nat → AV) (σ : St) : Prop := ∀ t, g t = σ.get t ∨ g t = .undef
theorem Less.rep {g : Nat → AV} {σ : St} {G : Gh} {a : Act} {w : World} (hg : Less g σ) (R : Rel G σ a w) (t : Nat) : RepV G w (.s t) (g t) (a.tmps.getD t Go.undef) := by
  rcases hg t with h | h
  · rw [h]; exact R.slots t
  · rw [h]; exact .undef _ _
theorem Less.eq {g : Nat → AV} {σ : St} (hg : Less g σ) {t : Nat} {c : AV} (h : g t = c) (hc : c ≠ .undef) : σ.get t = c := by
  rcases hg t with h' | h'
  · rw [← h', h]
  · rw [h'] at h; exact absurd h.symm hc

theorem constAV_ok {T : Types} {t : TypeId} {v : Value} {c : AV} (h : constAV T t v = some c) (G : Gh) (w : World) (ℓ : Loc) : RepV G w ℓ c v ∧ c.isLocal = false := by
  unfold constAV at h
  split at h <;> simp at h
  case h_1 => subst h; exact ⟨.d _ _ _ (.bool _), rfl⟩
  case h_2 => subst h; exact ⟨.d _ _ _ (.int _ _), rfl⟩
  case h_3 => subst h; exact ⟨.d _ _ _ (.str _), rfl⟩
  case h_4 => obtain ⟨k, _, rfl⟩ := h; exact ⟨.own _ _ _ _ (.nil _) (fun a n cap e => by cases e), rfl⟩
  case h_5 => subst h; exact ⟨.nilptr _, rfl⟩
  case h_6 => subst h; exact ⟨.nilmap _, rfl⟩
  case h_7 => subst h; exact ⟨.nilfunc _, rfl⟩
  case h_8 => subst h; exact ⟨.d _ _ _ .nilIface, rfl⟩

theorem opv_ok {T : Types} {g : Nat → AV} {σ : St} {G : Gh} {a : Act} {w : World} (hg : Less g σ) (R : Rel G σ a w) {t : TypeId} {x : Operand} {c : AV} (h : opv T g t x = some c) (ℓ : Loc) :
    RepV G w ℓ c (a.eval x) ∧ c.isLocal = false := by
  cases x with
  | tmp i => simp [opv] at h; subst h; exact ⟨(hg.rep R i).copy ℓ, AV.copy_isLocal _⟩
  | const v => exact constAV_ok h G w ℓ
  | func f => simp [opv] at h; subst h; exact ⟨.func _ _ _ _ #[] #[] rfl rfl (fun i hi => by simp at hi) (fun i hi => by simp at hi) (by simp) (by simp), rfl⟩
  | global k => simp [opv] at h

theorem dataOf_some : ∀ {cs : List AV} {ds : List D}, dataOf cs = some ds → ds.length = cs.length ∧
    ∀ (i : Nat) (hi : i < cs.length) (hi' : i < ds.length) (G : Gh) (w : World) (ℓ : Loc) (v : Value), RepV G w ℓ cs[i] v → RepD G.K ds[i] v
  | [], ds, h => by simp [dataOf] at h; subst h; exact ⟨rfl, fun i hi => by simp at hi⟩
  | c :: r, ds, h => by
    unfold dataOf at h
    split at h
    · rename_i heq; cases heq
    · rename_i x r' heq; cases heq
      cases hr : dataOf r with
      | none => simp [hr] at h
      | some es =>
        simp [hr] at h; subst h
        obtain ⟨h1, h2⟩ := dataOf_some hr
        refine ⟨by simp [h1], fun i hi hi' G w ℓ v hv => ?_⟩
        cases i with
        | zero => cases hv; assumption
        | succ i => exact h2 i (by simpa using hi) (by simpa using hi') G w ℓ v hv
    · rename_i k l r' heq; cases heq
      cases hr : dataOf r with
      | none => simp [hr] at h
      | some es =>
        simp [hr] at h; subst h
        obtain ⟨h1, h2⟩ := dataOf_some hr
        refine ⟨by simp [h1], fun i hi hi' G w ℓ v hv => ?_⟩
        cases i with
        | zero => cases hv; assumption
        | succ i => exact h2 i (by simpa using hi) (by simpa using hi') G w ℓ v hv
    · rename_i k l r' heq; cases heq
      cases hr : dataOf r with
      | none => simp [hr] at h
      | some es =>
        simp [hr] at h; subst h
        obtain ⟨h1, h2⟩ := dataOf_some hr
        refine ⟨by simp [h1], fun i hi hi' G w ℓ v hv => ?_⟩
        cases i with
        | zero => cases hv; assumption
        | succ i => exact h2 i (by simpa using hi) (by simpa using hi') G w ℓ v hv
    · simp at h

theorem mkAgg_ok {cs : List AV} {G : Gh} {w : World} {vs : Array Value} (hs : vs.size = cs.length) (h : ∀ (i : Nat) (hi : i < cs.length), ∃ ℓ, RepV G w ℓ cs[i] (vs.getD i Go.undef))
    (hc : ∀ c ∈ cs, c.isCell = true) (ℓ : Loc) : RepV G w ℓ (mkAgg cs) (.agg vs) ∧ (mkAgg cs).free = true := by
  unfold mkAgg
  cases hd : dataOf cs with
  | some ds =>
    obtain ⟨h1, h2⟩ := dataOf_some hd
    refine ⟨.d _ _ _ (.agg _ _ (by omega) (fun i hi => ?_) ?_), rfl⟩
    · obtain ⟨ℓ', hv⟩ := h i (by omega)
      exact h2 i (by omega) hi G w ℓ' _ hv
    · intro v hv
      obtain ⟨i, hi, rfl⟩ := Array.mem_iff_getElem.1 hv
      obtain ⟨ℓ', hv⟩ := h i (by omega)
      have := hv.oneCell (hc _ (List.getElem_mem (by omega)))
      simpa [Array.getD, hi] using this
  | none =>
    refine ⟨.agg _ _ _ (by simpa using hs) (fun i hi => ?_) ?_ ?_, rfl⟩
    · obtain ⟨ℓ', hv⟩ := h i (by simpa using hi)
      simpa using hv.copy .no
    · intro c hc'
      obtain ⟨c', h1, rfl⟩ := List.mem_map.1 hc'
      exact AV.copy_isCell (hc _ h1)
    · intro c hc'
      obtain ⟨c', h1, rfl⟩ := List.mem_map.1 hc'
      exact AV.copy_free _

/-- The cells of a represented value. -/
theorem RepV.cells {G : Gh} {w : World} {ℓ : Loc} {c : AV} {v : Value} (h : RepV G w ℓ c v) (hfree : c.free = true) (hundef : c ≠ .undef) (ht : ∀ l, c ≠ .tuple l) :
    v.cells.size = c.cells.length ∧ ∀ (i : Nat) (hi : i < c.cells.length) (ℓ' : Loc), RepV G w ℓ' c.cells[i] (v.cells.getD i Go.undef) := by
  have one : ∀ {c : AV} {v : Value}, RepV G w ℓ c v → c.free = true → c.cells = [c] → v.cells = #[v] → v.cells.size = c.cells.length ∧ ∀ (i : Nat) (hi : i < c.cells.length) (ℓ' : Loc), RepV G w ℓ' c.cells[i] (v.cells.getD i Go.undef) := by
    intro c v h hf h1 h2
    refine ⟨by rw [h1, h2]; rfl, fun i hi ℓ' => ?_⟩
    have : i = 0 := by rw [h1] at hi; simpa using hi
    subst this
    simp only [h1, h2]
    exact h.anywhere hf ℓ'
  cases h with
  | undef => exact absurd rfl hundef
  | abool _ b => exact one (.abool _ b) rfl rfl rfl
  | d _ x v h =>
    cases h with
    | agg cs vs hs h h1 =>
      refine ⟨by simpa [Value.cells, AV.cells] using hs, fun i hi ℓ' => ?_⟩
      simp only [AV.cells, List.length_map] at hi
      simpa [AV.cells, Value.cells] using RepV.d ℓ' _ _ (h i hi)
    | bool b => exact one (.d _ _ _ (.bool b)) rfl rfl rfl
    | int k n => exact one (.d _ _ _ (.int k n)) rfl rfl rfl
    | str s => exact one (.d _ _ _ (.str s)) rfl rfl rfl
    | nilIface => exact one (.d _ _ _ .nilIface) rfl rfl rfl
    | iface t x v h => exact one (.d _ _ _ (.iface t x v h)) rfl rfl rfl
    | nil k => exact one (.d _ _ _ (.nil k)) rfl rfl rfl
    | none0 k a => exact one (.d _ _ _ (.none0 k a)) rfl rfl rfl
    | list k l b off cap vs hu hc hK h1 h => exact one (.d _ _ _ (.list k l b off cap vs hu hc hK h1 h)) rfl rfl rfl
  | ptr _ a off ha => exact one (.ptr _ a off ha) rfl rfl rfl
  | nilptr => exact one (.nilptr _) rfl rfl rfl
  | iptr _ cs b off vs hK h1 h => exact one (.iptr _ cs b off vs hK h1 h) rfl rfl rfl
  | own => simp [AV.free] at hfree
  | lim => simp [AV.free] at hfree
  | func _ f as bs va vb ha hb h h' hc hc' => exact one (.func _ f as bs va vb ha hb h h' hc hc') rfl rfl rfl
  | nilfunc => exact one (.nilfunc _) rfl rfl rfl
  | yield _ l hl => exact one (.yield _ l hl) rfl rfl rfl
  | map _ a ha => exact one (.map _ a ha) rfl rfl rfl
  | nilmap => exact one (.nilmap _) rfl rfl rfl
  | lbox => simp [AV.free] at hfree
  | place => simp [AV.free] at hfree
  | mref _ a k lo n b off cap ha h1 h2 h3 h4 => exact one (.mref _ a k lo n b off cap ha h1 h2 h3 h4) rfl rfl rfl
  | eptr _ a k i j ha hi => exact one (.eptr _ a k i j ha hi) rfl rfl rfl
  | agg _ cs vs hs h hc hf =>
    refine ⟨by simpa [Value.cells, AV.cells] using hs, fun i hi ℓ' => ?_⟩
    simp only [AV.cells] at hi
    exact (h i hi).anywhere (hf _ (List.getElem_mem hi)) ℓ'
  | tuple => exact absurd rfl (ht _)

theorem isCell_of_rep {K : Addr → Option Value} {cs : List D} {vs : Nat → Value} (h1 : ∀ j, j < cs.length → (vs j).oneCell' = true) (hh : ∀ (j : Nat) (hj : j < cs.length), RepD K cs[j] (vs j)) :
    ∀ c ∈ cs.map AV.d, c.isCell = true := by
  intro c hc
  obtain ⟨x, hx, rfl⟩ := List.mem_map.1 hc
  obtain ⟨j, hj, rfl⟩ := List.mem_iff_getElem.1 hx
  have e1 := h1 j hj
  have e2 := hh j hj
  generalize cs[j] = x at e2
  generalize vs j = v at e1 e2
  cases x <;> first | rfl | skip
  cases e2
  simp [Value.oneCell'] at e1

/-! ### Reading out of cells -/
theorem Addr.add_none (b off n : Nat) : (⟨b, off, none⟩ : Addr).add n = ⟨b, off + n, none⟩ := by
  unfold Addr.add
  split <;> simp_all

theorem cut_some {α : Type} {cs : List α} {off n : Nat} {l : List α} (h : cut cs off n = some l) : off + n ≤ cs.length ∧ l.length = n ∧
    ∀ (i : Nat) (hi : i < l.length) (hi' : off + i < cs.length), l[i] = cs[off + i] := by
  unfold cut at h
  split at h
  · rename_i hle
    simp at h; subst h
    refine ⟨hle, by simp; omega, fun i hi hi' => ?_⟩
    simp
  · simp at h

section
variable {P : Program} {T : Types} (hT : TOk P T)
include hT

theorem loadVar_ok {t : TypeId} {td : TD} (ht : T t = some td) {G : Gh} {w : World} {b o off : Nat} {cs : List AV} {vs : Nat → Value}
    (hw : ∀ j, j < cs.length → w.cell? ⟨b, o + j, none⟩ = some (vs j)) (hr : ∀ (j : Nat) (hj : j < cs.length), ∃ ℓ, RepV G w ℓ cs[j] (vs j)) (hc : ∀ c ∈ cs, c.isCell = true)
    {av : AV} (h : readAt td cs off = some av) :
    ∃ v, (loadVar t ⟨b, o + off, none⟩).run P w = .ok v w ∧ av.free = true ∧ ∀ ℓ, RepV G w ℓ av v := by
  unfold readAt at h
  cases hcut : cut cs off td.size with
  | none => simp [hcut] at h
  | some l =>
    simp only [hcut] at h
    obtain ⟨h1, h2, h3⟩ := cut_some hcut
    unfold loadVar
    simp only [Sem.run_bind, hT.isAgg ht, Result.andThen_ok]
    by_cases hagg : td.isAgg = true
    · simp only [hagg, if_true, Option.some.injEq] at h
      subst h
      have hl := run_loadCells (P := P) w ⟨b, o + off, none⟩ td.size (fun j => vs (off + j)) (fun j hj => by
        rw [Addr.add_none, show o + off + j = o + (off + j) by omega]; exact hw _ (by omega))
      simp only [hagg, if_true, Sem.run_bind, hT.size ht, Result.andThen_ok, hl, Sem.run_pure]
      refine ⟨_, rfl, ?_⟩
      have := fun ℓ => mkAgg_ok (G := G) (w := w) (cs := l) (vs := ((List.range td.size).map fun j => vs (off + j)).toArray) (by simp [h2]) (fun i hi => by
        obtain ⟨ℓ', hv⟩ := hr (off + i) (by omega)
        refine ⟨ℓ', ?_⟩
        rw [h3 i hi (by omega)]
        simpa [show i < td.size by omega] using hv) (fun c hm => by
          obtain ⟨i, hi, rfl⟩ := List.mem_iff_getElem.1 hm
          rw [h3 i hi (by omega)]
          exact hc _ (List.getElem_mem _)) ℓ
      exact ⟨(this .no).2, fun ℓ => (this ℓ).1⟩
    · simp only [hagg, Bool.false_eq_true, if_false] at h ⊢
      cases l with
      | nil => simp at h
      | cons c r =>
        simp at h; subst h
        have hoff : off < cs.length := by simp at h2; omega
        have h0 := h3 0 (by simp) hoff
        simp at h0
        refine ⟨vs off, by simp [hw off hoff], AV.copy_free _, fun ℓ => ?_⟩
        obtain ⟨ℓ', hv⟩ := hr off hoff
        rw [h0]
        exact hv.copy ℓ

theorem part_ok {t : TypeId} {td : TD} (ht : T t = some td) {G : Gh} {w : World} {off : Nat} {cs : List AV} {vs : Array Value} (hs : vs.size = cs.length)
    (hr : ∀ (j : Nat) (hj : j < cs.length), ∃ ℓ, RepV G w ℓ cs[j] (vs.getD j Go.undef)) (hc : ∀ c ∈ cs, c.isCell = true)
    {av : AV} (h : readAt td cs off = some av) :
    ∃ v, (part t vs off).run P w = .ok v w ∧ av.free = true ∧ ∀ ℓ, RepV G w ℓ av v := by
  unfold readAt at h
  cases hcut : cut cs off td.size with
  | none => simp [hcut] at h
  | some l =>
    simp only [hcut] at h
    obtain ⟨h1, h2, h3⟩ := cut_some hcut
    unfold part
    simp only [Sem.run_bind, hT.isAgg ht, Result.andThen_ok]
    by_cases hagg : td.isAgg = true
    · simp only [hagg, if_true, Option.some.injEq] at h
      subst h
      simp only [hagg, if_true, Sem.run_bind, hT.size ht, Result.andThen_ok, Sem.run_pure]
      refine ⟨_, rfl, ?_⟩
      have := fun ℓ => mkAgg_ok (G := G) (w := w) (cs := l) (vs := vs.extract off (off + td.size)) (by simp [h2]; omega) (fun i hi => by
        obtain ⟨ℓ', hv⟩ := hr (off + i) (by omega)
        refine ⟨ℓ', ?_⟩
        rw [h3 i hi (by omega)]
        rw [Array.getD_eq_getD_getElem?] at hv ⊢
        rw [Array.getElem?_extract, if_pos (by omega)]
        exact hv) (fun c hm => by
          obtain ⟨i, hi, rfl⟩ := List.mem_iff_getElem.1 hm
          rw [h3 i hi (by omega)]
          exact hc _ (List.getElem_mem _)) ℓ
      exact ⟨(this .no).2, fun ℓ => (this ℓ).1⟩
    · simp only [hagg, Bool.false_eq_true, if_false] at h ⊢
      cases l with
      | nil => simp at h
      | cons c r =>
        simp at h; subst h
        have hoff : off < cs.length := by simp at h2; omega
        have h0 := h3 0 (by simp) hoff
        simp at h0
        obtain ⟨ℓ', hv⟩ := hr off hoff
        have hget : vs[off]? = some (vs.getD off Go.undef) := by simp [Array.getD_eq_getD_getElem?, show off < vs.size by omega]
        refine ⟨vs.getD off Go.undef, by rw [hget]; simp, AV.copy_free _, fun ℓ => ?_⟩
        rw [h0]
        exact hv.copy ℓ
end
end Go.Am
